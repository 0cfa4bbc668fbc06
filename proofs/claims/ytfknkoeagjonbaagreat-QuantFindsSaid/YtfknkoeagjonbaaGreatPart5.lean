/- Part 5 of the proof: the evaluator, contracts of functions and their plain laws (joined by program). No condition. -/
import Derived.Test.YtfknkoeagjonbaaGreatPart4
set_option linter.unusedVariables false
set_option linter.unusedSimpArgs false
set_option maxRecDepth 100000
namespace Go.Proofs.YtfknkoeagjonbaaGreat
open Go.Ev
abbrev spanV (a b:Nat):SV := .agg [natV (lim a),natV (lim b)]
theorem lim_len_shl {a n:Nat}:(lim (a*2^n)).length<=(lim a).length+n/32+1:=by
 refine lim_len_lt ?_;have h1:=lim_len_pow (a:=a);have h2:2^n<=4294967296^(n/32+1):=by
  rw[show (4294967296:Nat)=2^32 from rfl,<- zF];exact xD (by omega) (by omega)
 calc a*2^n<4294967296^(lim a).length*2^n:=yq h1 (xK (by omega))
  _<=4294967296^(lim a).length*4294967296^(n/32+1):=xI _ h2
  _=4294967296^((lim a).length+n/32+1):=by rw[<- xM,zR]
theorem fix_Over' {N D:Nat} (hD:D≠0:=by omega) (hl:(lim N).length<=68719476736:=by omega) (hm:(lim D).length<=68719476736:=by omega):Go.Ev.Fn CX 201 [natV (lim N),natV (lim D)] (natV (lim (N/D))):=by
 have h:=nat_DivL hD hl hm;refine fni Tryz.f201 ?_;unfold Tryz.f201;repeat (first|simp only[go_sem]|simp (disch:=first|exact omg|fail) only[AX]|refine wki ?_|refine vfa ?_)
theorem fix_One:Go.Ev.Fn CX 169 [] (natV (lim 1)):=by
 have o:=nat_Of 1;refine fni Tryz.f169 ?_;unfold Tryz.f169;repeat (first|simp only[go_sem]|simp (disch:=first|exact omg|fail) only[AX]|refine wki ?_|refine vfa ?_)
theorem fix_Next {a:Nat} (h:(lim a).length<=60000000000:=by omega):Go.Ev.Fn CX 170 [natV (lim a)] (natV (lim (a+1))):=by
 have o:=fix_One;have l:=lim_len1;have s:=nat_AddL (N:=a) (D:=1);refine fni Tryz.f170 ?_;unfold Tryz.f170;repeat (first|simp only[go_sem]|simp (disch:=first|exact omg|fail) only[AX]|refine wki ?_|refine vfa ?_)
theorem fix_Add {a b c d:Nat} (h1:(lim a).length<=60000000000:=by omega) (h2:(lim b).length<=60000000000:=by omega) (h3:(lim c).length<=60000000000:=by omega) (h4:(lim d).length<=60000000000:=by omega):Go.Ev.Fn CX 175 [spanV a b,spanV c d] (spanV (a+c) (b+d)):=by
 have s1:=nat_AddL (N:=a) (D:=c);have s2:=nat_AddL (N:=b) (D:=d);refine fni Tryz.f175 ?_;unfold Tryz.f175;repeat (first|simp only[go_sem]|simp (disch:=first|exact omg|fail) only[AX]|refine wki ?_|refine vpd 1 [6,8,11,13] ?_|refine vfa ?_)
theorem fix_Wider {a b n:Nat} (h1:(lim a).length<=60000000000:=by omega) (h2:(lim b).length<=60000000000:=by omega) (hn:n<18446744073709551616:=by omega):Go.Ev.Fn CX 176 [spanV a b,.int .u64 (n:Int)] (spanV a (b+n)):=by
 have o:=nat_Of n hn;have l:(lim n).length<=60000000000:=xH (lim_len_lt (L:=2)) (by omega);have s:=nat_AddL (N:=b) (D:=n);refine fni Tryz.f176 ?_;unfold Tryz.f176;repeat (first|simp only[go_sem]|simp (disch:=first|exact omg|fail) only[AX]|refine wki ?_|refine vpd 1 [8,10] ?_|refine vfa ?_)
theorem fix_Times {a b n d:Nat} (h1:(lim a).length<=55000000000:=by omega) (h2:(lim b).length<=55000000000:=by omega) (h3:(lim n).length<=5000000000:=by omega) (h4:(lim d).length<=5000000000:=by omega) (hd:d≠0:=by omega):Go.Ev.Fn CX 174 [spanV a b,natV (lim n),natV (lim d)] (spanV (a*n/d) (b*n/d+1)):=by
 have m1:=nat_MulL (N:=a) (D:=n);have m2:=nat_MulL (N:=b) (D:=n);have l1:=lim_len_mul (a:=a) (b:=n);have l2:=lim_len_mul (a:=b) (b:=n);have o1:=fix_Over' (N:=a*n) (D:=d) hd;have o2:=fix_Over' (N:=b*n) (D:=d) hd;have l3:=lim_len_mono (xv (b*n) d);have n1:=fix_Next (a:=b*n/d);generalize a*n/d=x at *
 generalize b*n/d=y at *
 generalize a*n=u at *
 generalize b*n=v at *
 refine fni Tryz.f174 ?_;unfold Tryz.f174;repeat (first|simp only[go_sem]|simp (disch:=first|exact omg|fail) only[AX]|refine wki ?_|refine vpd 1 [8,1,10,2,14,1,16,2,18] ?_|refine vfa ?_)
theorem fix_Less' {N D:Nat} (hl:(lim N).length<=68719476736:=by omega) (hm:(lim D).length<=68719476736:=by omega):Go.Ev.Fn CX 200 [natV (lim N),natV (lim D)] (natV (lim (N-D))):=by
 have h:=nat_SubL hl hm;refine fni Tryz.f200 ?_;unfold Tryz.f200;repeat (first|simp only[go_sem]|simp (disch:=first|exact omg|fail) only[AX]|refine wki ?_|refine vfa ?_)
theorem fix_Sub {a b c d:Nat} (h1:(lim a).length<=30000000000:=by omega) (h2:(lim b).length<=30000000000:=by omega) (h3:(lim c).length<=30000000000:=by omega) (h4:(lim d).length<=30000000000:=by omega):Go.Ev.Fn CX 312 [spanV a b,spanV c d] (spanV (a-d) (b-c+1)):=by
 have m1:=fix_Less' (N:=a) (D:=d);have m2:=fix_Less' (N:=b) (D:=c);have l:=lim_len_mono (zt b c);have n1:=fix_Next (a:=b-c);generalize a-d=x at *
 generalize b-c=y at *
 refine fni Tryz.f312 ?_;unfold Tryz.f312;repeat (first|simp only[go_sem]|simp (disch:=first|exact omg|fail) only[AX]|refine wki ?_|refine vpd 1 [6,8,11,13,14] ?_|refine vfa ?_)
end Go.Proofs.YtfknkoeagjonbaaGreat
namespace Go.Proofs.YtfknkoeagjonbaaGreat
open Go.Ev
theorem pin_eq {α:Type} (n:Nat) (f:Nat->α):pin n f=f n:=by cases n<;>rfl
theorem lim_len_p2 {n w:Nat} (h:n<=2^w:=by omega) (hw:w<=1000:=by omega):(lim n).length<=40:=by
 have l:=lim_len_shl (a:=1) (n:=w);have l1:=lim_len1;rw[xe]at l;have:=lim_len_mono h;omega
theorem sqrt_ex (a:Nat) : ∃r,r*r<=a/\a<(r+1)*(r+1):=by
 induction a with
 |zero=>exact⟨0,by omega,by omega⟩
 |succ a ih=>
  obtain⟨r,h1,h2⟩:=ih;by_cases h:(r+1)*(r+1)<=a+1
  ·refine⟨r+1,h,?_⟩;have:(r+1+1)*(r+1+1)=(r+1)*(r+1)+(r+1)+(r+2):=by
    rw[xZ,xY];omega
   omega
  ·exact⟨r,by omega,by omega⟩
noncomputable def rtN (a:Nat):Nat:=(sqrt_ex a).choose
theorem rtN_le (a:Nat):rtN a*rtN a<=a:=(sqrt_ex a).choose_spec.1
theorem lt_rtN (a:Nat):a<(rtN a+1)*(rtN a+1):=(sqrt_ex a).choose_spec.2
theorem rtN_eq {a r:Nat} (h1:r*r<=a:=by omega) (h2:a<(r+1)*(r+1):=by omega):r=rtN a:=by
 have h3:=rtN_le a;have h4:=lt_rtN a;rcases Nat.lt_trichotomy r (rtN a) with h|h|h
 ·have:=xO (show r+1<=rtN a from h) (show r+1<=rtN a from h);omega
 ·exact h
 ·have:=xO (show rtN a+1<=r from h) (show rtN a+1<=r from h);omega
theorem rtN_self (a:Nat):rtN a<=a:=by
 have:=rtN_le a;rcases xo (rtN a) with h|h
 ·omega
 ·have:=zI (rtN a) h;omega
end Go.Proofs.YtfknkoeagjonbaaGreat
namespace Go.Proofs.YtfknkoeagjonbaaGreat
open Go.Ev
def rowGo (w y1 y2 a b:Nat):Nat->Nat->Nat->Nat->Nat->Nat->Option (Nat×Nat×Nat)
 |0,_,_,_,_,_=>none
 |f+1,k,t1,t2,a1,a2=>if b<=k/\t2<8 then some (a1,a2+64,k) else
  rowGo w y1 y2 a b f (k+1) (t1*y1/2^w*(a+b+2*k)/(a+2+2*k)) ((t2*y2/2^w+1)*(a+b+2*k)/(a+2+2*k)+1)
   (a1+t1*y1/2^w*(a+b+2*k)/(a+2+2*k)) (a2+((t2*y2/2^w+1)*(a+b+2*k)/(a+2+2*k)+1))
section
variable {P y1 y2 t1 t2 n m:Nat}
theorem up_half (hP:200<=P) (hy:2*y2<=P+2):100*(t2*y2/P)<=51*t2:=by
 have h1:=wO (t2*y2) P;have h2:=xI t2 hy;have h3:t2*200<=t2*P:=xI _ hP;have h4:100*(t2*y2/P)*P<=51*t2*P:=by
  have e1:100*(t2*y2/P)*P=100*(t2*y2/P*P):=by rw[xP]
  have e2:t2*(2*y2)=2*(t2*y2):=by rw[ym]
  have e3:t2*(P+2)=t2*P+2*t2:=by rw[xY];omega
  have e4:51*t2*P=51*(t2*P):=by rw[xP]
  omega
 exact yv h4 (by omega)
theorem quo_le {v n m c d:Nat} (hm:0<m:=by omega) (h:d*n<=c*m:=by omega):d*(v*n/m)<=c*v:=by
 have h1:=wO (v*n) m;have h2:d*(v*n/m)*m<=c*v*m:=by
  have e1:d*(v*n/m)*m=d*(v*n/m*m):=by rw[xP]
  have e2:d*(v*n)=v*(d*n):=by rw[ym]
  have e3:c*v*m=v*(c*m):=by rw[xP,ym]
  have h3:=xI v h;have h4:=xI d h1;omega
 exact yv h2 hm
theorem quo_sub {v1 v2 n m:Nat} (h:v1<=v2) (hm:0<m):v2*n/m<=v1*n/m+(v2-v1)*n/m+1:=by
 have h1:=yl (v1*n) m;have h2:=yl ((v2-v1)*n) m;have m1:=yI (v1*n) hm;have m2:=yI ((v2-v1)*n) hm;have e:v2*n=v1*n+(v2-v1)*n:=by rw[<- xZ];congr 1;omega
 have h3:v2*n<(v1*n/m+(v2-v1)*n/m+2)*m:=by
  rw[xZ,xZ,xV _ m,xV _ m];omega
 have:=(yC hm).2 h3;omega
end
section
variable {w y1 y2 a b:Nat}
theorem late_step {k t2:Nat} (hP:200<=2^w) (hy:2*y2<=2^w+2) (ha:1<=a) (hb:b<=22) (hk:200<=k) (ht:8<=t2:=by omega):5*((t2*y2/2^w+1)*(a+b+2*k)/(a+2+2*k)+1)<=4*t2:=by
 have h1:=up_half (t2:=t2) hP hy;have h2:=quo_le (v:=t2*y2/2^w+1) (n:=a+b+2*k) (m:=a+2+2*k) (c:=21) (d:=20);omega
theorem row_late (hP:200<=2^w) (hy:2*y2<=2^w+2) (ha:1<=a) (hb:b<=22) : ∀ (f k t1 t2 a1 a2:Nat),200<=k->4^f*t2<8*5^f -> ∃A B K,rowGo w y1 y2 a b (f+1) k t1 t2 a1 a2=some (A,B,K)/\K<=k+f:=by
 intro f;induction f with
 |zero=>
  intro k t1 t2 a1 a2 hk h;refine⟨a1,a2+64,k,?_,by omega⟩;rw[rowGo,if_pos ⟨by omega,by omega⟩]
 |succ f ih=>
  intro k t1 t2 a1 a2 hk h;rw[rowGo];by_cases hs:b<=k/\t2<8
  ·rw[if_pos hs];exact⟨_,_,_,rfl,by omega⟩
  ·rw[if_neg hs];have h1:=late_step (k:=k) (t2:=t2) hP hy ha hb hk;obtain⟨A,B,K,g1,g2⟩:=ih (k+1) (t1*y1/2^w*(a+b+2*k)/(a+2+2*k)) ((t2*y2/2^w+1)*(a+b+2*k)/(a+2+2*k)+1) (a1+t1*y1/2^w*(a+b+2*k)/(a+2+2*k)) (a2+((t2*y2/2^w+1)*(a+b+2*k)/(a+2+2*k)+1)) (by omega) (by
    rw[xU,xU]at h;generalize (t2*y2/2^w+1)*(a+b+2*k)/(a+2+2*k)+1=u at *
    have h2:=xI (4^f) h1;have e1:4^f*(5*u)=5*(4^f*u):=ym _ _ _;have e2:4^f*(4*t2)=4^f*4*t2:=by rw[xP]
    omega)
   exact⟨A,B,K,g1,by omega⟩
theorem early_up {k t2 T:Nat} (hP:200<=2^w) (hy:2*y2<=2^w+2) (ha:1<=a) (hb:b<=22) (ht:t2<=T) (hT:200<=T):(t2*y2/2^w+1)*(a+b+2*k)/(a+2+2*k)+1<=4*T:=by
 have h1:=up_half (t2:=t2) hP hy;have h2:=quo_le (v:=t2*y2/2^w+1) (n:=a+b+2*k) (m:=a+2+2*k) (c:=23) (d:=3);omega
theorem mid_up {k t2 T:Nat} (hP:200<=2^w) (hy:2*y2<=2^w+2) (ha:1<=a) (hk:b<=k) (ht:t2<=T) (hT:200<=T):(t2*y2/2^w+1)*(a+b+2*k)/(a+2+2*k)+1<=T:=by
 have h1:=up_half (t2:=t2) hP hy;have h2:=quo_le (v:=t2*y2/2^w+1) (n:=a+b+2*k) (m:=a+2+2*k) (c:=3) (d:=2);omega
theorem gap_step {k t1 t2 C:Nat} (hP:200<=2^w) (hy12:y2=y1+1) (hy1:2*y1<=2^w) (ht:t1<=t2) (hC:t2<=C*2^w):t2*y2/2^w+1<=t1*y1/2^w+((t2-t1)/2+C+4):=by
 subst hy12;generalize 2^w=P at *
 have e:t2*(y1+1)=t1*y1+((t2-t1)*y1+t2):=by
  have:t2*y1=t1*y1+(t2-t1)*y1:=by rw[<- xZ];congr 1;omega
  rw[xY];omega
 have d1:=yl (t1*y1) P;have d2:=yI (t1*y1) (show 0<P by omega);have h1:(t2-t1)*y1<=((t2-t1)/2+1)*P:=by
  have h3:=xO (show t2-t1<=2*((t2-t1)/2+1) by omega) (xQ y1);have h4:=xI ((t2-t1)/2+1) hy1;have e5:2*((t2-t1)/2+1)*y1=((t2-t1)/2+1)*(2*y1):=by rw[xV 2,xP]
  omega
 have h2:t2*(y1+1)<(t1*y1/P+((t2-t1)/2+C+3))*P:=by
  have e6:(t1*y1/P+((t2-t1)/2+C+3))*P=P*(t1*y1/P)+((t2-t1)/2+1)*P+C*P+2*P:=by
   have:(t2-t1)/2+C+3=((t2-t1)/2+1)+C+2:=by omega
   rw[this];simp only[xZ];rw[xV _ P];omega
  omega
 have:=(yC (show 0<P by omega)).2 h2;omega
theorem gap_quo {k v1 v2 D:Nat} (hv:v1<=v2) (hm:0<a+2+2*k) {c d:Nat} (hd:0<d) (h:d*(a+b+2*k)<=c*(a+2+2*k)) (hD:v2<=v1+D):d*(v2*(a+b+2*k)/(a+2+2*k)+1)<=d*(v1*(a+b+2*k)/(a+2+2*k))+c*D+2*d:=by
 have h1:=quo_sub (n:=a+b+2*k) (m:=a+2+2*k) hv hm;have h2:=quo_le (v:=v2-v1) hm h;have h3:c*(v2-v1)<=c*D:=xI _ (by omega);generalize v2*(a+b+2*k)/(a+2+2*k)=q2 at *
 generalize v1*(a+b+2*k)/(a+2+2*k)=q1 at *
 generalize (v2-v1)*(a+b+2*k)/(a+2+2*k)=q3 at *
 have h4:=xI d h1;have e1:d*(q1+q3+1)=d*q1+d*q3+d:=by rw[xY,xY,yD]
 have e2:d*(q2+1)=d*q2+d:=by rw[xY,yD]
 omega
def okT (w k t1 t2 a1 a2 T D:Nat):Prop:=t1<=t2/\a1<=a2/\t2<=T/\t2<=t1+D/\a2<=a1+k*D+D/\a2<=(k+1)*T
theorem okT_early {k t1 t2 a1 a2 T D C:Nat} (hP:200<=2^w) (hy12:y2=y1+1) (hy1:2*y1<=2^w) (ha:1<=a) (hb:b<=22) (hT:200<=T) (hC:T<=C*2^w) (hD:46*C+200<=D) (h:okT w k t1 t2 a1 a2 T D) :
  okT w (k+1) (t1*y1/2^w*(a+b+2*k)/(a+2+2*k)) ((t2*y2/2^w+1)*(a+b+2*k)/(a+2+2*k)+1)
   (a1+t1*y1/2^w*(a+b+2*k)/(a+2+2*k)) (a2+((t2*y2/2^w+1)*(a+b+2*k)/(a+2+2*k)+1)) (4*T) (4*D):=by
 obtain⟨h1,h2,h3,h4,h5,h6⟩:=h;have u:=early_up (k:=k) hP (show 2*y2<=2^w+2 by omega) ha hb h3 hT;have g:=gap_step (k:=k) hP hy12 hy1 h1 (xH h3 hC);have v12:t1*y1/2^w<=t2*y2/2^w+1:=yP (xf (xO h1 (by omega)));have q:=gap_quo (a:=a) (b:=b) (k:=k) (c:=23) (d:=3) v12 (by omega) (by omega) (by omega) g;have q0:t1*y1/2^w*(a+b+2*k)/(a+2+2*k)<=(t2*y2/2^w+1)*(a+b+2*k)/(a+2+2*k):=xf (xC _ v12);generalize t1*y1/2^w*(a+b+2*k)/(a+2+2*k)=u1 at *
 generalize (t2*y2/2^w+1)*(a+b+2*k)/(a+2+2*k)=u2 at *
 have e1:(k+1)*(4*D)=4*(k*D)+4*D:=by rw[xZ,ym];omega
 have e2:(k+1+1)*(4*T)=4*((k+1)*T)+4*T:=by rw[xZ,ym];omega
 have e3:(k+1)*T=k*T+T:=by rw[xZ];omega
 refine⟨?_,?_,?_,?_,?_,?_⟩<;>omega
theorem okT_mid {k t1 t2 a1 a2 T D C:Nat} (hP:200<=2^w) (hy12:y2=y1+1) (hy1:2*y1<=2^w) (ha:1<=a) (hk:b<=k) (hT:200<=T) (hC:T<=C*2^w) (hD:46*C+200<=D) (h:okT w k t1 t2 a1 a2 T D) :
  okT w (k+1) (t1*y1/2^w*(a+b+2*k)/(a+2+2*k)) ((t2*y2/2^w+1)*(a+b+2*k)/(a+2+2*k)+1)
   (a1+t1*y1/2^w*(a+b+2*k)/(a+2+2*k)) (a2+((t2*y2/2^w+1)*(a+b+2*k)/(a+2+2*k)+1)) T D:=by
 obtain⟨h1,h2,h3,h4,h5,h6⟩:=h;have u:=mid_up (k:=k) hP (show 2*y2<=2^w+2 by omega) ha hk h3 hT;have g:=gap_step (k:=k) hP hy12 hy1 h1 (xH h3 hC);have v12:t1*y1/2^w<=t2*y2/2^w+1:=yP (xf (xO h1 (by omega)));have q:=gap_quo (a:=a) (b:=b) (k:=k) (c:=3) (d:=2) v12 (by omega) (by omega) (by omega) g;have q0:t1*y1/2^w*(a+b+2*k)/(a+2+2*k)<=(t2*y2/2^w+1)*(a+b+2*k)/(a+2+2*k):=xf (xC _ v12);generalize t1*y1/2^w*(a+b+2*k)/(a+2+2*k)=u1 at *
 generalize (t2*y2/2^w+1)*(a+b+2*k)/(a+2+2*k)=u2 at *
 have e1:(k+1)*D=k*D+D:=by rw[xZ];omega
 have e2:(k+1+1)*T=(k+1)*T+T:=by rw[xZ];omega
 refine⟨?_,?_,?_,?_,?_,?_⟩<;>omega
theorem row_mid {C T D:Nat} (hP:200<=2^w) (hy12:y2=y1+1) (hy1:2*y1<=2^w) (ha:1<=a) (hb:b<=22) (hT:200<=T) (hC:T<=C*2^w) (hD:46*C+200<=D) {F:Nat} (hF:4^F*T<8*5^F) :
  ∀ (g k t1 t2 a1 a2:Nat),b<=k->g+k=200->okT w k t1 t2 a1 a2 T D -> ∃A B K,rowGo w y1 y2 a b (g+F+1) k t1 t2 a1 a2=some (A,B,K):=by
 intro g;induction g with
 |zero=>
  intro k t1 t2 a1 a2 hk hg h;obtain⟨A,B,K,e,-⟩:=row_late hP (show 2*y2<=2^w+2 by omega) ha hb F k t1 t2 a1 a2 (by omega) (yM (xI _ h.2.2.1) hF);exact⟨A,B,K,by rw[yV];exact e⟩
 |succ g ih=>
  intro k t1 t2 a1 a2 hk hg h;rw[show g+1+F+1=(g+F+1)+1 by omega,rowGo];by_cases hs:b<=k/\t2<8
  ·rw[if_pos hs];exact⟨_,_,_,rfl⟩
  ·rw[if_neg hs];exact ih _ _ _ _ _ (by omega) (by omega) (okT_mid hP hy12 hy1 ha hk hT hC hD h)
theorem row_early {C F:Nat} (hP:200<=2^w) (hy12:y2=y1+1) (hy1:2*y1<=2^w) (ha:1<=a) (hb:b<=22) :
  ∀ (g k t1 t2 a1 a2 T D:Nat),k+g=b->200<=T->4^g*T<=C*2^w->46*C+200<=D->4^F*(4^g*T)<8*5^F->okT w k t1 t2 a1 a2 T D -> ∃A B K,rowGo w y1 y2 a b (200+F+1-k) k t1 t2 a1 a2=some (A,B,K):=by
 intro g;induction g with
 |zero=>
  intro k t1 t2 a1 a2 T D hk hT hC hD hF h;rw[yr,xe]at hC hF;have:=row_mid hP hy12 hy1 ha hb hT hC hD hF (200-k) k t1 t2 a1 a2 (by omega) (by omega) h;rw[show 200-k+F+1=200+F+1-k by omega]at this;exact this
 |succ g ih=>
  intro k t1 t2 a1 a2 T D hk hT hC hD hF h;rw[show 200+F+1-k=(200+F+1-(k+1))+1 by omega,rowGo,if_neg (by omega)];have hp:1<=4^(g+1):=xK (by omega);have hTC:T<=C*2^w:=xH (zI T hp) hC;have hp2:4^g*(4*T)=4^(g+1)*T:=by rw[xU,xP]
  exact ih (k+1) _ _ _ _ (4*T) (4*D) (by omega) (by omega) (by rw[hp2];exact hC) (by omega) (by rw[hp2];exact hF) (okT_early hP hy12 hy1 ha hb hT hTC hD h)
end
end Go.Proofs.YtfknkoeagjonbaaGreat
namespace Go.Proofs.YtfknkoeagjonbaaGreat
open Go.Ev
section
variable {w y1 y2 a b T D C:Nat}
def okK (w b T D k t1 t2 a1 a2:Nat):Prop:=okT w k t1 t2 a1 a2 (4^min k b*T) (4^min k b*D)
theorem four_le {k b T:Nat}:T<=4^min k b*T/\4^min k b*T<=4^b*T:=
 ⟨zI T (xK (by omega)),xC T (xD (by omega) (Nat.min_le_right k b))⟩
theorem okK_step {k t1 t2 a1 a2:Nat} (hP:200<=2^w) (hy12:y2=y1+1) (hy1:2*y1<=2^w) (ha:1<=a) (hb:b<=22) (hT:200<=T) (hC:4^b*T<=C*2^w) (hD:46*C+200<=D) (h:okK w b T D k t1 t2 a1 a2) :
  okK w b T D (k+1) (t1*y1/2^w*(a+b+2*k)/(a+2+2*k)) ((t2*y2/2^w+1)*(a+b+2*k)/(a+2+2*k)+1)
   (a1+t1*y1/2^w*(a+b+2*k)/(a+2+2*k)) (a2+((t2*y2/2^w+1)*(a+b+2*k)/(a+2+2*k)+1)):=by
 have f1:=four_le (k:=k) (b:=b) (T:=T);have f2:=four_le (k:=k) (b:=b) (T:=D);unfold okK at h ⊢;by_cases hk:b<=k
 ·rw[Nat.min_eq_right (show b<=k+1 by omega)];rw[Nat.min_eq_right hk]at h f1 f2;exact okT_mid hP hy12 hy1 ha hk (by omega) hC (by omega) h
 ·rw[yx (show k+1<=b by omega),show 4^(k+1)*T=4*(4^k*T) by rw[xU,xV (4^k) 4,xP],show 4^(k+1)*D=4*(4^k*D) by rw[xU,xV (4^k) 4,xP]];rw[yx (show k<=b by omega)]at h f1 f2;exact okT_early hP hy12 hy1 ha hb (by omega) (xH f1.2 hC) (by omega) h
theorem row_inv (hP:200<=2^w) (hy12:y2=y1+1) (hy1:2*y1<=2^w) (ha:1<=a) (hb:b<=22) (hT:200<=T) (hC:4^b*T<=C*2^w) (hD:46*C+200<=D) :
  ∀ (f k t1 t2 a1 a2:Nat) {A B K:Nat},rowGo w y1 y2 a b f k t1 t2 a1 a2=some (A,B,K)->okK w b T D k t1 t2 a1 a2->K<k+f/\A<=B/\B<=A+(K+1)*(4^b*D)+64/\B<=(K+1)*(4^b*T)+64:=by
 intro f;induction f with
 |zero=>intro k t1 t2 a1 a2 A B K h;simp only[rowGo]at h;cases h
 |succ f ih=>
  intro k t1 t2 a1 a2 A B K h ho;rw[rowGo]at h;by_cases hs:b<=k/\t2<8
  ·rw[if_pos hs]at h;simp only[Option.some.injEq,Prod.mk.injEq]at h;obtain⟨rfl,rfl,rfl⟩:=h;obtain⟨h1,h2,h3,h4,h5,h6⟩:=ho;rw[Nat.min_eq_right hs.1]at h5 h6;rw[xZ,xe];rw[xZ,xe]at h6;rw[xZ,xe];omega
  ·rw[if_neg hs]at h;have:=ih _ _ _ _ _ h (okK_step hP hy12 hy1 ha hb hT hC hD ho);omega
def rR (x:Rat) (a b:Nat):Nat->Rat
 |0=>1
 |k+1=>rR x a b k*x*((a+b+2*k:Nat):Rat)/((a+2+2*k:Nat):Rat)
def sR (x:Rat) (a b:Nat):Nat->Rat
 |0=>1
 |k+1=>sR x a b k+rR x a b (k+1)
theorem row_enc {x c:Rat} (hx:Enc w y1 y2 x) : ∀ (f k t1 t2 a1 a2:Nat) {A B K:Nat},rowGo w y1 y2 a b f k t1 t2 a1 a2=some (A,B,K)->Enc w t1 t2 (c*rR x a b k)->Enc w a1 a2 (c*sR x a b k) ->
  b<=K/\(A:Rat)<=c*sR x a b K*p2 w/\c*sR x a b K*p2 w+64<=(B:Rat)/\c*rR x a b K*p2 w<=8:=by
 intro f;induction f with
 |zero=>intro k t1 t2 a1 a2 A B K h;simp only[rowGo]at h;cases h
 |succ f ih=>
  intro k t1 t2 a1 a2 A B K h ht ha;rw[rowGo]at h;by_cases hs:b<=k/\t2<8
  ·rw[if_pos hs]at h;simp only[Option.some.injEq,Prod.mk.injEq]at h;obtain⟨rfl,rfl,rfl⟩:=h;refine⟨hs.1,ha.1,?_,?_⟩
   ·have h1:=ha.2;have h2:((a2+64:Nat):Rat)=(a2:Rat)+64:=by exact_mod_cast rfl
    rw[h2];grind
   ·have h1:=ht.2;have h2:(t2:Rat)<=((8:Nat):Rat):=(show ((t2:Nat):Rat)<=((8:Nat):Rat) by exact_mod_cast (show t2<=8 by omega))
    exact xE h1 h2
  ·rw[if_neg hs]at h;have m:=enc_times (n:=a+b+2*k) (d:=a+2+2*k) (by omega) (enc_mul ht hx);have e:c*rR x a b k*x*((a+b+2*k:Nat):Rat)/((a+2+2*k:Nat):Rat)=c*rR x a b (k+1):=by
    show _=c*(rR x a b k*x*((a+b+2*k:Nat):Rat)/((a+2+2*k:Nat):Rat))
    rw[xk,xk];grind
   rw[e]at m;have s:=enc_add ha m;have e2:c*sR x a b k+c*rR x a b (k+1)=c*sR x a b (k+1):=by
    show _=c*(sR x a b k+rR x a b (k+1))
    grind
   rw[e2]at s;exact ih _ _ _ _ _ h m s
end
def pwR (q:Rat):Nat->Rat
 |0=>1
 |n+1=>pwR q n*q
theorem pwR_two (q:Rat) (n:Nat):pwR (q*q) n=pwR q (2*n):=by
 induction n with
 |zero=>rfl
 |succ n ih=>
  show pwR (q*q) n*(q*q)=pwR q (2*n)*q*q;rw[ih];grind
def powGo (w:Nat):Nat->Nat->Nat->Nat->Nat->Nat->Nat×Nat
 |0,_,l1,l2,_,_=>(l1,l2)
 |f+1,n,l1,l2,a1,a2=>if n=0 then (l1,l2) else
  if n%2=1 then powGo w f (n/2) (l1*a1/2^w) (l2*a2/2^w+1) (a1*a1/2^w) (a2*a2/2^w+1)
  else powGo w f (n/2) l1 l2 (a1*a1/2^w) (a2*a2/2^w+1)
theorem powGo_zero (w f l1 l2 a1 a2:Nat):powGo w f 0 l1 l2 a1 a2=(l1,l2):=by cases f<;>rfl
theorem powGo_enc {w:Nat} : ∀ (f n l1 l2 a1 a2:Nat) {p q:Rat},n<2^f->Enc w l1 l2 p->Enc w a1 a2 q->Enc w (powGo w f n l1 l2 a1 a2).1 (powGo w f n l1 l2 a1 a2).2 (p*pwR q n):=by
 intro f;induction f with
 |zero=>
  intro n l1 l2 a1 a2 p q hn hl ha;obtain rfl:n=0:=by omega
  rw[powGo_zero];show Enc w l1 l2 (p*1);rw[yA];exact hl
 |succ f ih=>
  intro n l1 l2 a1 a2 p q hn hl ha;rw[xU]at hn;rw[powGo];by_cases h0:n=0
  ·subst h0;rw[if_pos rfl];show Enc w l1 l2 (p*1);rw[yA];exact hl
  ·rw[if_neg h0];by_cases h1:n%2=1
   ·rw[if_pos h1];have:=ih (n/2) _ _ _ _ (by omega) (enc_mul hl ha) (enc_mul ha ha);rw[pwR_two]at this;have e:pwR q n=pwR q (2*(n/2))*q:=by
     conv=>lhs;rw[show n=2*(n/2)+1 by omega]
     rfl
    rw[e];have e2:p*q*pwR q (2*(n/2))=p*(pwR q (2*(n/2))*q):=by grind
    rw[e2]at this;exact this
   ·rw[if_neg h1];have:=ih (n/2) _ _ _ _ (by omega) hl (enc_mul ha ha);rw[pwR_two,show 2*(n/2)=n by omega]at this;exact this
def okS (P a b e:Nat):Prop:=a<=b/\b<=a+e/\b<=P+e
theorem okS_mul {P a b c d e g:Nat} (hP:1000000<=P) (he:e<=1000) (hg:g<=1000) (h:okS P a b e) (h2:okS P c d g):okS P (a*c/P) (b*d/P+1) (2*(e+g)+2):=by
 obtain⟨h1,h3,h4⟩:=h;obtain⟨k1,k3,k4⟩:=h2;have hP0:0<P:=by omega
 have m1:=xO h1 k1;refine⟨yP (xf m1),?_,?_⟩
 ·-- the gap
  have d1:=yl (a*c) P;have d2:=yI (a*c) hP0;have e1:b*d<=a*c+(e*d+b*g):=by
   have x1:b*d<=(a+e)*d:=xC d h3;have x2:a*d<=a*(c+g):=xI a k3;have x3:a*g<=b*g:=xC g h1;rw[xZ]at x1;rw[xY]at x2;omega
  have e2:e*d<=e*(2*P):=xI e (by omega);have e3:b*g<=2*P*g:=xC g (by omega);have e4:b*d<(a*c/P+(2*(e+g)+2))*P:=by
   have y1:(a*c/P+(2*(e+g)+2))*P=P*(a*c/P)+(e*(2*P)+2*P*g+2*P):=by
    rw[xZ,xV _ P];congr 1;grind
   omega
  have:=(yC hP0).2 e4;omega
 ·have e1:b*d<=(P+e)*(P+g):=xO h4 k4;have e2:(P+e)*(P+g)=P*P+(e+g)*P+e*g:=by grind
  have e3:e*g<=1000*1000:=xO he hg;have e4:b*d<(P+(e+g)+2)*P:=by
   have:(P+(e+g)+2)*P=P*P+(e+g)*P+2*P:=by rw[xZ,xZ]
   omega
  have:=(yC hP0).2 e4;omega
theorem okS_mono {P a b e g:Nat} (h:okS P a b e) (hg:e<=g:=by omega):okS P a b g:=⟨h.1,xH h.2.1 (by omega),xH h.2.2 (by omega)⟩
theorem powGo_ok {w:Nat} (hP:1000000<=2^w) : ∀ (f n l1 l2 a1 a2 E:Nat),(E+1)*4^f<=512->okS (2^w) l1 l2 E->okS (2^w) a1 a2 E->okS (2^w) (powGo w f n l1 l2 a1 a2).1 (powGo w f n l1 l2 a1 a2).2 511:=by
 intro f;induction f with
 |zero=>
  intro n l1 l2 a1 a2 E hE hl ha;rw[yr]at hE;exact okS_mono hl
 |succ f ih=>
  intro n l1 l2 a1 a2 E hE hl ha;have hp:1<=4^f:=xK (by omega);rw[xU]at hE;have hE2:(4*E+2+1)*4^f<=512:=xH (xC _ (show 4*E+2+1<=(E+1)*4 by omega)) (by rw[xP,xV 4];exact hE);have hE1:E<=1000:=by
   have:=yi (E+1) (show 0<4^f*4 by omega);omega
  have sq:=okS_mul hP hE1 hE1 ha ha;have ml:=okS_mul hP hE1 hE1 hl ha;rw[show 2*(E+E)+2=4*E+2 by omega]at sq ml;rw[powGo];by_cases h0:n=0
  ·rw[if_pos h0];exact okS_mono hl (by have:=yi (E+1) (show 0<4^f*4 by omega);omega)
  ·rw[if_neg h0];by_cases h1:n%2=1
   ·rw[if_pos h1];exact ih _ _ _ _ _ _ hE2 ml sq
   ·rw[if_neg h1];exact ih _ _ _ _ _ _ hE2 (okS_mono hl) sq
end Go.Proofs.YtfknkoeagjonbaaGreat
namespace Go.Proofs.YtfknkoeagjonbaaGreat
open Go.Ev
section
variable {x:Rat} {a b:Nat}
theorem rR_step (k:Nat):rR x a b (k+1)*((a+2+2*k:Nat):Rat)=rR x a b k*x*((a+b+2*k:Nat):Rat):=by
 have M:(0:Rat)<((a+2+2*k:Nat):Rat):=by exact_mod_cast (show 0<a+2+2*k by omega)
 show rR x a b k*x*((a+b+2*k:Nat):Rat)/((a+2+2*k:Nat):Rat)*_=_;exact xd (by grind)
theorem rR_nn (h:0<=x) : ∀k,0<=rR x a b k:=by
 intro k;induction k with
 |zero=>show (0:Rat)<=1;decide
 |succ k ih=>
  have M:(0:Rat)<((a+2+2*k:Nat):Rat):=by exact_mod_cast (show 0<a+2+2*k by omega)
  have e:=rR_step (x:=x) (a:=a) (b:=b) k;refine le_by M ?_;rw[e,xw];exact xF (xF ih h) (nat_nonneg _)
theorem rR_fall (h:0<=x) (h1:x+x<=1) {k:Nat} (hk:b<=k):4*rR x a b (k+1)<=3*rR x a b k:=by
 have M:(0:Rat)<((a+2+2*k:Nat):Rat):=by exact_mod_cast (show 0<a+2+2*k by omega)
 have e:=rR_step (x:=x) (a:=a) (b:=b) k;have r0:=rR_nn (a:=a) (b:=b) h k;have hn:((2*(a+b+2*k):Nat):Rat)<=((3*(a+2+2*k):Nat):Rat):=by exact_mod_cast (show 2*(a+b+2*k)<=3*(a+2+2*k) by omega)
 have c1:((2*(a+b+2*k):Nat):Rat)=2*((a+b+2*k:Nat):Rat):=by exact_mod_cast rfl
 have c2:((3*(a+2+2*k):Nat):Rat)=3*((a+2+2*k:Nat):Rat):=by exact_mod_cast rfl
 rw[c1,c2]at hn;have n0:=nat_nonneg (a+b+2*k);generalize ((a+2+2*k:Nat):Rat)=m at *
 generalize ((a+b+2*k:Nat):Rat)=n at *
 generalize rR x a b (k+1)=r' at *
 generalize rR x a b k=r at *
 refine le_by M ?_;have k1:r*(n*(x+x))<=r*(n*1):=xB (xB h1 n0) r0;have k2:r*(2*n)<=r*(3*m):=xB hn r0;have e1:4*r'*m=2*(r*(n*(x+x))):=by
  have:4*r'*m=4*(r'*m):=by grind
  rw[this,e];grind
 rw[e1];grind
theorem sR_up (h:0<=x) {k m:Nat} (hkm:k<=m):sR x a b k<=sR x a b m:=by
 obtain⟨j,rfl⟩:=wG hkm;clear hkm;induction j with
 |zero=>exact xN
 |succ j ih=>
  have:=rR_nn (a:=a) (b:=b) h (k+j+1);show sR x a b k<=sR x a b (k+j)+rR x a b (k+j+1);grind
theorem sR_rest (h:0<=x) (h1:x+x<=1) {k m:Nat} (hk:b<=k) (hkm:k<=m):sR x a b m+3*rR x a b m<=sR x a b k+3*rR x a b k:=by
 obtain⟨j,rfl⟩:=wG hkm;clear hkm;induction j with
 |zero=>exact xN
 |succ j ih=>
  have:=rR_fall (a:=a) h h1 (k:=k+j) (show b<=k+j by omega);show sR x a b (k+j)+rR x a b (k+j+1)+3*rR x a b (k+j+1)<=_;grind
theorem sR_top (h:0<=x) (h1:x+x<=1) {k m:Nat} (hk:b<=k:=by omega):sR x a b m<=sR x a b k+3*rR x a b k:=by
 rcases Nat.le_total m k with g|g
 ·have:=sR_up (a:=a) (b:=b) h g;have:=rR_nn (a:=a) (b:=b) h k;grind
 ·have:=sR_rest (a:=a) h h1 hk g;have:=rR_nn (a:=a) (b:=b) h m;grind
end
end Go.Proofs.YtfknkoeagjonbaaGreat
namespace Go.Ev
def prodN (a by':Nat):Nat->Nat
 |0=>1
 |c+1=>prodN a by' c*(a+c*by')
theorem prodN_pos {a b:Nat} (ha:0<a) : ∀c,0<prodN a b c:=by
 intro c;induction c with
 |zero=>exact Nat.one_pos
 |succ c ih=>exact yu ih (by omega)
theorem prodN_len {a b c:Nat} (h : ∀i,i<c->a+i*b<4294967296):(lim (prodN a b c)).length<=c+1:=by
 induction c with
 |zero=>exact lim_len_one (show 1<4294967296 by decide)
 |succ c ih=>
  have h1:=ih fun i hi=>h i (by omega)
  have h2:=lim_len_mul (a:=prodN a b c) (b:=a+c*b);have h3:=lim_len_one (h c (by omega));show (lim (prodN a b c*(a+c*b))).length<=_;omega
theorem prodN_front (a b:Nat) : ∀c,prodN a b (c+1)=a*prodN (a+b) b c:=by
 intro c;induction c with
 |zero=>simp[prodN]
 |succ c ih=>
  show prodN a b (c+1)*(a+(c+1)*b)=a*(prodN (a+b) b c*(a+b+c*b))
  rw[ih,xP,xZ c 1 b,xe,wM (c*b) b,<- zR]
def gam2 (n:Nat):Rat:=if n%2=0 then (prodN 2 1 (n/2-2):Nat) else mkRat (prodN 3 2 ((n-3)/2):Nat) (2^(n/2))
def cc:Nat->Nat->Nat
 |0,_=>1
 |_+1,0=>1
 |m+1,k+1=>cc m (k+1)+cc (m+1) k
def facN (k:Nat):Nat:=prodN 1 1 k
theorem facN_two (k:Nat):prodN 2 1 (k-1)=facN k:=by
 cases k with
 |zero=>rfl
 |succ k=>
  rw[wF];show _=prodN 1 1 (k+1);rw[prodN_front 1 1 k,xe]
theorem gam2_pos {n:Nat}:gam2 n≠0:=by
 unfold gam2;split
 ·have:=prodN_pos (a:=2) (b:=1) (by decide) (n/2-2);intro h;have h2:prodN 2 1 (n/2-2)=0:=by exact_mod_cast h
  omega
 ·have:=prodN_pos (a:=3) (b:=2) (by decide) ((n-3)/2);intro h;rw[Rat.mkRat_eq_zero (Nat.ne_of_gt (xK (by decide)))]at h;omega
def beta2 (a b:Nat):Rat:=gam2 a*gam2 b/gam2 (a+b)
end Go.Ev
namespace Go.Ev
end Go.Ev
namespace Go.Ev
theorem unit_num {x:Rat} (h0:0<=x) (h1:x<=1):x.num.natAbs<=x.den/\(x.num.natAbs:Int)=x.num:=by
 have h2:=zL.2 h0;have h3:=(Rat.le_iff x 1).1 h1;rw[show (1:Rat).den=1 from rfl,show (1:Rat).num=1 from rfl]at h3;omega
theorem den_pos (x:Rat) (n:Nat):0<x.den^n:=xK (Nat.pos_of_ne_zero x.den_nz)
end Go.Ev
namespace Go.Proofs.YtfknkoeagjonbaaGreat
open Go.Ev
def trm (x y:Rat) (n i:Nat):Rat:=((cc (n-i) i:Nat):Rat)*pwR x (n-i)*pwR y i
def sS (x y:Rat) (n:Nat):Nat->Rat
 |0=>0
 |j+1=>sS x y n j+trm x y n j
theorem pwR_succ (q:Rat) (n:Nat):pwR q (n+1)=pwR q n*q:=rfl
theorem pwR_nn {q:Rat} (h:0<=q) : ∀n,0<=pwR q n
 |0=>by show (0:Rat)<=1;decide
 |n+1=>xF (pwR_nn h n) h
theorem cm (a b:Nat):((a*b:Nat):Rat)=(a:Rat)*(b:Rat):=by exact_mod_cast rfl
section
variable {x y:Rat} {B:Nat}
end
end Go.Proofs.YtfknkoeagjonbaaGreat
namespace Go.Proofs.YtfknkoeagjonbaaGreat
open Go.Ev
def In1 (x:Rat):Prop:=0<=x/\x<=1
def Bd (F:Rat->Rat->Rat):Prop := ∃C:Rat,0<=C /\ ∀x y,In1 x->In1 y -> -C<=F x y/\F x y<=C
theorem mul_held {a b C D:Rat} (h1 : -C<=a) (h2:a<=C) (h3 : -D<=b) (h4:b<=D) : -(C*D)<=a*b/\a*b<=C*D:=by
 have m1:=xF (show 0<=C-a by grind) (show 0<=D-b by grind);have m2:=xF (show 0<=C+a by grind) (show 0<=D+b by grind);have m3:=xF (show 0<=C-a by grind) (show 0<=D+b by grind);have m4:=xF (show 0<=C+a by grind) (show 0<=D-b by grind);constructor<;>grind
theorem bd_const (c:Rat):Bd (fun _ _=>c):=by
 refine⟨if 0<=c then c else -c,by split<;>grind,fun x y _ _ => ?_⟩;split<;>constructor<;>grind
theorem bd_add {F G:Rat->Rat->Rat} (h:Bd F) (g:Bd G):Bd (fun x y=>F x y+G x y):=by
 obtain⟨C,c0,c1⟩:=h;obtain⟨D,d0,d1⟩:=g;refine⟨C+D,by grind,fun x y hx hy => ?_⟩;have:=c1 x y hx hy;have:=d1 x y hx hy;constructor<;>grind
theorem bd_mul {F G:Rat->Rat->Rat} (h:Bd F) (g:Bd G):Bd (fun x y=>F x y*G x y):=by
 obtain⟨C,c0,c1⟩:=h;obtain⟨D,d0,d1⟩:=g;refine⟨C*D,xF c0 d0,fun x y hx hy => ?_⟩;have a:=c1 x y hx hy;have b:=d1 x y hx hy;exact mul_held a.1 a.2 b.1 b.2
theorem bd_dist:Bd (fun x y=>y-x):=⟨1,by decide,fun x y hx hy=>by unfold In1 at hx hy;constructor<;>grind⟩
def Dif (f g:Rat->Rat):Prop := ∃R:Rat->Rat->Rat,Bd (fun x _=>f x)/\Bd (fun x _=>g x)/\Bd R /\ ∀x y,f y=f x+g x*(y-x)+R x y*((y-x)*(y-x))
theorem dif_const (c:Rat):Dif (fun _=>c) (fun _=>0):=⟨fun _ _=>0,bd_const c,bd_const 0,bd_const 0,fun x y=>by grind⟩
theorem dif_id:Dif (fun x=>x) (fun _=>1):=⟨fun _ _=>0,⟨1,by decide,fun x y hx hy=>by unfold In1 at hx;constructor<;>grind⟩,bd_const 1,bd_const 0,fun x y=>by grind⟩
theorem dif_add {f g f' g':Rat->Rat} (h:Dif f g) (h':Dif f' g'):Dif (fun x=>f x+f' x) (fun x=>g x+g' x):=by
 obtain⟨R,a1,a2,a3,a4⟩:=h;obtain⟨S,b1,b2,b3,b4⟩:=h';refine⟨fun x y=>R x y+S x y,bd_add a1 b1,bd_add a2 b2,bd_add a3 b3,fun x y => ?_⟩;show f y+f' y=_;rw[a4 x y,b4 x y];grind
theorem dif_mul {f g f' g':Rat->Rat} (h:Dif f g) (h':Dif f' g'):Dif (fun x=>f x*f' x) (fun x=>f x*g' x+g x*f' x):=by
 obtain⟨R,a1,a2,a3,a4⟩:=h;obtain⟨S,b1,b2,b3,b4⟩:=h';refine⟨fun x y=>(f x*S x y+R x y*f' x)+(g x*g' x+((y-x)*(g x*S x y+R x y*g' x)+(y-x)*((y-x)*(R x y*S x y)))),bd_mul a1 b1,bd_add (bd_mul a1 b2) (bd_mul a2 b1),?_,fun x y => ?_⟩
 ·exact bd_add (bd_add (bd_mul a1 b3) (bd_mul a3 b1)) (bd_add (bd_mul a2 b2) (bd_add (bd_mul bd_dist (bd_add (bd_mul a2 b3) (bd_mul a3 b2))) (bd_mul bd_dist (bd_mul bd_dist (bd_mul a3 b3)))))
 ·show f y*f' y=_;rw[a4 x y,b4 x y];show _=f x*f' x+(f x*g' x+g x*f' x)*(y-x)+((f x*S x y+R x y*f' x)+(g x*g' x+((y-x)*(g x*S x y+R x y*g' x)+(y-x)*((y-x)*(R x y*S x y)))))*((y-x)*(y-x))
  generalize y-x=d;generalize f x=t1;generalize f' x=t2;generalize g x=t3;generalize g' x=t4;generalize R x y=t5;generalize S x y=t6;grind
theorem dif_congr {f g f' g':Rat->Rat} (h:Dif f g) (e : ∀x,f x=f' x) (e' : ∀x,g x=g' x):Dif f' g':=by
 have h1:f=f':=funext e;have h2:g=g':=funext e';rw[<- h1,<- h2];exact h
theorem mul_denR (D:Rat):D*(D.den:Rat)=(D.num:Rat):=by
 have dn:(0:Rat)<(D.den:Rat):=by exact_mod_cast Rat.den_pos (self:=D)
 have:=(wk D.num D.den).symm.trans (wB D);have e:=xd (a:=(D.num:Rat)) (b:=(D.den:Rat)) (by grind);rwa [this]at e
theorem arch {D e:Rat} (hD:0<=D) (he:0<e) : ∃n:Nat,1<=n/\D<=e*(n:Rat):=by
 refine⟨(D.num.natAbs*e.den+1),by omega,?_⟩;have dn:(0:Rat)<(D.den:Rat):=by exact_mod_cast Rat.den_pos (self:=D)
 have en:(0:Rat)<(e.den:Rat):=by exact_mod_cast Rat.den_pos (self:=e)
 have e1:=mul_denR D;have e2:=mul_denR e;have n1:1<=e.num:=by
  have q:0<=e.num:=zL.2 (by grind);have q2:e.num≠0:=fun z=>by rw[Rat.num_eq_zero.1 z]at he;exact absurd he (by decide)
  omega
 have n0:0<=D.num:=zL.2 hD;have c1:((D.num.natAbs:Nat):Rat)=(D.num:Rat):=by
  have:((D.num.natAbs:Nat):Int)=D.num:=by omega
  calc ((D.num.natAbs:Nat):Rat)=(((D.num.natAbs:Nat):Int):Rat):=by rfl
   _=_:=by rw[this]
 have n1':(1:Rat)<=(e.num:Rat):=by exact_mod_cast n1
 have n0':(0:Rat)<=(D.num:Rat):=by exact_mod_cast n0
 have dn1:(1:Rat)<=(D.den:Rat):=by exact_mod_cast (show 1<=D.den from Rat.den_pos (self:=D))
 have c2:((D.num.natAbs*e.den+1:Nat):Rat)=(D.num:Rat)*(e.den:Rat)+1:=by
  rw[<- c1];exact_mod_cast rfl
 rw[c2];have k1:D<=(D.num:Rat):=by
  have:=xB dn1 hD;rw[e1]at this;grind
 have k2:e*((D.num:Rat)*(e.den:Rat)+1)=(D.num:Rat)*(e*(e.den:Rat))+e:=by grind
 rw[k2,e2];have:=xB n1' n0';grind
theorem lim_le {A B D:Rat} (hD:0<=D) (h : ∀n:Nat,1<=n->(A-B)*(n:Rat)<=D):A<=B:=by
 rcases zC (a:=A) (b:=B) with g|g
 ·exact g
 ·by_cases e:A=B
  ·rw[e];exact xN
  ·have hp:0<A-B:=by grind
   obtain⟨n,n1,n2⟩:=arch (D:=D+1) (by grind) hp;have:=h n n1;grind
theorem dif_mono {f g:Rat->Rat} (h:Dif f g) {x y:Rat} (hx:0<=x) (hxy:x<=y) (hy:y<=1) (hg : ∀z,x<=z->z<=y->0<=g z):f x<=f y:=by
 obtain⟨R,a1,a2,⟨C,c0,c1⟩,a4⟩:=h;refine lim_le (D:=C*((y-x)*(y-x))) (xF c0 (xF (by grind) (by grind))) fun n hn => ?_
 have N:(1:Rat)<=(n:Rat):=by exact_mod_cast hn
 obtain⟨d,hd⟩ : ∃d,d=(y-x)/(n:Rat):=⟨_,rfl⟩
 have hdn:d*(n:Rat)=y-x:=by rw[hd];exact xd (by grind)
 have d0:0<=d:=le_by (c:=(n:Rat)) (by grind) (by rw[hdn];grind);have step : ∀k:Nat,k<=n->x+d*(k:Rat)<=y/\f x<=f (x+d*(k:Rat))+C*(d*d)*(k:Rat):=by
  intro k;induction k with
  |zero=>intro _;rw[show ((0:Nat):Rat)=0 from rfl,wC,wi,wC,wi];exact⟨hxy,xN⟩
  |succ k ih=>
   intro hk;obtain⟨i1,i2⟩:=ih (by omega);have ck:((k+1:Nat):Rat)=(k:Rat)+1:=by exact_mod_cast rfl
   have kn:((k+1:Nat):Rat)<=(n:Rat):=by exact_mod_cast hk
   have k0:(0:Rat)<=(k:Rat):=by exact_mod_cast zj k
   have m:=xB kn d0;rw[hdn,ck]at m;rw[ck];have z0:0<=d*(k:Rat):=xF d0 k0;have e:=a4 (x+d*(k:Rat)) (x+d*((k:Rat)+1));have b:=c1 (x+d*(k:Rat)) (x+d*((k:Rat)+1)) ⟨by grind,by grind⟩ ⟨by grind,by grind⟩;have s:=hg (x+d*(k:Rat)) (by grind) i1;have ed:x+d*((k:Rat)+1)-(x+d*(k:Rat))=d:=by grind
   rw[ed]at e;have s1:=xF s d0;have s2:=xF (show 0<=R (x+d*(k:Rat)) (x+d*((k:Rat)+1))+C by grind) (xF d0 d0);refine⟨by grind,?_⟩;rw[e];grind
 have r:=(step n (xQ _)).2;have e:x+d*(n:Rat)=y:=by grind
 rw[e]at r;have m:=xA (show f x-f y<=C*(d*d)*(n:Rat) by grind) (show 0<=(n:Rat) by grind);have e2:C*(d*d)*(n:Rat)*(n:Rat)=C*((d*(n:Rat))*(d*(n:Rat))):=by grind
 rw[e2,hdn]at m;exact m
section
variable {a b:Nat}
theorem dif_pw {f g:Rat->Rat} (h:Dif f g) (n:Nat) : ∃s:Rat->Rat,Dif (fun x=>pwR (f x) n) s /\ ∀x,f x*s x=(n:Rat)*(pwR (f x) n*g x):=by
 induction n with
 |zero=>exact⟨fun _=>0,dif_const 1,fun x=>by rw[wC,show ((0:Nat):Rat)=0 from rfl,xw]⟩
 |succ n ih=>
  obtain⟨s,h1,h2⟩:=ih;refine⟨_,dif_mul h1 h,fun x => ?_⟩;have:=h2 x;have ck:((n+1:Nat):Rat)=(n:Rat)+1:=by exact_mod_cast rfl
  show f x*(pwR (f x) n*g x+s x*f x)=_*(pwR (f x) n*f x*g x)
  rw[ck];generalize pwR (f x) n=q at *
  generalize f x=u at *
  generalize s x=v at *
  generalize g x=w at *
  have e:u*(q*w+v*u)=u*v*u+u*q*w:=by grind
  rw[e,this];grind
theorem dif_rR (k:Nat) : ∃s:Rat->Rat,Dif (fun x=>rR x a b k) s /\ ∀x,x*s x=(k:Rat)*rR x a b k:=by
 induction k with
 |zero=>exact⟨fun _=>0,dif_const 1,fun x=>by rw[wC,show ((0:Nat):Rat)=0 from rfl,xw]⟩
 |succ k ih=>
  obtain⟨s,h1,h2⟩:=ih;obtain⟨c,hc⟩ : ∃c:Rat,c=((a+b+2*k:Nat):Rat)*((a+2+2*k:Nat):Rat)⁻¹:=⟨_,rfl⟩
  have e : ∀x,rR x a b (k+1)=rR x a b k*x*c:=fun x=>by
   show rR x a b k*x*((a+b+2*k:Nat):Rat)/((a+2+2*k:Nat):Rat)=_;rw[xk,hc];grind
  refine⟨_,dif_congr (dif_mul (dif_mul h1 dif_id) (dif_const c)) (fun x=>(e x).symm) (fun x=>rfl),fun x => ?_⟩;have:=h2 x;have ck:((k+1:Nat):Rat)=(k:Rat)+1:=by exact_mod_cast rfl
  rw[e,ck];show x*(rR x a b k*x*0+(rR x a b k*1+s x*x)*c)=_;generalize rR x a b k=r at *
  have e2:x*(r*x*0+(r*1+s x*x)*c)=x*s x*x*c+x*r*c:=by grind
  rw[e2,this];grind
theorem dif_sR (k:Nat) : ∃s:Rat->Rat,Dif (fun x=>sR x a b k) s /\ ∀x,(a:Rat)*(1-x)*sR x a b k-(b:Rat)*x*sR x a b k+2*(1-x)*(x*s x)=(a:Rat)-((a+b+2*k:Nat):Rat)*x*rR x a b k:=by
 induction k with
 |zero=>
  refine⟨fun _=>0,dif_const 1,fun x => ?_⟩;have c1:((a+b+2*0:Nat):Rat)=(a:Rat)+(b:Rat):=by exact_mod_cast rfl
  show (a:Rat)*(1-x)*1-(b:Rat)*x*1+2*(1-x)*(x*0)=(a:Rat)-_*x*1;rw[c1];grind
 |succ k ih=>
  obtain⟨s,h1,h2⟩:=ih;obtain⟨t,g1,g2⟩:=dif_rR (a:=a) (b:=b) (k+1);refine⟨_,dif_add h1 g1,fun x => ?_⟩;have i:=h2 x;have j:=g2 x;have st:=rR_step (x:=x) (a:=a) (b:=b) k;have ck:((k+1:Nat):Rat)=(k:Rat)+1:=by exact_mod_cast rfl
  have c1:((a+b+2*k:Nat):Rat)=(a:Rat)+(b:Rat)+2*(k:Rat):=by exact_mod_cast rfl
  have c2:((a+2+2*k:Nat):Rat)=(a:Rat)+2+2*(k:Rat):=by exact_mod_cast rfl
  have c3:((a+b+2*(k+1):Nat):Rat)=(a:Rat)+(b:Rat)+2*((k:Rat)+1):=by exact_mod_cast rfl
  rw[c1]at i;rw[c1,c2]at st;rw[c3];rw[ck]at j;show (a:Rat)*(1-x)*(sR x a b k+rR x a b (k+1))-(b:Rat)*x*(sR x a b k+rR x a b (k+1))+2*(1-x)*(x*(s x+t x))=_;generalize rR x a b (k+1)=r' at *
  generalize rR x a b k=r at *
  generalize sR x a b k=z at *
  generalize (a:Rat)=A at *
  generalize (b:Rat)=B at *
  generalize (k:Rat)=K at *
  generalize s x=u at *
  generalize t x=v at *
  have e:A*(1-x)*(z+r')-B*x*(z+r')+2*(1-x)*(x*(u+v))=(A*(1-x)*z-B*x*z+2*(1-x)*(x*u))+(A*(1-x)*r'-B*x*r'+2*(1-x)*(x*v)):=by grind
  rw[e,i,j];grind
def shG (a b k:Nat) (x:Rat):Rat:=pwR x a*pwR (1-x) b*(sR x a b k*sR x a b k)
theorem dif_one_sub:Dif (fun x=>1-x) (fun _ => -1):=⟨fun _ _=>0,⟨1,by decide,fun x y hx hy=>by unfold In1 at hx;constructor<;>grind⟩,bd_const (-1),bd_const 0,fun x y=>by grind⟩
theorem slope_id {A B x S s q r pa pb:Rat} (h1:x*q=A*(pa*1)) (h2:(1-x)*r=B*(pb*(-1))) :
  (pa*pb*(S*s+s*S)+(pa*r+q*pb)*(S*S))*(x*(1-x))=pa*pb*S*(A*(1-x)*S-B*x*S+2*(1-x)*(x*s)):=by
 have e:(pa*pb*(S*s+s*S)+(pa*r+q*pb)*(S*S))*(x*(1-x))=pa*pb*S*(2*(1-x)*(x*s))+pa*x*((1-x)*r)*(S*S)+x*q*(1-x)*pb*(S*S):=by grind
 rw[e,h1,h2];grind
theorem shG_mono {k:Nat} {x y:Rat} (h0:0<x) (hxy:x<=y) (hy:y+y<=1) (hk : ∀z,x<=z->z<=y->((a+b+2*k:Nat):Rat)*z*rR z a b k<=(a:Rat)):shG a b k x<=shG a b k y:=by
 obtain⟨q,d1,e1⟩:=dif_pw dif_id a;obtain⟨r,d2,e2⟩:=dif_pw dif_one_sub b;obtain⟨s,d3,e3⟩:=dif_sR (a:=a) (b:=b) k;refine dif_mono (dif_mul (dif_mul d1 d2) (dif_mul d3 d3)) (by grind) hxy (by grind) fun z z1 z2 => ?_
 have P:0<z*(1-z):=xt (by grind) (by grind);refine le_by P ?_;rw[xw,slope_id (e1 z) (e2 z),e3 z];have n1:=pwR_nn (q:=z) (by grind) a;have n2:=pwR_nn (q:=1-z) (by grind) b;have n3:0<=sR z a b k:=xE (show (0:Rat)<=1 by decide) (sR_up (a:=a) (b:=b) (show 0<=z by grind) (zj k));have:=hk z z1 z2;exact xF (xF (xF n1 n2) n3) (by grind)
theorem late_fall {x:Rat} (h:0<=x) (h1:x+x<=1) {k c d:Nat} (hk:d*(a+b+2*k+2)<=2*c*(a+2+2*k):=by omega):(d:Rat)*(((a+b+2*(k+1):Nat):Rat)*rR x a b (k+1))<=(c:Rat)*(((a+b+2*k:Nat):Rat)*rR x a b k):=by
 have M:(0:Rat)<((a+2+2*k:Nat):Rat):=by exact_mod_cast (show 0<a+2+2*k by omega)
 have st:=rR_step (x:=x) (a:=a) (b:=b) k;have r0:=rR_nn (a:=a) (b:=b) h k;have hn:((d*(a+b+2*k+2):Nat):Rat)<=((2*c*(a+2+2*k):Nat):Rat):=by exact_mod_cast hk
 have c1:((d*(a+b+2*k+2):Nat):Rat)=(d:Rat)*((a+b+2*(k+1):Nat):Rat):=by exact_mod_cast rfl
 have c2:((2*c*(a+2+2*k):Nat):Rat)=2*(c:Rat)*((a+2+2*k:Nat):Rat):=by exact_mod_cast rfl
 rw[c1,c2]at hn;have n0:=nat_nonneg (a+b+2*k);have n1:=nat_nonneg (a+b+2*(k+1));have n2:=nat_nonneg d;generalize ((a+2+2*k:Nat):Rat)=m at *
 generalize ((a+b+2*(k+1):Nat):Rat)=n' at *
 generalize ((a+b+2*k:Nat):Rat)=n at *
 generalize rR x a b (k+1)=r' at *
 generalize rR x a b k=r at *
 generalize (d:Rat)=D at *
 generalize (c:Rat)=C at *
 refine le_by M ?_;have e1:D*(n'*r')*m=D*n'*(r'*m):=by grind
 rw[e1,st];have rn:=xF r0 n0;have k1:D*n'*(r*n)*(x+x)<=D*n'*(r*n)*1:=xB h1 (xF (xF n2 n1) rn);have k2:=xA hn rn;grind
theorem late_small {x:Rat} (h:0<=x) (h1:x+x<=1) (ha:1<=a) (ha2:a<=20) (hb2:b<=20) {k:Nat} (hk:160<=k):((a+b+2*k:Nat):Rat)*rR x a b k<=1:=by
 have A : ∀j:Nat,((a+b+2*j:Nat):Rat)*rR x a b j<=40*pwR 4 j:=by
  intro j;induction j with
  |zero=>
   show ((a+b+2*0:Nat):Rat)*1<=40*1;have:((a+b+2*0:Nat):Rat)<=((40:Nat):Rat):=by exact_mod_cast (show a+b+2*0<=40 by omega)
   rw[show ((40:Nat):Rat)=40 from rfl]at this;grind
  |succ j ih=>
   have:=late_fall (a:=a) (b:=b) h h1 (k:=j) (c:=4) (d:=1);rw[show ((1:Nat):Rat)=1 from rfl,show ((4:Nat):Rat)=4 from rfl]at this;show _<=40*(pwR 4 j*4)
   grind
 have B : ∀j:Nat,((a+b+2*(20+j):Nat):Rat)*rR x a b (20+j)*pwR 4 j<=40*pwR 4 20*pwR 3 j:=by
  intro j;induction j with
  |zero=>show _*1<=_*1;have:=A 20;rw[yE];grind
  |succ j ih=>
   have t:=late_fall (a:=a) (b:=b) h h1 (k:=20+j) (c:=3) (d:=4);rw[show ((3:Nat):Rat)=3 from rfl,show ((4:Nat):Rat)=4 from rfl]at t;have p4:=pwR_nn (q:=4) (by decide) j;have m:=xA t p4;show _*(pwR 4 j*4)<=_*(pwR 3 j*3)
   rw[show 20+(j+1)=20+j+1 by omega];generalize ((a+b+2*(20+j+1):Nat):Rat)*rR x a b (20+j+1)=u at *
   generalize ((a+b+2*(20+j):Nat):Rat)*rR x a b (20+j)=v at *
   generalize 40*pwR 4 20=z at *
   generalize pwR 4 j=w at *
   generalize pwR 3 j=w' at *
   grind
 have C : ∀j:Nat,40*pwR 4 20*pwR 3 (140+j)<=pwR 4 (140+j):=by
  intro j;induction j with
  |zero=>decide +kernel
  |succ j ih=>
   show 40*pwR 4 20*(pwR 3 (140+j)*3)<=pwR 4 (140+j)*4;have:=pwR_nn (q:=4) (by decide) (140+j);generalize 40*pwR 4 20=z at *
   generalize pwR 4 (140+j)=w at *
   generalize pwR 3 (140+j)=w' at *
   grind
 obtain⟨j,rfl⟩ : ∃j,k=20+(140+j):=⟨k-160,by omega⟩
 have t:=xE (B (140+j)) (C j);have pp : ∀n,0<pwR 4 n:=by
  intro n;induction n with
  |zero=>show (0:Rat)<1;decide
  |succ n ih=>show 0<pwR 4 n*4;grind
 refine le_by (pp (140+j)) ?_;rw[xc];exact t
theorem shG_up {k:Nat} {x y:Rat} (ha:1<=a) (ha2:a<=20) (hb2:b<=20) (hk:160<=k) (h0:0<x) (hxy:x<=y) (hy:y+y<=1):shG a b k x<=shG a b k y:=by
 refine shG_mono h0 hxy hy fun z z1 z2 => ?_
 have t:=late_small (x:=z) (a:=a) (b:=b) (by grind) (by grind) ha ha2 hb2 hk;have r0:=xF (nat_nonneg (a+b+2*k)) (rR_nn (x:=z) (a:=a) (b:=b) (by grind) k);have m:=xB (show z<=1 by grind) r0;have n1:(1:Rat)<=(a:Rat):=by exact_mod_cast ha
 grind
end
end Go.Proofs.YtfknkoeagjonbaaGreat
namespace Go.Proofs.YtfknkoeagjonbaaGreat
open Go.Ev
theorem nat_shl {N m:Nat} (h:(lim N).length<=137438953472:=by omega) (hm:m<=4096:=by omega):Go.Ev.Fn CX 88 [natV (lim N),.int .i64 (m:Int)] (natV (lim (N*2^m))):=by
 have:=shift_up (lim N) m (okL_lim _) h _ rfl hm;rwa [wth_lim]at this
theorem nat_shr {N m:Nat} (h:(lim N).length<=137438953472:=by omega) (hm:m<=4096:=by omega) (h0:0<m:=by omega):Go.Ev.Fn CX 88 [natV (lim N),.int .i64 (-(m:Int))] (natV (lim (N/2^m))):=by
 have:=shift_down (lim N) m (okL_lim _) h _ rfl hm h0;rwa [wth_lim]at this
theorem fix_shl {a m:Nat} (ha:(lim a).length<=30000000000:=by omega) (hm:m<=2000000000000:=by omega):Go.Ev.Fn CX 168 [natV (lim a),.int .i64 (m:Int)] (natV (lim (a*2^m))):=by
 have hl:=fun j=>lim_len_shl (a:=a) (n:=j)
 refine fni Tryz.f168 ?_;unfold Tryz.f168;repeat (first|simp only[go_sem]|simp (disch:=first|exact omg|fail) only[AX]|refine wki ?_)
 refine vp_loop_inv (fun s => ∃j:Nat,j<=m/\s.tmp 0 = .sv (natV (lim (a*2^j)))/\s.tmp 1 = .sv (.int .i64 ((m-j:Nat):Int)))
  (fun s=>match s.tmp 1 with | .sv (.int _ i)=>i.toNat|_=>0) ⟨0,by omega,by rw[yr,yD];rfl,rfl⟩ ?_
 rintro s ⟨j,hj,i0,i1⟩
 have hlj:=hl j;by_cases hc:1024<m-j
 ·obtain⟨K,hK⟩ : ∃K:Nat,K=1024:=⟨_,rfl⟩
  have st:=nat_shl (N:=a*2^j) (m:=K);rw[xP,<- xM]at st;generalize hx:a*2^j=x at *
  generalize hy:a*2^(j+K)=y at *
  rw[show (K:Int)=1024 by omega]at st;repeat (first|simp only[go_sem,i0,i1]|simp (disch:=first|exact omg|fail) only[AX,i0,i1]|refine wki ?_|refine vfa ?_)
  exact⟨⟨j+K,by omega,by rw[hy],by rw[show ((m-(j+K):Nat):Int)=((m-j:Nat):Int)-1024 by omega]⟩,by omega⟩
 ·have st:=nat_shl (N:=a*2^j) (m:=m-j);rw[xP,<- xM,show j+(m-j)=m by omega]at st;generalize a*2^j=x at *
  generalize a*2^m=y at *
  repeat (first|simp only[go_sem,i0,i1]|simp (disch:=first|exact omg|fail) only[AX,i0,i1]|refine wki ?_)
  refine vp_loop_inv (fun s=>s.tmp 0 = .sv (natV (lim x))/\s.tmp 1 = .sv (.int .i64 ((m-j:Nat):Int))) (fun _=>0) ⟨i0,i1⟩ ?_;rintro s' ⟨j0,j1⟩
  repeat (first|simp only[go_sem,j0,j1]|simp (disch:=first|exact omg|fail) only[AX,j0,j1]|refine wki ?_|refine vfa ?_)
theorem fix_shr {a m:Nat} (ha:(lim a).length<=60000000000:=by omega) (hm:m<=1000000000000:=by omega) (h0:0<m:=by omega):Go.Ev.Fn CX 168 [natV (lim a),.int .i64 (-(m:Int))] (natV (lim (a/2^m))):=by
 have hl:=fun j=>lim_len_mono (xv a (2^j))
 refine fni Tryz.f168 ?_;unfold Tryz.f168;repeat (first|simp only[go_sem]|simp (disch:=first|exact omg|fail) only[AX]|refine wki ?_)
 refine vp_loop_inv (fun s=>s.tmp 0 = .sv (natV (lim a))/\s.tmp 1 = .sv (.int .i64 (-(m:Int)))) (fun _=>0) ⟨rfl,rfl⟩ ?_;rintro s ⟨i0,i1⟩
 repeat (first|simp only[go_sem,i0,i1]|simp (disch:=first|exact omg|fail) only[AX,i0,i1]|refine wki ?_)
 refine vp_loop_inv (fun s => ∃j:Nat,j<m/\s.tmp 0 = .sv (natV (lim (a/2^j)))/\s.tmp 1 = .sv (.int .i64 (-((m-j:Nat):Int))))
  (fun s=>match s.tmp 1 with | .sv (.int _ i)=>(-i).toNat|_=>0) ⟨0,by omega,by rw[yr,zK];exact i0,i1⟩ ?_
 rintro s2 ⟨j,hj,j0,j1⟩
 have hlj:=hl j;by_cases hc:1024<m-j
 ·obtain⟨K,hK⟩ : ∃K:Nat,K=1024:=⟨_,rfl⟩
  have st:=nat_shr (N:=a/2^j) (m:=K);rw[zk,<- xM]at st;generalize hx:a/2^j=x at *
  generalize hy:a/2^(j+K)=y at *
  rw[show -(K:Int) = -1024 by omega]at st;repeat (first|simp only[go_sem,j0,j1]|simp (disch:=first|exact omg|fail) only[AX,j0,j1]|refine wki ?_|refine vfa ?_)
  exact⟨⟨j+K,by omega,by rw[hy],by rw[show -((m-(j+K):Nat):Int) = -((m-j:Nat):Int)+1024 by omega]⟩,by omega⟩
 ·have st:=nat_shr (N:=a/2^j) (m:=m-j);rw[zk,<- xM,show j+(m-j)=m by omega]at st;generalize a/2^j=x at *
  generalize a/2^m=y at *
  repeat (first|simp only[go_sem,j0,j1]|simp (disch:=first|exact omg|fail) only[AX,j0,j1]|refine wki ?_|refine vfa ?_)
end Go.Proofs.YtfknkoeagjonbaaGreat
namespace Go.Proofs.YtfknkoeagjonbaaGreat
open Go.Ev
theorem fix_Mul {a b c d w:Nat} (h1:(lim a).length<=30000000000:=by omega) (h2:(lim b).length<=30000000000:=by omega) (h3:(lim c).length<=30000000000:=by omega) (h4:(lim d).length<=30000000000:=by omega) (hw:w<=1000000000000:=by omega) (h0:0<w:=by omega):Go.Ev.Fn CX 163 [spanV a b,spanV c d,.int .i64 (w:Int)] (spanV (a*c/2^w) (b*d/2^w+1)):=by
 have m1:=nat_MulL (N:=a) (D:=c);have m2:=nat_MulL (N:=b) (D:=d);have l1:=lim_len_mul (a:=a) (b:=c);have l2:=lim_len_mul (a:=b) (b:=d);have s1:=fix_shr (a:=a*c) (m:=w) (by omega) hw h0;have s2:=fix_shr (a:=b*d) (m:=w) (by omega) hw h0;have l3:=lim_len_mono (xv (b*d) (2^w));have n1:=fix_Next (a:=b*d/2^w);generalize a*c/2^w=x at *
 generalize b*d/2^w=y at *
 generalize a*c=u at *
 generalize b*d=v at *
 have e0:(0:Int)-(w:Int) = -(w:Int):=by omega
 refine fni Tryz.f163 ?_;unfold Tryz.f163;repeat (first|simp only[go_sem,e0]|simp (disch:=first|exact omg|fail) only[AX,e0]|refine wki ?_|refine vpd 1 [8,10,11,16,18,19,22] ?_|refine vfa ?_)
end Go.Proofs.YtfknkoeagjonbaaGreat
namespace Go.Proofs.YtfknkoeagjonbaaGreat
open Go.Ev
theorem fix_Of {n d w:Nat} (h1:(lim n).length<=25000000000:=by omega) (h2:(lim d).length<=25000000000:=by omega) (hd:d≠0:=by omega) (hw:w<=1000000000000:=by omega):Go.Ev.Fn CX 236 [natV (lim n),natV (lim d),.int .i64 (w:Int)] (spanV (n*2^w/d) (n*2^w/d+1)):=by
 have s1:=fix_shl (a:=n) (m:=w);have l1:=lim_len_shl (a:=n) (n:=w);have o1:=fix_Over' (N:=n*2^w) (D:=d) hd;have l3:=lim_len_mono (xv (n*2^w) d);have n1:=fix_Next (a:=n*2^w/d);generalize n*2^w/d=x at *
 generalize n*2^w=y at *
 refine fni Tryz.f236 ?_;unfold Tryz.f236;repeat (first|simp only[go_sem]|simp (disch:=first|exact omg|fail) only[AX]|refine wki ?_|refine vfa ?_)
theorem fix_Floor {a b w p:Nat} (h1:(lim a).length<=30000000000:=by omega) (h2:(lim b).length<=30000000000:=by omega) (hp:p<w:=by omega) (hw:w<=1000000000000:=by omega):Go.Ev.Fn CX 284 [spanV a b,.int .i64 (w:Int),.int .i64 (p:Int)] (.tup [natV (lim (a/2^(w-p))),.bool (decide (a/2^(w-p)=(b-1)/2^(w-p)))]):=by
 have e0:(p:Int)-(w:Int) = -((w-p:Nat):Int):=by omega
 have l1:=lim_len1;have s1:=fix_shr (a:=a) (m:=w-p);have o:=fix_One;have m1:=fix_Less' (N:=b) (D:=1);have l2:=lim_len_mono (zt b 1);have s2:=fix_shr (a:=b-1) (m:=w-p);have l3:=lim_len_mono (xv a (2^(w-p)));have l4:=lim_len_mono (xv (b-1) (2^(w-p)));have c:=nat_CmpL (N:=a/2^(w-p)) (D:=(b-1)/2^(w-p));generalize a/2^(w-p)=x at *
 generalize (b-1)/2^(w-p)=y at *
 generalize b-1=b' at *
 have e1:(cmpN x y==0)=decide (x=y):=by
  rw[show (cmpN x y==0)=decide (cmpN x y=0) from by by_cases h:cmpN x y=0<;>simp[h]];exact decide_eq_decide.2 (by unfold cmpN;split<;>(try split)<;>omega)
 generalize cmpN x y=z at *
 generalize decide (x=y)=q at *
 generalize hk:w-p=k at *
 refine fni Tryz.f284 ?_;unfold Tryz.f284;repeat (first|simp only[go_sem,e0,e1]|simp (disch:=first|exact omg|fail) only[AX,e0,e1]|refine wki ?_|refine vpd 2 [18,19,20,8,24] ?_|refine vfa ?_)
end Go.Proofs.YtfknkoeagjonbaaGreat
namespace Go.Proofs.YtfknkoeagjonbaaGreat
open Go.Ev
theorem getD_mem {l:List Rat} {i:Nat} (h:i<l.length):l.getD i 0∈l:=by
 rw[xW,xX h];exact List.getElem_mem h
def rvC (q:Rat):List SV:=[.bool (decide (q.num<0)),natV (lim q.num.natAbs),natV (lim q.den)]
def rvsC (l:List Rat):List SV:=l.flatMap rvC
theorem rvsC_len (l:List Rat):(rvsC l).length=l.length*3:=by
 induction l with
 |nil=>rfl
 |cons x l ih=>show (rvC x++rvsC l).length=_;rw[yG,ih,yS];show 3+_=_;omega
theorem rvsC_at {l:List Rat} {i:Nat} (h:i<l.length) : ∃rest,(rvsC l).drop (i*3) = .bool (decide ((l.getD i 0).num<0))::natV (lim (l.getD i 0).num.natAbs)::natV (lim (l.getD i 0).den)::rest:=by
 induction l generalizing i with
 |nil=>simp at h
 |cons x l ih=>
  cases i with
  |zero=>exact⟨_,rfl⟩
  |succ i=>
   obtain⟨r,this⟩:=ih (i:=i) (by simpa using h);have e : ∀k,(rvC x++rvsC l).drop (k+3)=(rvsC l).drop k:=fun _=>rfl
   refine⟨r,?_⟩;show (rvC x++rvsC l).drop _=_;rw[show (i+1)*3=i*3+3 by omega,e,this];rfl
end Go.Proofs.YtfknkoeagjonbaaGreat
namespace Go.Proofs.YtfknkoeagjonbaaGreat
open Go.Ev
end Go.Proofs.YtfknkoeagjonbaaGreat
namespace Go.Proofs.YtfknkoeagjonbaaGreat
open Go.Ev
end Go.Proofs.YtfknkoeagjonbaaGreat
namespace Go.Proofs.YtfknkoeagjonbaaGreat
open Go.Ev
theorem rat_Zero {v:SV} {q:Rat} {L:Nat} (hv:RatA v q L) (hL:1<=L:=by omega) (hL2:L<=16777216:=by omega):Go.Ev.Fn CX 108 [v] (.bool (decide (q=0))):=by
 have hN:=rat_Norm hv;obtain⟨s,n,d,rfl,-⟩:=hv;by_cases h:q=0
 ·subst h;rw[decide_eq_true rfl];rw[rv_zero]at hN;refine fni Tryz.f108 ?_;unfold Tryz.f108;repeat (first|simp only[go_sem]|simp (disch:=first|exact omg|fail) only[AX]|refine wki ?_|refine vfa ?_)
 ·have hp:=lim_pos (N:=q.num.natAbs) (fun e=>h (num_zero.1 (by omega)));rw[decide_eq_false h];refine fni Tryz.f108 ?_;unfold Tryz.f108;repeat (first|simp only[go_sem]|simp (disch:=first|exact omg|fail) only[AX]|refine wki ?_|refine vfa ?_)
theorem ref2_Zero {v:SV} {q:Rat} {L:Nat} (hv:RatA v q L) (hL:1<=L:=by omega) (hL2:L<=16777216:=by omega):Go.Ev.Fn CX 117 [v] (.bool (decide (q=0))):=by
 have hN:=ref2_Norm hv;obtain⟨s,n,d,rfl,-⟩:=hv;by_cases h:q=0
 ·subst h;rw[decide_eq_true rfl];rw[rv_zero]at hN;refine fni Tryz.f117 ?_;unfold Tryz.f117;repeat (first|simp only[go_sem]|simp (disch:=first|exact omg|fail) only[AX]|refine wki ?_|refine vfa ?_)
 ·have hp:=lim_pos (N:=q.num.natAbs) (fun e=>h (num_zero.1 (by omega)));rw[decide_eq_false h];refine fni Tryz.f117 ?_;unfold Tryz.f117;repeat (first|simp only[go_sem]|simp (disch:=first|exact omg|fail) only[AX]|refine wki ?_|refine vfa ?_)
end Go.Proofs.YtfknkoeagjonbaaGreat
namespace Go.Proofs.YtfknkoeagjonbaaGreat
open Go.Ev
abbrev ballR (a b:Rat):SV := .agg [.bool (decide (a.num<0)),natV (lim a.num.natAbs),natV (lim a.den),.bool (decide (b.num<0)),natV (lim b.num.natAbs),natV (lim b.den)]
theorem ball_Of {v:SV} {q:Rat} {L:Nat} (hv:RatA v q L) (hL:L<=1000000:=by omega):Go.Ev.Fn CX 32 [v] (ballR q q):=by
 have n1:=rat_Norm hv;obtain⟨s,n,d,rfl,-⟩:=hv;refine fni Tryz.f32 ?_;unfold Tryz.f32;repeat (first|simp only[go_sem]|simp (disch:=first|exact omg|fail) only[AX]|refine wki ?_|refine vpd 1 [] ?_|refine vfa ?_)
theorem ball_Sub {a b c d:Rat} {L:Nat} (ha:szR a L) (hb:szR b L) (hc:szR c L) (hd:szR d L) (hL:1<=L:=by omega) (hL2:L<=1000000:=by omega):Go.Ev.Fn CX 104 [ballR a b,ballR c d] (ballR (a-d) (b-c)):=by
 have s1:=rat_Sub (RatA_rv ha) (RatA_rv hd) hL hL;have s2:=rat_Sub (RatA_rv hb) (RatA_rv hc) hL hL;refine fni Tryz.f104 ?_;unfold Tryz.f104;repeat (first|simp only[go_sem]|simp (disch:=first|exact omg|fail) only[AX]|refine wki ?_|refine vpd 1 [] ?_|refine vfa ?_)
end Go.Proofs.YtfknkoeagjonbaaGreat
namespace Go.Proofs.YtfknkoeagjonbaaGreat
open Go.Ev
theorem mul_denE (D:Rat):D*(D.den:Rat)=(D.num:Rat):=by
 have dn:(0:Rat)<(D.den:Rat):=by exact_mod_cast Rat.den_pos (self:=D)
 have:=(wk D.num D.den).symm.trans (wB D);have e:=xd (a:=(D.num:Rat)) (b:=(D.den:Rat)) (by grind);rwa [this]at e
theorem fix_Rat {q:Rat} {w L:Nat} (hz:szR q L) (hL:L<=1000:=by omega) (hw:w<=10000:=by omega):Go.Ev.Fn CX 171 [rv q,.int .i64 (w:Int)] (spanV (q.num.natAbs*2^w/q.den) (q.num.natAbs*2^w/q.den+1)):=by
 obtain⟨z1,z2⟩:=hz;have o:=fix_Of (n:=q.num.natAbs) (d:=q.den) (w:=w) (by omega) (by omega) q.den_nz;generalize q.num.natAbs*2^w/q.den=x at *
 refine fni Tryz.f171 ?_;unfold Tryz.f171;repeat (first|simp only[go_sem]|simp (disch:=first|exact omg|fail) only[AX]|refine wki ?_|refine vfa ?_)
theorem fix_Unit {w:Nat} (hw:w<=1000000000000:=by omega):Go.Ev.Fn CX 234 [.int .i64 (w:Int)] (spanV (2^w) (2^w+1)):=by
 have o:=fix_One;have l1:=lim_len1;have s:=fix_shl (a:=1) (m:=w);have l:=lim_len_shl (a:=1) (n:=w);rw[xe]at s l;have n1:=fix_Next (a:=2^w);generalize 2^w=P at *
 refine fni Tryz.f234 ?_;unfold Tryz.f234;repeat (first|simp only[go_sem]|simp (disch:=first|exact omg|fail) only[AX]|refine wki ?_|refine vfa ?_)
theorem fix_Told {a b w p:Nat} (ha:(lim a).length<=10000:=by omega) (hb:(lim b).length<=10000:=by omega) (hp:p<w:=by omega) (hw:w<=10000:=by omega):Go.Ev.Fn CX 110 [spanV a b,.int .i64 (w:Int),.int .i64 (p:Int)] (ballR (mkRat ((a/2^(w-p):Nat):Int) (2^p)) (mkRat ((b/2^(w-p)+1:Nat):Int) (2^p))):=by
 have o:=fix_One;have l1:=lim_len1;have sh:=fix_shl (a:=1) (m:=p);have lp:=lim_len_shl (a:=1) (n:=p);rw[xe]at sh lp;have e0:(p:Int)-(w:Int) = -((w-p:Nat):Int):=by omega
 have s1:=fix_shr (a:=a) (m:=w-p);have s2:=fix_shr (a:=b) (m:=w-p);have l3:=lim_len_mono (xv a (2^(w-p)));have l4:=lim_len_mono (xv b (2^(w-p)));have n1:=fix_Next (a:=b/2^(w-p));have l5:=lim_len_add (a:=b/2^(w-p)) (b:=1) (L:=10000);have r1:=rat_OfL (s:=false) (n:=a/2^(w-p)) (d:=2^p);have r2:=rat_OfL (s:=false) (n:=b/2^(w-p)+1) (d:=2^p);rw[show sgn false (a/2^(w-p))=((a/2^(w-p):Nat):Int) from rfl]at r1;rw[show sgn false (b/2^(w-p)+1)=((b/2^(w-p)+1:Nat):Int) from rfl]at r2;generalize mkRat ((a/2^(w-p):Nat):Int) (2^p)=q1 at *
 generalize mkRat ((b/2^(w-p)+1:Nat):Int) (2^p)=q2 at *
 generalize b/2^(w-p)+1=y' at *
 generalize a/2^(w-p)=x at *
 generalize b/2^(w-p)=y at *
 generalize 2^p=P at *
 generalize hk:w-p=k at *
 refine fni Tryz.f110 ?_;unfold Tryz.f110;repeat (first|simp only[go_sem,e0]|simp (disch:=first|exact omg|fail) only[AX,e0]|refine wki ?_|refine vpd 2 [12,16,7,20,24,25,7] ?_|refine vfa ?_)
abbrev unN (q:Rat) (w:Nat):Nat:=q.num.natAbs*2^w/q.den
theorem fix_Ball {lo hi:Rat} {w L:Nat} (h1:szR lo L) (h2:szR hi L) (hL:L<=1000:=by omega) (hw:w<=10000:=by omega):Go.Ev.Fn CX 166 [ballR lo hi,.int .i64 (w:Int)] (spanV (unN lo w) (unN hi w+1)):=by
 have r1:Go.Ev.Fn CX 171 [rv lo,.int .i64 (w:Int)] (spanV (unN lo w) (unN lo w+1)):=fix_Rat h1 hL hw;have r2:Go.Ev.Fn CX 171 [rv hi,.int .i64 (w:Int)] (spanV (unN hi w) (unN hi w+1)):=fix_Rat h2 hL hw;generalize unN lo w=x at *
 generalize unN hi w=y at *
 refine fni Tryz.f166 ?_;unfold Tryz.f166;repeat (first|simp only[go_sem]|simp (disch:=first|exact omg|fail) only[AX]|refine wki ?_|refine vpd 1 [] ?_|refine vfa ?_)
theorem fix_Inverse {a b w:Nat} (h1:(lim a).length<=30000000000:=by omega) (h2:(lim b).length<=30000000000:=by omega) (ha:0<a:=by omega) (hb:0<b:=by omega) (hw:w<=900000000000:=by omega):Go.Ev.Fn CX 239 [spanV a b,.int .i64 (w:Int)] (spanV (2^(2*w)/b) (2^(2*w)/a+1)):=by
 have o:=fix_One;have l1:=lim_len1;have s:=fix_shl (a:=1) (m:=2*w);have l:=lim_len_shl (a:=1) (n:=2*w);rw[xe]at s l;have o1:=fix_Over' (N:=2^(2*w)) (D:=b);have o2:=fix_Over' (N:=2^(2*w)) (D:=a);have l2:=lim_len_mono (xv (2^(2*w)) a);have n1:=fix_Next (a:=2^(2*w)/a);rw[show ((2*w:Nat):Int)=2*(w:Int) by omega]at s;generalize 2^(2*w)/b=x at *
 generalize 2^(2*w)/a+1=y' at *
 generalize 2^(2*w)/a=y at *
 generalize 2^(2*w)=P at *
 refine fni Tryz.f239 ?_;unfold Tryz.f239;repeat (first|simp only[go_sem]|simp (disch:=first|exact omg|fail) only[AX]|refine wki ?_|refine vpd 2 [5,12,5,16,17] ?_|refine vfa ?_)
theorem enc_inv {a b w:Nat} {q:Rat} (ha:0<a) (h:Enc w a b q):Enc w (2^(2*w)/b) (2^(2*w)/a+1) (1/q)/\0<q:=by
 obtain⟨h1,h2⟩:=h;have P:=p2_pos w;have aR:(0:Rat)<(a:Rat):=by exact_mod_cast ha
 have qP:0<q*p2 w:=by grind
 have q0:0<q:=by
  rcases zC (a:=q) (b:=0) with g|g
  ·have:=xA g (show 0<=p2 w by grind);grind
  ·by_cases e:q=0
   ·rw[e]at qP;grind
   ·grind
 have bR:(0:Rat)<(b:Rat):=by grind
 have hb:0<b:=by exact_mod_cast bR
 have e0:((2^(2*w):Nat):Rat)=p2 w*p2 w:=by
  show _=((2^w:Nat):Rat)*((2^w:Nat):Rat)
  have:((2^w:Nat):Rat)*((2^w:Nat):Rat)=((2^w*2^w:Nat):Rat):=by exact_mod_cast rfl
  rw[this,<- xM];congr 2;omega
 have f:=floor_le (a:=2^(2*w)) (d:=b);have g:=le_floor (a:=2^(2*w)) (d:=a) ha;rw[e0]at f g;have iq:1/q*q=1:=xd (by grind);have i0:0<=1/q:=by
  rcases zC (a:=0) (b:=1/q) with k|k
  ·exact k
  ·have:=xA k (show 0<=q by grind);grind
 generalize 1/q=i at *
 refine⟨⟨le_by bR ?_,le_by aR ?_⟩,q0⟩
 ·-- x * b <= P * P = i * q * P * P <= i P * b
  have k1:=xB h2 (show 0<=i*p2 w from xF i0 (by grind));have k2:i*p2 w*(q*p2 w)=p2 w*p2 w:=by
   have:i*p2 w*(q*p2 w)=i*q*(p2 w*p2 w):=by grind
   rw[this,iq,xc]
  grind
 ·have k1:=xB h1 (show 0<=i*p2 w from xF i0 (by grind));have k2:i*p2 w*(q*p2 w)=p2 w*p2 w:=by
   have:i*p2 w*(q*p2 w)=i*q*(p2 w*p2 w):=by grind
   rw[this,iq,xc]
  grind
theorem unN_le {q:Rat} (h0:0<=q) (w:Nat):((unN q w:Nat):Rat)<=q*p2 w/\q*p2 w<=((unN q w+1:Nat):Rat):=by
 have D:(0:Rat)<(q.den:Rat):=by exact_mod_cast q.den_pos
 have f:=floor_le (a:=q.num.natAbs*2^w) (d:=q.den);have g:=le_floor (a:=q.num.natAbs*2^w) (d:=q.den) q.den_pos;have e:((q.num.natAbs*2^w:Nat):Rat)=q*p2 w*(q.den:Rat):=by
  have c1:((q.num.natAbs*2^w:Nat):Rat)=((q.num.natAbs:Nat):Rat)*p2 w:=by exact_mod_cast rfl
  have h:=mul_denE q;have h2:((q.num.natAbs:Nat):Rat)=(q.num:Rat):=by
   have:(q.num.natAbs:Int)=q.num:=wJ (zL.2 h0);rw[<- this];rfl
  rw[c1,h2,<- h];grind
 rw[e]at f g;exact⟨le_by D f,le_by D g⟩
theorem ball_enc {lo hi q:Rat} (h0:0<=lo) (h1:lo<=q) (h2:q<=hi) (w:Nat):Enc w (unN lo w) (unN hi w+1) q:=by
 have P:=p2_pos w;have a:=(unN_le h0 w).1;have b:=(unN_le (show 0<=hi by grind) w).2;have c:=xA h1 (show 0<=p2 w by grind);have d:=xA h2 (show 0<=p2 w by grind);exact⟨xE a c,xE d b⟩
end Go.Proofs.YtfknkoeagjonbaaGreat
namespace Go.Proofs.YtfknkoeagjonbaaGreat
open Go.Ev
set_option maxHeartbeats 1000000 in
theorem fix_Power {a1 a2 n w F:Nat} (hn:n<2^F) (hF:F<=4) (h1:(lim a1).length<=50) (h2:(lim a2).length<=50) (hw:w<=1000:=by omega) (hw0:0<w:=by omega) :
  Go.Ev.Fn CX 288 [spanV a1 a2,.int .i64 (n:Int),.int .i64 (w:Int)] (spanV (powGo w F n (2^w) (2^w+1) a1 a2).1 (powGo w F n (2^w) (2^w+1) a1 a2).2):=by
 have un:=fix_Unit (w:=w);have l1:=lim_len1;have lp:=lim_len_shl (a:=1) (n:=w);rw[xe]at lp;have lp2:=lim_len_add (a:=2^w) (b:=1) (L:=40);obtain⟨R,hR⟩ : ∃R,R=powGo w F n (2^w) (2^w+1) a1 a2:=⟨_,rfl⟩
 rw[<- hR];have hF16:(2:Nat)^F<=16:=xD (n:=2) (by omega) hF;have hF4:100*2^F<=1600:=by omega
 refine fni Tryz.f288 ?_;unfold Tryz.f288;repeat (first|simp only[go_sem]|simp (disch:=first|exact omg|fail) only[AX]|refine wki ?_|refine vfa ?_)
 refine vp_loop_inv (fun s=>s.tmp 2 = .sv (.int .i64 (w:Int))/\s.tmp 3 = .ptr 3 0 0/\s.tmp 6 = .ptr 6 0 0/\s.obj 6 0=some [.sl 0 [],.sl 0 []]/\s.tmp 7 = .ptr 7 0 0 /\
   ∃f m c1 c2 d1 d2 e g:Nat,s.tmp 1 = .sv (.int .i64 (m:Int))/\m<2^f/\f<=F/\s.obj 7 0=some [natV (lim c1),natV (lim c2)]/\s.obj 3 0=some [natV (lim d1),natV (lim d2)]/\powGo w f m c1 c2 d1 d2=R /\
    (lim c1).length<=e/\(lim c2).length<=e/\(lim d1).length<=g/\(lim d2).length<=g/\(g+1)*2^f<=1600/\e+1601*f<=7000/\1<=e)
  (fun s=>match s.tmp 1 with | .sv (.int _ i)=>i.toNat|_=>0) ⟨rfl,rfl,rfl,rfl,rfl,F,n,2^w,2^w+1,a1,a2,41,50,rfl,hn,xQ _,rfl,rfl,hR.symm,by omega,by omega,by omega,by omega,by omega,by omega,by omega⟩ ?_
 rintro s ⟨i2,i3,i6,o6,i7,f,m,c1,c2,d1,d2,e,g,i1,hm,hf,o7,o3,hp,x1,x2,x3,x4,x5,x6,x7⟩
 cases f with
 |zero=>
  obtain rfl:m=0:=by omega
  rw[powGo_zero]at hp;subst hp;repeat (first|simp only[go_sem,i2,i3,i6,o6,i7,i1,o7,o3]|simp (disch:=first|exact omg|fail) only[AX,i2,i3,i6,o6,i7,i1,o7,o3]|refine wki ?_)
 |succ f=>
  rw[powGo]at hp;by_cases h0:m=0
  ·subst h0;rw[if_pos rfl]at hp;subst hp;repeat (first|simp only[go_sem,i2,i3,i6,o6,i7,i1,o7,o3]|simp (disch:=first|exact omg|fail) only[AX,i2,i3,i6,o6,i7,i1,o7,o3]|refine wki ?_)
  ·rw[if_neg h0]at hp;rw[xU]at hm x5;have hp1:1<=2^f:=xK (by omega);have hg:g+1<=1600:=by
    have:=yi (g+1) (show 0<2^f*2 by omega);omega
   have hm16:m<16:=by
    have:2^f*2<=16:=by rw[<- xU];exact xH (xD (n:=2) (by omega) hf) hF16
    omega
   have an:=and_one64 (a:=m);have y1:=lim_len_mul (a:=c1) (b:=d1);have y2:=lim_len_mul (a:=c2) (b:=d2);have y3:=lim_len_mul (a:=d1) (b:=d1);have y4:=lim_len_mul (a:=d2) (b:=d2);have w1:=lim_len_mono (xv (c1*d1) (2^w));have w2:=lim_len_add (a:=c2*d2/2^w) (b:=1) (L:=e+g) (xH (lim_len_mono (xv (c2*d2) (2^w))) (by omega));have w3:=lim_len_mono (xv (d1*d1) (2^w));have hge:(g+g+1+1)*2^f<=1600:=by
    have:(g+g+1+1)*2^f=(g+1)*(2^f*2):=by
     rw[xV (2^f) 2,<- xP];congr 1;omega
    omega
   have mm:=fix_Mul (a:=c1) (b:=c2) (c:=d1) (d:=d2) (w:=w) (by omega) (by omega) (by omega) (by omega) (by omega) hw0;have sq:=fix_Mul (a:=d1) (b:=d2) (c:=d1) (d:=d2) (w:=w) (by omega) (by omega) (by omega) (by omega) (by omega) hw0;have w4:(lim (d2*d2/2^w+1)).length<=g+g+1:=by
    rcases xo g with hg0|hg0
    ·have:d2=0:=by
      have:(lim d2).length=0:=by omega
      rw[List.length_eq_zero_iff]at this;exact lim_eq_nil.1 this
     subst this;rw[zY,Nat.zero_div];show (lim 1).length<=_;omega
    ·exact lim_len_add (a:=d2*d2/2^w) (b:=1) (L:=g+g) (xH (lim_len_mono (xv (d2*d2) (2^w))) (by omega))
   generalize c1*d1/2^w=u1 at *
   generalize c2*d2/2^w+1=u2 at *
   generalize d1*d1/2^w=v1 at *
   generalize d2*d2/2^w+1=v2 at *
   by_cases hod:m%2=1
   ·rw[if_pos hod]at hp;rw[hod]at an;repeat (first|simp only[go_sem,i2,i3,i6,o6,i7,i1,o7,o3,an]|simp (disch:=first|exact omg|fail) only[AX,i2,i3,i6,o6,i7,i1,o7,o3,an]|refine wki ?_|refine vfa ?_)
    exact⟨⟨f,m/2,u1,u2,v1,v2,e+g+1,g+g+1,rfl,by omega,by omega,rfl,rfl,hp,by omega,by omega,by omega,by omega,hge,by omega,by omega⟩,by omega⟩
   ·rw[if_neg hod]at hp;rw[show m%2=0 by omega]at an;repeat (first|simp only[go_sem,i2,i3,i6,o6,i7,i1,o7,o3,an]|simp (disch:=first|exact omg|fail) only[AX,i2,i3,i6,o6,i7,i1,o7,o3,an]|refine wki ?_|refine vfa ?_)
    exact⟨⟨f,m/2,c1,c2,v1,v2,e,g+g+1,rfl,by omega,by omega,rfl,rfl,hp,by omega,by omega,by omega,by omega,hge,by omega,by omega⟩,by omega⟩
end Go.Proofs.YtfknkoeagjonbaaGreat
namespace Go.Proofs.YtfknkoeagjonbaaGreat
open Go.Ev
theorem gam_run (a b c:Nat) (to:Int) (ha:1<=a:=by omega) (hb:1<=b:=by omega) (h1:c=0\/((a+(c-1)*b:Nat):Int)<=to:=by omega) (h2:to<((a+c*b:Nat):Int):=by omega) (hto:to<=1073741824:=by omega) (hto0 : -9223372036854775808<=to:=by omega) (hc:c<=1048576:=by omega) (hab:a<=1073741824:=by omega) (hbb:b<=1073741824:=by omega) :
  Go.Ev.Fn CX 310 [.int .i64 (a:Int),.int .i64 (b:Int),.int .i64 to] (natV (lim (prodN a b c))):=by
 have hle : ∀i,i<c->((a+i*b:Nat):Int)<=to:=by
  intro i hi;rcases h1 with h|h
  ·omega
  ·have:i*b<=(c-1)*b:=xC _ (by omega);omega
 have hlen : ∀i,i<=c->(lim (prodN a b i)).length<=i+1:=fun i hi=>prodN_len fun j hj=>by have:=hle j (by omega);omega
 have o1:=nat_Of 1;refine fni Tryz.f310 ?_;unfold Tryz.f310;repeat (first|simp only[go_sem]|simp (disch:=first|exact omg|fail) only[AX]|refine wki ?_|refine vfa ?_)
 refine vp_loop_inv (fun s=>s.tmp 1 = .sv (.int .i64 (b:Int))/\s.tmp 2 = .sv (.int .i64 to) /\ ∃i:Nat,s.tmp 8 = .sv (.int .i64 ((a+i*b:Nat):Int))/\s.tmp 7 = .sv (natV (lim (prodN a b i)))/\i<=c)
  (fun s=>match s.tmp 8 with | .sv (.int _ n)=>(to+1-n).toNat|_=>0) ⟨rfl,rfl,0,by rw[zY,yE];rfl,rfl,by omega⟩ ?_
 rintro s ⟨i1,i2,i,i8,i7,hi⟩
 by_cases hend:i=c
 ·subst hend;have hlt : ¬((a+i*b:Nat):Int)<=to:=by omega
  repeat (first|simp only[go_sem,i1,i2,i8,i7]|simp (disch:=first|exact omg|fail) only[AX,i1,i2,i8,i7]|refine wki ?_)
 ·have h3:=hle i (by omega);have hl:=hlen i hi;have oN:=nat_Of (a+i*b);have hl2:=lim_len_one (a:=a+i*b);have hn:a+(i+1)*b=a+i*b+b:=by rw[xZ,xe,zR]
  have hnew:prodN a b (i+1)=prodN a b i*(a+i*b):=rfl;generalize hv:a+i*b=v at *
  repeat (first|simp only[go_sem,i1,i2,i8,i7]|simp (disch:=first|exact omg|fail) only[AX,i1,i2,i8,i7]|refine wki ?_|refine vfa ?_)
  refine vf_of (nat_MulL) ?_;repeat (first|simp only[go_sem,i1,i2,i8,i7]|simp (disch:=first|exact omg|fail) only[AX,i1,i2,i8,i7]|refine wki ?_)
  refine⟨⟨i+1,by rw[hn],by rw[hnew],by omega⟩,by omega⟩
theorem gam_whole (n:Nat) (hn:(lim n).length<=68719476736:=by omega):Go.Ev.Fn CX 309 [natV (lim n)] (rv (n:Rat)):=by
 have o1:=nat_Of 1;have h1:=lim_len1;have hOf:=rat_OfL (s:=false) (n:=n) (d:=1) hn;rw[show mkRat (sgn false n) 1=(n:Rat) from Rat.mkRat_one _]at hOf;refine fni Tryz.f309 ?_;unfold Tryz.f309;repeat (first|simp only[go_sem]|simp (disch:=first|exact omg|fail) only[AX]|refine wki ?_|refine vfa ?_)
theorem pow_len (m:Nat):(lim (2^m)).length<=m+1:=
 lim_len_lt (xz (zS (by omega) (Nat.lt_succ_self m)) (zP (by decide) (m+1)))
theorem gam2_size {n:Nat} (h:n<=1024:=by omega):szR (gam2 n) 1024:=by
 unfold gam2;split
 ·have h1:=prodN_len (a:=2) (b:=1) (c:=n/2-2) (fun i hi=>by omega);refine⟨?_,?_⟩
  ·show (lim ((prodN 2 1 (n/2-2):Nat):Int).natAbs).length<=_;rw[xJ];omega
  ·show (lim 1).length<=_;have:=lim_len1;omega
 ·have h1:=prodN_len (a:=3) (b:=2) (c:=(n-3)/2) (fun i hi=>by omega);have h2:=pow_len (n/2);exact szR_mk (s:=false)
theorem gam_half (n:Nat) (h1:1<=n:=by omega) (h:n<=1024:=by omega):Go.Ev.Fn CX 289 [.int .i64 (n:Int)] (rv (gam2 n)):=by
 have ha:=and_one64 (a:=n);have hd:((n:Int)).tdiv 2=((n/2:Nat):Int):=rfl;by_cases h0:n%2=0
 ·have hr:=gam_run 2 1 (n/2-2) ((n/2-1:Nat):Int);have hl:=prodN_len (a:=2) (b:=1) (c:=n/2-2) (fun i hi=>by omega);have hw:=gam_whole (prodN 2 1 (n/2-2));rw[show gam2 n=((prodN 2 1 (n/2-2):Nat):Rat) from if_pos h0];rw[h0]at ha;refine fni Tryz.f289 ?_;unfold Tryz.f289;repeat (first|simp only[go_sem,ha,hd]|simp (disch:=first|exact omg|fail) only[AX,ha,hd]|refine wki ?_|refine vfa ?_)
 ·have hr:=gam_run 3 2 ((n-3)/2) ((n:Int)-2);have hl:=prodN_len (a:=3) (b:=2) (c:=(n-3)/2) (fun i hi=>by omega);have o1:=nat_Of 1;have l1:=lim_len1;have hS:=shift_up (lim 1) (n/2) (okL_lim _) (by omega) ((n/2:Nat):Int) rfl;rw[wth_lim,xe]at hS;have hp:=pow_len (n/2);have hOf:=rat_OfL (s:=false) (n:=prodN 3 2 ((n-3)/2)) (d:=2^(n/2));rw[show gam2 n=mkRat (prodN 3 2 ((n-3)/2):Nat) (2^(n/2)) from if_neg h0];have h01:n%2=1:=by omega
  rw[h01]at ha;refine fni Tryz.f289 ?_;unfold Tryz.f289;repeat (first|simp only[go_sem,ha,hd]|simp (disch:=first|exact omg|fail) only[AX,ha,hd]|refine wki ?_|refine vfa ?_)
  rfl
end Go.Proofs.YtfknkoeagjonbaaGreat
namespace Go.Proofs.YtfknkoeagjonbaaGreat
open Go.Ev
end Go.Proofs.YtfknkoeagjonbaaGreat
namespace Go.Proofs.YtfknkoeagjonbaaGreat
open Go.Ev
def RowL (s:St) (t d v:Nat):Prop:=s.tmp t = .sv (natV (lim v))\/(v=1/\s.tmp t = .ref d 0 1 0 1/\s.obj d 0=some [.int .u32 1])
end Go.Proofs.YtfknkoeagjonbaaGreat
namespace Go.Proofs.YtfknkoeagjonbaaGreat
open Go.Ev
theorem and_two (a b:Nat):(a &&& b)%2=a%2*(b%2):=by
 have h:=Nat.and_mod_two_pow (a:=a) (b:=b) (n:=1);rw[Nat.pow_one]at h;rw[h];rcases zO a with ha|ha<;>rcases zO b with hb|hb<;>rw[ha,hb]<;>rfl
theorem beta2_size {a b:Nat} (ha:a<=512:=by omega) (hb:b<=512:=by omega):szR (beta2 a b) 3072:=by
 have z1:=gam2_size (n:=a);have z2:=gam2_size (n:=b);have z3:=gam2_size (n:=a+b);exact szR_div (szR_mul z1 z2) z3
theorem gam_Beta (a b:Nat) (ha:1<=a) (ha2:a<=256) (hb:1<=b) (hb2:b<=256:=by omega):Go.Ev.Fn CX 238 [.int .i64 (a:Int),.int .i64 (b:Int)] (.tup [rv (beta2 a b),.int .i64 (a%2*(b%2):Nat),.bool true]):=by
 have g1:=gam_half a ha;have g2:=gam_half b hb;have g3:=gam_half (a+b);have z1:=gam2_size (n:=a);have z2:=gam2_size (n:=b);have z3:=gam2_size (n:=a+b);have m1:=rat_Mul (RatA_rv z1) (RatA_rv z2);have d1:=rat_Div (RatA_rv (szR_mul z1 z2)) (RatA_rv z3);rw[decide_eq_true (gam2_pos (n:=a+b)),show gam2 a*gam2 b/gam2 (a+b)=beta2 a b from rfl]at d1;have hb1:=b_and64i (a:=a) (b:=b);have hle:a &&& b<=a:=Nat.and_le_left;have hb2:=and_one64 (a:=a &&& b);rw[and_two]at hb2;refine fni Tryz.f238 ?_;unfold Tryz.f238
 repeat (first|simp only[go_sem,hb1,hb2]|simp (disch:=first|exact omg|fail) only[AX,hb1,hb2]|refine wki ?_|refine vfa ?_)
end Go.Proofs.YtfknkoeagjonbaaGreat
namespace Go.Proofs.YtfknkoeagjonbaaGreat
open Go.Ev
abbrev intV (z:Int):SV := .agg [.bool (decide (z<0)),natV (lim z.natAbs)]
abbrev ivV (a b:Int):SV := .agg [.bool (decide (a<0)),natV (lim a.natAbs),.bool (decide (b<0)),natV (lim b.natAbs)]
theorem lim_ne {n:Nat}:decide (0<(lim n).length)=decide (n≠0):=by
 by_cases h:n=0
 ·subst h;rw[lim_zero];rfl
 ·rw[decide_eq_true (lim_pos h),decide_eq_true h]
theorem ref4_Whole (n:Int) (h : -9223372036854775808<n/\n<9223372036854775808:=by omega):Go.Ev.Fn CX 261 [.int .i64 n] (intV n):=by
 by_cases h0:n<0
 ·obtain⟨m,rfl⟩ : ∃m:Nat,n = -(m:Int):=⟨n.natAbs,by omega⟩
  have o:=ref1_Of m;rw[show intV (-(m:Int)) = .agg [.bool true,natV (lim m)] by show SV.agg [.bool (decide (-(m:Int)<0)),natV (lim (-(m:Int)).natAbs)]=_;rw[decide_eq_true h0,yJ,xJ]];have e0:0 - -(m:Int)=(m:Int):=by omega
  refine fni Tryz.f261 ?_;unfold Tryz.f261;repeat (first|simp only[go_sem,e0]|simp (disch:=first|exact omg|fail) only[AX,e0]|refine wki ?_|refine vfa ?_)
 ·obtain⟨m,rfl⟩ : ∃m:Nat,n=(m:Int):=⟨n.natAbs,by omega⟩
  have o:=ref1_Of m;rw[show intV (m:Int) = .agg [.bool false,natV (lim m)] by show SV.agg [.bool (decide ((m:Int)<0)),natV (lim (m:Int).natAbs)]=_;rw[decide_eq_false h0,xJ]];refine fni Tryz.f261 ?_;unfold Tryz.f261;repeat (first|simp only[go_sem]|simp (disch:=first|exact omg|fail) only[AX]|refine wki ?_|refine vfa ?_)
theorem ref4_Opp (z:Int) (h:(lim z.natAbs).length<=1000000:=by omega):Go.Ev.Fn CX 199 [intV z] (intV (-z)):=by
 have e:intV (-z) = .agg [.bool (!decide (z<0)&&decide (0<(lim z.natAbs).length)),natV (lim z.natAbs)]:=by
  show SV.agg [.bool (decide (-z<0)),natV (lim (-z).natAbs)]=_;rw[lim_ne,yJ];by_cases h1:z<0
  ·rw[decide_eq_true h1,decide_eq_false (by omega)];rfl
  ·by_cases h2:z=0
   ·rw[decide_eq_false h1,decide_eq_false (by omega),decide_eq_false (by omega)];rfl
   ·rw[decide_eq_false h1,decide_eq_true (by omega),decide_eq_true (by omega)];rfl
 rw[e];by_cases h1:z<0
 ·rw[decide_eq_true h1];refine fni Tryz.f199 ?_;unfold Tryz.f199;repeat (first|simp only[go_sem,xL,xg,yY,yU]|simp (disch:=first|exact omg|fail) only[AX,xL,xg,yY,yU]|refine wki ?_)
 ·rw[decide_eq_false h1];refine fni Tryz.f199 ?_;unfold Tryz.f199;repeat (first|simp only[go_sem,xL,xg,yY,yU]|simp (disch:=first|exact omg|fail) only[AX,xL,xg,yY,yU]|refine wki ?_)
  rw[show decide (((lim z.natAbs).length:Int)>0)=decide (0<(lim z.natAbs).length) from decide_eq_decide.2 (by omega)]
end Go.Proofs.YtfknkoeagjonbaaGreat
namespace Go.Proofs.YtfknkoeagjonbaaGreat
open Go.Ev
theorem iv_eq {z:Int} {s:Bool} {n:Nat} (h1:z.natAbs=n) (h2:decide (z<0)=s):intV z = .agg [.bool s,natV (lim n)]:=by subst h1 h2;rfl
theorem lenpos {n:Nat}:decide (((lim n).length:Int)>0)=decide (n≠0):=by
 rw[<- lim_ne];exact decide_eq_decide.2 (by omega)
theorem ref4_Plus (a b:Int) (ha:(lim a.natAbs).length<=1000000:=by omega) (hb:(lim b.natAbs).length<=1000000:=by omega):Go.Ev.Fn CX 198 [intV a,intV b] (intV (a+b)):=by
 have s1:=ref1_AddL (N:=a.natAbs) (D:=b.natAbs);have c1:=ref1_CmpL (N:=a.natAbs) (D:=b.natAbs);have s2:=ref1_SubL (N:=a.natAbs) (D:=b.natAbs);have s3:=ref1_SubL (N:=b.natAbs) (D:=a.natAbs);have hbb:=beq_bool (decide (a<0)) (decide (b<0));have l2:=lim_len_mono (zt a.natAbs b.natAbs);have l3:=lim_len_mono (zt b.natAbs a.natAbs);have hl:=fun (n:Nat)=>lenpos (n:=n)
 have hbt:(true==false)=false:=rfl;have hbf:(false==true)=false:=rfl;by_cases hs:decide (a<0)=decide (b<0)
 ·rw[decide_eq_true hs]at hbb;have hs':=decide_eq_decide.1 hs;rw[iv_eq (z:=a+b) (s:=decide (a<0)) (n:=a.natAbs+b.natAbs) (by omega) (decide_eq_decide.2 (by omega))];clear hs;refine fni Tryz.f198 ?_;unfold Tryz.f198;repeat (first|simp only[go_sem,hbb]|simp (disch:=first|exact omg|fail) only[AX,hbb]|refine wki ?_|refine vpd 2 [17,19] ?_|refine vfa ?_)
 ·rw[decide_eq_false hs]at hbb;have hs' : ¬((a<0)↔(b<0)):=fun h=>hs (decide_eq_decide.2 h)
  by_cases h2:b.natAbs<=a.natAbs
  ·have e:decide (cmpN a.natAbs b.natAbs>=0)=true:=decide_eq_true (by unfold cmpN;split<;>(try split)<;>omega);rw[iv_eq (z:=a+b) (s:=decide (a<0)&&decide (a.natAbs-b.natAbs≠0)) (n:=a.natAbs-b.natAbs) (by omega) (by rw[<- Bool.decide_and];exact decide_eq_decide.2 (by omega))];generalize cmpN a.natAbs b.natAbs=c at *
   generalize a.natAbs-b.natAbs=x at *
   clear hs s3 s1;by_cases h3:a<0
   ·rw[decide_eq_true h3];rw[decide_eq_true h3]at hbb;refine fni Tryz.f198 ?_;unfold Tryz.f198;repeat (first|simp only[go_sem,hbt,hbf,hbb,e,hl,yU]|simp (disch:=first|exact omg|fail) only[AX,hbt,hbf,hbb,e,hl,yU]|refine wki ?_|refine vpd 2 [17,19] ?_|refine vfa ?_)
   ·rw[decide_eq_false h3];rw[decide_eq_false h3]at hbb;refine fni Tryz.f198 ?_;unfold Tryz.f198;repeat (first|simp only[go_sem,hbt,hbf,hbb,e,hl,yY]|simp (disch:=first|exact omg|fail) only[AX,hbt,hbf,hbb,e,hl,yY]|refine wki ?_|refine vpd 2 [17,19] ?_|refine vfa ?_)
  ·have e:decide (cmpN a.natAbs b.natAbs>=0)=false:=decide_eq_false (by unfold cmpN;split<;>(try split)<;>omega);rw[iv_eq (z:=a+b) (s:=decide (b<0)&&decide (b.natAbs-a.natAbs≠0)) (n:=b.natAbs-a.natAbs) (by omega) (by rw[<- Bool.decide_and];exact decide_eq_decide.2 (by omega))];generalize cmpN a.natAbs b.natAbs=c at *
   generalize b.natAbs-a.natAbs=x at *
   clear hs s2 s1;by_cases h3:b<0
   ·rw[decide_eq_true h3];rw[decide_eq_true h3]at hbb;refine fni Tryz.f198 ?_;unfold Tryz.f198;repeat (first|simp only[go_sem,hbt,hbf,hbb,e,hl,yU]|simp (disch:=first|exact omg|fail) only[AX,hbt,hbf,hbb,e,hl,yU]|refine wki ?_|refine vpd 2 [17,19] ?_|refine vfa ?_)
   ·rw[decide_eq_false h3];rw[decide_eq_false h3]at hbb;refine fni Tryz.f198 ?_;unfold Tryz.f198;repeat (first|simp only[go_sem,hbt,hbf,hbb,e,hl,yY]|simp (disch:=first|exact omg|fail) only[AX,hbt,hbf,hbb,e,hl,yY]|refine wki ?_|refine vpd 2 [17,19] ?_|refine vfa ?_)
theorem ref4_Times (a b:Int) (ha:(lim a.natAbs).length<=100000:=by omega) (hb:(lim b.natAbs).length<=100000:=by omega):Go.Ev.Fn CX 251 [intV a,intV b] (intV (a*b)):=by
 have m:=ref1_MulL (N:=a.natAbs) (D:=b.natAbs);have l:=lim_len_mul (a:=a.natAbs) (b:=b.natAbs);have hl:=fun (n:Nat)=>lenpos (n:=n)
 rw[iv_eq (z:=a*b) (s:=(!(decide (a<0)==decide (b<0)))&&decide (a.natAbs*b.natAbs≠0)) (n:=a.natAbs*b.natAbs) (Int.natAbs_mul a b) ?_]
 ·generalize a.natAbs*b.natAbs=x at *
  cases h1:(!(decide (a<0)==decide (b<0)))
  ·refine fni Tryz.f251 ?_;unfold Tryz.f251;repeat (first|simp only[go_sem,h1,hl,yY]|simp (disch:=first|exact omg|fail) only[AX,h1,hl,yY]|refine wki ?_|refine vfa ?_)
  ·refine fni Tryz.f251 ?_;unfold Tryz.f251;repeat (first|simp only[go_sem,h1,hl,yU]|simp (disch:=first|exact omg|fail) only[AX,h1,hl,yU]|refine wki ?_|refine vfa ?_)
 ·by_cases h0:a.natAbs*b.natAbs=0
  ·have:a*b=0:=by
    have:=Int.natAbs_mul a b;omega
   rw[this,h0];simp
  ·rw[decide_eq_true h0,Bool.and_true];have h:=sgn_mul a b;rw[<- h];exact sgn_neg _ h0
def cmpZ (a b:Int):Int:=if a<b then -1 else if a=b then 0 else 1
theorem ref4_Cmp (a b:Int) (ha:(lim a.natAbs).length<=100000) (hb:(lim b.natAbs).length<=100000):Go.Ev.Fn CX 252 [intV a,intV b] (.int .i64 (cmpZ a b)):=by
 have o:=ref4_Opp b;have s:=ref4_Plus a (-b) (by omega) (by rw[yJ];omega);have l:(lim (a + -b).natAbs).length<=100001:=xH (lim_len_mono (show (a + -b).natAbs<=a.natAbs+b.natAbs by omega)) (lim_len_add (L:=100000) ha hb);by_cases h0:a + -b=0
 ·rw[show cmpZ a b=0 by unfold cmpZ;rw[if_neg (by omega),if_pos (by omega)]];have e:(lim (a + -b).natAbs).length=0:=by rw[h0];simp[lim_zero]
  refine fni Tryz.f252 ?_;unfold Tryz.f252;repeat (first|simp only[go_sem,e]|simp (disch:=first|exact omg|fail) only[AX,e]|refine wki ?_|refine vpd 1 [] ?_|refine vfa ?_)
 ·have e:=lim_pos (N:=(a + -b).natAbs);by_cases h1:a + -b<0
  ·rw[show cmpZ a b = -1 by unfold cmpZ;rw[if_pos (by omega)]];have e2:decide (a + -b<0)=true:=decide_eq_true h1;refine fni Tryz.f252 ?_;unfold Tryz.f252;repeat (first|simp only[go_sem,e2]|simp (disch:=first|exact omg|fail) only[AX,e2]|refine wki ?_|refine vpd 1 [] ?_|refine vfa ?_)
  ·rw[show cmpZ a b=1 by unfold cmpZ;rw[if_neg (by omega),if_neg (by omega)]];have e2:decide (a + -b<0)=false:=decide_eq_false h1;refine fni Tryz.f252 ?_;unfold Tryz.f252;repeat (first|simp only[go_sem,e2]|simp (disch:=first|exact omg|fail) only[AX,e2]|refine wki ?_|refine vpd 1 [] ?_|refine vfa ?_)
def cdZ (a:Int) (d:Nat):Int := -(-a/(d:Int))
theorem fall_eq {a:Int} {d:Nat} (hd:d≠0:=by omega):a/(d:Int)=if a<0/\a.natAbs%d≠0 then -((a.natAbs/d+1:Nat):Int) else sgn (decide (a<0)) (a.natAbs/d):=by
 by_cases h:a<0
 ·obtain⟨m,rfl⟩ : ∃m:Nat,a = -(m:Int):=⟨a.natAbs,by omega⟩
  rw[yJ,xJ];have hm:=yl m d;have hlt:=yI m (Nat.pos_of_ne_zero hd);by_cases h2:m%d=0
  ·rw[if_neg (fun g=>g.2 h2),decide_eq_true h];unfold sgn;rw[if_pos rfl];have : -(m:Int)=(d:Int) * -((m/d:Nat):Int):=by
    rw[wY,<- yF];omega
   rw[this,Int.mul_ediv_cancel_left _ (by omega)]
  ·rw[if_pos ⟨h,h2⟩];have e : -(m:Int)=((d-m%d:Nat):Int)+(d:Int) * -((m/d+1:Nat):Int):=by
    rw[wY,<- yF,xY,yD];omega
   rw[e,Int.add_mul_ediv_left _ _ (by omega),Int.ediv_eq_zero_of_lt (by omega) (by omega)];omega
 ·obtain⟨m,rfl⟩ : ∃m:Nat,a=(m:Int):=⟨a.natAbs,by omega⟩
  rw[if_neg (fun g=>h g.1),decide_eq_false h,xJ];unfold sgn;rw[if_neg (by simp),wK]
theorem sgn_iv (s:Bool) (n:Nat):intV (sgn s n) = .agg [.bool (s&&decide (n≠0)),natV (lim n)]:=by
 refine iv_eq (sgn_abs s n) ?_;by_cases h:n=0
 ·subst h;rw[sgn_zero];simp
 ·rw[sgn_neg s h,decide_eq_true h,Bool.and_true]
theorem ref4_Fall (a:Int) (d:Nat) (hd:d≠0:=by omega) (ha:(lim a.natAbs).length<=1000000:=by omega) (hb:(lim d).length<=1000000:=by omega):Go.Ev.Fn CX 196 [intV a,natV (lim d)] (intV (a/(d:Int))):=by
 have s1:=ref1_DivL (N:=a.natAbs) (D:=d) hd;have l:=lim_len_mono (xv a.natAbs d);have l1:=lim_len1;have s2:=ref1_AddL (N:=a.natAbs/d) (D:=1);rw[lim_one]at s2;have hl:=fun (n:Nat)=>lenpos (n:=n)
 have l4:=lim_len_mono (zf (yI a.natAbs (Nat.pos_of_ne_zero hd)));have l5:=lim_len_add (a:=a.natAbs/d) (b:=1) (L:=1000000);have e:=fall_eq (a:=a) hd;by_cases h:a<0
 ·by_cases h2:a.natAbs%d=0
  ·rw[if_neg (fun g=>g.2 h2)]at e;rw[e,sgn_iv,decide_eq_true h];rw[h2]at s1;have h0:decide ((0:Nat)≠0)=false:=rfl;generalize a.natAbs/d=x at *
   refine fni Tryz.f196 ?_;unfold Tryz.f196;repeat (first|simp only[go_sem,hl,h0,yU]|simp (disch:=first|exact omg|fail) only[AX,hl,h0,yU]|refine wki ?_|refine vfa ?_)
  ·rw[if_pos ⟨h,h2⟩]at e;rw[e,show -((a.natAbs/d+1:Nat):Int)=sgn true (a.natAbs/d+1) from rfl,sgn_iv];have h0:decide (a.natAbs%d≠0)=true:=decide_eq_true h2;generalize a.natAbs/d+1=y at *
   generalize a.natAbs/d=x at *
   generalize a.natAbs%d=r at *
   refine fni Tryz.f196 ?_;unfold Tryz.f196;repeat (first|simp only[go_sem,hl,h0,yU]|simp (disch:=first|exact omg|fail) only[AX,hl,h0,yU]|refine wki ?_|refine vfa ?_)
 ·rw[if_neg (fun g=>h g.1)]at e;rw[e,sgn_iv,decide_eq_false h];generalize a.natAbs/d=x at *
  refine fni Tryz.f196 ?_;unfold Tryz.f196;repeat (first|simp only[go_sem,hl,yY]|simp (disch:=first|exact omg|fail) only[AX,hl,yY]|refine wki ?_|refine vfa ?_)
theorem abs_div_le (a:Int) {d:Nat} (hd:d≠0):(a/(d:Int)).natAbs<=a.natAbs:=by
 rw[fall_eq hd];have h1:=xv a.natAbs d;split
 ·rename_i h;rw[yJ,xJ];have hm:=yl a.natAbs d;have:a.natAbs/d<=d*(a.natAbs/d):=zI _ (Nat.pos_of_ne_zero hd);omega
 ·rw[sgn_abs];exact h1
theorem ref4_Rise (a:Int) (d:Nat) (hd:d≠0:=by omega) (ha:(lim a.natAbs).length<=1000000:=by omega) (hb:(lim d).length<=1000000:=by omega):Go.Ev.Fn CX 197 [intV a,natV (lim d)] (intV (cdZ a d)):=by
 have o:=ref4_Opp a ha;have f:=ref4_Fall (-a) d hd (by rw[yJ];exact ha) hb;have l:=lim_len_mono (abs_div_le (-a) hd);rw[yJ a]at l;have o2:=ref4_Opp (-a/(d:Int));unfold cdZ;generalize -a/(d:Int)=y at *
 refine fni Tryz.f197 ?_;unfold Tryz.f197;repeat (first|simp only[go_sem]|simp (disch:=first|exact omg|fail) only[AX]|refine wki ?_|refine vfa ?_)
theorem ref4_pow2 {n:Nat} (h:n<=4096:=by omega):Go.Ev.Fn CX 249 [.int .i64 (n:Int)] (natV (lim (2^n))):=by
 have s:=ref1_shift_up (lim 1) n (okL_lim _) (by rw[lim_one];simp) _ rfl h;rw[wth_lim,xe,lim_one]at s;refine fni Tryz.f249 ?_;unfold Tryz.f249;repeat (first|simp only[go_sem]|simp (disch:=first|exact omg|fail) only[AX]|refine wki ?_|refine vfa ?_)
end Go.Proofs.YtfknkoeagjonbaaGreat
namespace Go.Proofs.YtfknkoeagjonbaaGreat
open Go.Ev
theorem wth_drop1 (b:List Nat) (i:Nat):wth (b.drop i)=b.getD i 0+4294967296*wth (b.drop (i+1)):=by
 by_cases h:i<b.length
 ·rw[wn h,xW,xX h];rfl
 ·rw[zH (by omega),zH (by omega),getD_ge];simp[wth]
theorem wth_shr_drop {a:List Nat} (ha:okL a) (m:Nat):wth a/2^m=wth (a.drop (m/32))/2^(m%32):=by
 have hpow:2^m=4294967296^(m/32)*2^(m%32):=pow_32 m;rw[hpow,<- zk];congr 1;conv=>lhs;rw[<- zu (m/32) a,wth_append]
 have h1:=wth_lt (okL_take ha (m/32));rw[yO]at h1 ⊢;rcases xi a.length (m/32) with h2|h2
 ·rw[zH (by omega)];simp only[wth,yX,yE];refine yn (xz h1 (xD (by omega) (Nat.min_le_left _ _)))
 ·rw[yx h2]at h1 ⊢;rw[wM,wa (xK (by omega)),yn h1,yE]
theorem ref1_shift_down (xs:List Nat) (m:Nat) (hx:okL xs) (hl:xs.length<=1073741824) (s:Int) (hs:s = -(m:Int)) (hm:m<=4096) (hm0:0<m) :
  Go.Ev.Fn CX 73 [natV xs,.int .i64 s] (natV (lim (wth xs/2^m))):=by
 refine fni Tryz.f73 ?_;unfold Tryz.f73;have lx:=lim_length_le hx;have e1:(if (-4096:Int)>s then (-4096:Int) else s)=s:=if_neg (by omega);have e2:(if (4096:Int)<s then (4096:Int) else s)=s:=if_neg (by omega);have e3:IntKind.i64.wrap (0-s)=(m:Int):=by rw[wI64];omega
 have hs0:decide (s<0)=true:=by simp;omega
 repeat (first|simp only[go_sem,e1,e2,e3]|simp (disch:=first|exact omg|fail) only[AX,e1,e2,e3]|refine wki ?_|refine vpx [] ?_)
 have ha:=okL_lim (wth xs);refine vf_of (ref1_Trim xs hx) ?_;repeat (first|simp only[go_sem,e1,e2,e3,tdiv32,tmod32,hs0]|simp (disch:=first|exact omg|fail) only[AX,e1,e2,e3,tdiv32,tmod32,hs0]|refine wki ?_)
 have va:=wth_lim (wth xs);generalize lim (wth xs)=a at *
 have hk:m%32<32:=yI _ (by omega);rw[<- va,wth_shr_drop ha];by_cases hlen:a.length<=m/32
 ·rw[zH hlen];have e0:lim (wth []/2^(m%32))=[]:=by simp[wth,lim_zero]
  rw[e0];repeat (first|simp only[go_sem,e3,tdiv32,tmod32]|simp (disch:=first|exact omg|fail) only[AX,e3,tdiv32,tmod32]|refine wki ?_)
  rfl
 ·repeat (first|simp only[go_sem,e3,tdiv32,tmod32]|simp (disch:=first|exact omg|fail) only[AX,e3,tdiv32,tmod32]|refine wki ?_)
  have hbl:(a.drop (m/32)).length=a.length-m/32:=wU ..;have hb:=okL_drop ha (m/32);have hnl:a.length-m/32<=1073741824:=by omega
  have hpos:0<a.length-m/32:=by omega
  generalize a.drop (m/32)=b at *
  generalize a.length-m/32=n at *
  subst hbl;generalize m%32=k at *
  clear e1 e2 e3 hs0 va lx hx hl;refine vp_loop_inv (fun s'=>s'.tmp 5 = .sv (natV b)/\s'.tmp 7 = .sv (.int .u64 k) /\
    ∃c:List Nat,∃i:Nat,s'.tmp 9 = .sv (.int .i64 i)/\c.length=i/\okL c/\i<=b.length/\wth c+4294967296^i*(wth (b.drop i)/2^k)=wth b/2^k /\
     ((i=0/\s'.tmp 8 = .nil/\s'.gen 56=0)\/(0<i/\s'.tmp 8 = .ref 56 0 1 0 i/\s'.obj 56 0=some (c.map limb))))
   (fun s=>match s.tmp 9 with | .sv (.int _ i)=>b.length-i.toNat|_=>0) ⟨rfl,rfl,[],0,rfl,rfl,okL_nil,by omega,by simp[wth],.inl ⟨rfl,rfl,rfl⟩⟩ ?_
  rintro s' ⟨i5,i7,c,i,i9,hcl,hc,hi,hv,hcase⟩
  by_cases hend:i=b.length
  ·subst hend;rw[zH (xQ _),show wth []/2^k=0 by simp[wth],yX,yE]at hv;rcases hcase with⟨h0,i8,-⟩|⟨h0,i8,iO⟩
   ·omega
   ·repeat (first|simp only[go_sem,i5,i7,i9,i8,iO]|simp (disch:=first|exact omg|fail) only[AX,i5,i7,i9,i8,iO]|refine wki ?_|refine vpx [] ?_)
    refine vf_of (fn_natV (ref1_Trim c hc) hcl) ?_;repeat (first|simp only[go_sem,i5,i7,i9,i8,iO]|simp (disch:=first|exact omg|fail) only[AX,i5,i7,i9,i8,iO]|refine wki ?_|refine vpx [] ?_)
    rw[hv]
  ·have h1:=getD_lt hb i;have h2:=getD_lt hb (i+1);have a1:=ref1_at b i hb;have a2:=ref1_at b (i+1) hb;rw[show ((i+1:Nat):Int)=(i:Int)+1 from rfl]at a2;have d1:=wth_drop1 b i;have d2:=wth_drop1 b (i+1);obtain⟨g1,g2⟩:=(shr_limb hk (d1.trans (by rw[d2]))).resolve_right (not_not_intro h1);rw[<- d2]at g2;generalize hxx:b.getD i 0=x at *
   generalize hyy:b.getD (i+1) 0=y at *
   have hsplit:=wE (wth (b.drop i)/2^k) 4294967296;rw[g1,g2]at hsplit;have hv2 : ∀v,v=(x+4294967296*y)/2^k%4294967296->wth (c++[v])+4294967296^(i+1)*(wth (b.drop (i+1))/2^k)=wth b/2^k:=by
    rintro v rfl
    rw[wth_snoc,hcl,<- hv,<- hsplit,xU,xY,xP,zR]
   have hj:bitsSV .or .u64 ((x:Nat):Int) ((y*4294967296:Nat):Int)=some (.int .u64 ((x+4294967296*y:Nat):Int)):=by
    rw[b_or64,or_high h1]
   have hw64:y*4294967296%18446744073709551616=y*4294967296:=yB (by omega);have hk64:min k 64=k:=by omega
   have hz:(x+4294967296*y)/2^k%4294967296<4294967296:=yI _ (by omega);clear hsplit g1 g2 d1 d2 hv;rcases hcase with⟨h0,i8,ig⟩|⟨h0,i8,iO⟩
   ·repeat (first|simp only[go_sem,i5,i7,i9,i8,ig]|simp (disch:=first|exact omg|fail) only[AX,i5,i7,i9,i8,ig]|refine wki ?_|refine vpx [] ?_)
    repeat (first|simp only[go_sem,i5,i7,i9,i8,ig,hj,hw64,hk64,N0]|simp (disch:=first|exact omg|fail) only[AX,i5,i7,i9,i8,ig,hj,hw64,hk64,N0]|refine wki ?_|refine vpx [] ?_|refine vfa ?_)
    subst h0;obtain rfl:=List.length_eq_zero_iff.1 hcl;exact⟨⟨[]++[(x+4294967296*y)/2^k%4294967296],1,rfl,rfl,okL_append.2 ⟨hc,okL_cons.2 ⟨hz,okL_nil⟩⟩,by omega,hv2 _ rfl,.inr ⟨by omega,rfl,rfl⟩⟩,by omega⟩
   ·repeat (first|simp only[go_sem,i5,i7,i9,i8,iO]|simp (disch:=first|exact omg|fail) only[AX,i5,i7,i9,i8,iO]|refine wki ?_|refine vpx [] ?_)
    repeat (first|simp only[go_sem,i5,i7,i9,i8,iO,hj,hw64,hk64,N0]|simp (disch:=first|exact omg|fail) only[AX,i5,i7,i9,i8,iO,hj,hw64,hk64,N0]|refine wki ?_|refine vpx [] ?_|refine vfa ?_)
    exact⟨⟨c++[(x+4294967296*y)/2^k%4294967296],i+1,rfl,by rw[yG,hcl];rfl,okL_append.2 ⟨hc,okL_cons.2 ⟨hz,okL_nil⟩⟩,by omega,hv2 _ rfl,.inr ⟨by omega,rfl,by rw[List.map_append];rfl⟩⟩,by omega⟩
theorem ref1_shl {N m:Nat} (h:(lim N).length<=1073741824:=by omega) (hm:m<=4096:=by omega):Go.Ev.Fn CX 73 [natV (lim N),.int .i64 (m:Int)] (natV (lim (N*2^m))):=by
 have:=ref1_shift_up (lim N) m (okL_lim _) h _ rfl hm;rwa [wth_lim]at this
theorem ref1_shr {N m:Nat} (h:(lim N).length<=1073741824) (hm:m<=4096) (h0:0<m):Go.Ev.Fn CX 73 [natV (lim N),.int .i64 (-(m:Int))] (natV (lim (N/2^m))):=by
 have:=ref1_shift_down (lim N) m (okL_lim _) h _ rfl hm h0;rwa [wth_lim]at this
end Go.Proofs.YtfknkoeagjonbaaGreat
namespace Go.Proofs.YtfknkoeagjonbaaGreat
open Go.Ev
theorem bne_dec (z:Int):(z != 0)=decide (z≠0):=by by_cases h:z=0<;>simp[h]
theorem cmpN_ne {a b:Nat}:(cmpN a b != 0)=decide (a≠b):=by
 rw[bne_dec];exact decide_eq_decide.2 (by unfold cmpN;split<;>(try split)<;>omega)
theorem ref4_Less (a:Int) (n:Nat) (ha:(lim a.natAbs).length<=100000) (hn:n<=4096) (h0:0<n):Go.Ev.Fn CX 253 [intV a,.int .i64 (n:Int)] (intV (a/((2^n:Nat):Int))):=by
 have hd:2^n≠0:=Nat.ne_of_gt (xK (by omega));have s1:=ref1_shr (N:=a.natAbs) (m:=n) (by omega) hn h0;have l:=lim_len_mono (xv a.natAbs (2^n));have l1:=lim_len1;have s2:=ref1_AddL (N:=a.natAbs/2^n) (D:=1);rw[lim_one]at s2;have s3:=ref1_shl (N:=a.natAbs/2^n) (m:=n) (by omega) hn;have l3:=lim_len_shl (a:=a.natAbs/2^n) (n:=n);have c:=ref1_CmpL (N:=a.natAbs/2^n*2^n) (D:=a.natAbs);have e2:(cmpN (a.natAbs/2^n*2^n) a.natAbs != 0)=decide (a.natAbs%2^n≠0):=by
  rw[cmpN_ne];refine decide_eq_decide.2 ?_;have:=yl a.natAbs (2^n);rw[xV (2^n)]at this;omega
 have hl:=fun (n:Nat)=>lenpos (n:=n)
 have l5:=lim_len_add (a:=a.natAbs/2^n) (b:=1) (L:=100000);have e:=fall_eq (a:=a) hd;have e0:(0:Int)-(n:Int) = -(n:Int):=by omega
 generalize 2^n=D at *
 by_cases h:a<0
 ·by_cases h2:a.natAbs%D=0
  ·rw[if_neg (fun g=>g.2 h2)]at e;rw[e,sgn_iv,decide_eq_true h];rw[h2]at e2;have h0':decide ((0:Nat)≠0)=false:=rfl;rw[h0']at e2;generalize cmpN (a.natAbs/D*D) a.natAbs=z at *
   generalize a.natAbs/D*D=y at *
   generalize a.natAbs/D=x at *
   refine fni Tryz.f253 ?_;unfold Tryz.f253;repeat (first|simp only[go_sem,hl,e0,yU,e2]|simp (disch:=first|exact omg|fail) only[AX,hl,e0,yU,e2]|refine wki ?_|refine vpd 2 [5,16,18] ?_|refine vfa ?_)
  ·rw[if_pos ⟨h,h2⟩]at e;rw[e,show -((a.natAbs/D+1:Nat):Int)=sgn true (a.natAbs/D+1) from rfl,sgn_iv];rw[decide_eq_true h2]at e2;generalize cmpN (a.natAbs/D*D) a.natAbs=z at *
   generalize a.natAbs/D*D=y at *
   generalize a.natAbs/D+1=x' at *
   generalize a.natAbs/D=x at *
   refine fni Tryz.f253 ?_;unfold Tryz.f253;repeat (first|simp only[go_sem,hl,e0,yU,e2]|simp (disch:=first|exact omg|fail) only[AX,hl,e0,yU,e2]|refine wki ?_|refine vpd 2 [5,16,18] ?_|refine vfa ?_)
 ·rw[if_neg (fun g=>h g.1)]at e;rw[e,sgn_iv,decide_eq_false h];generalize a.natAbs/D=x at *
  refine fni Tryz.f253 ?_;unfold Tryz.f253;repeat (first|simp only[go_sem,hl,e0,yY]|simp (disch:=first|exact omg|fail) only[AX,hl,e0,yY]|refine wki ?_|refine vpd 2 [5,16,18] ?_|refine vfa ?_)
theorem ref4_More (a:Int) (n:Nat) (ha:(lim a.natAbs).length<=100000) (hn:n<=4096) (h0:0<n):Go.Ev.Fn CX 254 [intV a,.int .i64 (n:Int)] (intV (cdZ a (2^n))):=by
 have hd:2^n≠0:=Nat.ne_of_gt (xK (by omega));have o:=ref4_Opp a;have f:=ref4_Less (-a) n (by rw[yJ];exact ha) hn h0;have l:=lim_len_mono (abs_div_le (-a) hd);rw[yJ a]at l;have o2:=ref4_Opp (-a/((2^n:Nat):Int));unfold cdZ;generalize -a/((2^n:Nat):Int)=y at *
 refine fni Tryz.f254 ?_;unfold Tryz.f254;repeat (first|simp only[go_sem]|simp (disch:=first|exact omg|fail) only[AX]|refine wki ?_|refine vfa ?_)
theorem mul_p2_abs (z:Int) (w:Nat):(z*((2^w:Nat):Int)).natAbs=z.natAbs*2^w:=by rw[Int.natAbs_mul,xJ]
theorem ref4_Num {v:SV} {q:Rat} {L w:Nat} (hv:RatA v q L) (hL1:1<=L) (hL:L<=100000) (hw:w<=4096):Go.Ev.Fn CX 121 [v,.int .i64 (w:Int)] (ivV (q.num*((2^w:Nat):Int)/(q.den:Int)) (cdZ (q.num*((2^w:Nat):Int)) q.den)):=by
 have n1:=ref2_Norm hv;obtain⟨z1,z2⟩:=szR_of hv hL1;have s1:=ref1_shl (N:=q.num.natAbs) (m:=w) (by omega) hw;have l1:=lim_len_shl (a:=q.num.natAbs) (n:=w);have hP:0<2^w:=xK (by omega);have ea:=mul_p2_abs q.num w;have en:decide (q.num*((2^w:Nat):Int)<0)=decide (q.num<0):=decide_eq_decide.2 ⟨fun h=>by
   rcases Int.lt_or_le q.num 0 with g|g
   ·exact g
   ·have:=Int.mul_nonneg g (Int.natCast_nonneg (2^w));omega,fun h=>Int.mul_neg_of_neg_of_pos h (by omega)⟩
 have f:=ref4_Fall (q.num*((2^w:Nat):Int)) q.den q.den_nz (by rw[ea];omega);have r:=ref4_Rise (q.num*((2^w:Nat):Int)) q.den q.den_nz (by rw[ea];omega);unfold intV at f r;rw[ea,en]at f r;obtain⟨s,n,d,rfl,-⟩:=hv;generalize q.num*((2^w:Nat):Int)/(q.den:Int)=x at *
 generalize cdZ (q.num*((2^w:Nat):Int)) q.den=y at *
 generalize q.num.natAbs*2^w=u at *
 refine fni Tryz.f121 ?_;unfold Tryz.f121;repeat (first|simp only[go_sem]|simp (disch:=first|exact omg|fail) only[AX]|refine wki ?_|refine vpd 2 [12] ?_|refine vpd 3 [18,22] ?_|refine vfa ?_)
section
variable {a b c d:Int} (ha:(lim a.natAbs).length<=100000) (hb:(lim b.natAbs).length<=100000) (hc:(lim c.natAbs).length<=100000) (hd:(lim d.natAbs).length<=100000)
include ha hb
theorem ref4_Sum (hc:(lim c.natAbs).length<=100000) (hd:(lim d.natAbs).length<=100000):Go.Ev.Fn CX 143 [ivV a b,ivV c d] (ivV (a+c) (b+d)):=by
 have s1:=ref4_Plus a c;have s2:=ref4_Plus b d;generalize a+c=x at *
 generalize b+d=y at *
 refine fni Tryz.f143 ?_;unfold Tryz.f143;repeat (first|simp only[go_sem]|simp (disch:=first|exact omg|fail) only[AX]|refine wki ?_|refine vpd 1 [] ?_|refine vfa ?_)
theorem ref4_Minus (hc:(lim c.natAbs).length<=100000) (hd:(lim d.natAbs).length<=100000):Go.Ev.Fn CX 122 [ivV a b,ivV c d] (ivV (a-d) (b-c)):=by
 have o1:=ref4_Opp d;have o2:=ref4_Opp c;have s1:=ref4_Plus a (-d) (by omega) (by rw[yJ];omega);have s2:=ref4_Plus b (-c) (by omega) (by rw[yJ];omega);rw[<- Int.sub_eq_add_neg]at s1 s2;generalize a-d=x at *
 generalize b-c=y at *
 refine fni Tryz.f122 ?_;unfold Tryz.f122;repeat (first|simp only[go_sem]|simp (disch:=first|exact omg|fail) only[AX]|refine wki ?_|refine vpd 1 [] ?_|refine vfa ?_)
theorem ref4_Often (n:Int) (hn : -4294967296<n/\n<4294967296):Go.Ev.Fn CX 258 [ivV a b,.int .i64 n] (ivV (a*n) (b*n)):=by
 have w:=ref4_Whole n;have l:(lim n.natAbs).length<=1:=lim_len_one;have s1:=ref4_Times a n;have s2:=ref4_Times b n;generalize a*n=x at *
 generalize b*n=y at *
 refine fni Tryz.f258 ?_;unfold Tryz.f258;repeat (first|simp only[go_sem]|simp (disch:=first|exact omg|fail) only[AX]|refine wki ?_|refine vpd 1 [] ?_|refine vfa ?_)
theorem ref4_By (n:Nat) (h0:0<n) (hn:n<9223372036854775808):Go.Ev.Fn CX 259 [ivV a b,.int .i64 (n:Int)] (ivV (a/(n:Int)) (cdZ b n)):=by
 have o:=ref1_Of n;have l:(lim n).length<=2:=lim_len_lt;have f:=ref4_Fall a n;have r:=ref4_Rise b n;generalize a/(n:Int)=x at *
 generalize cdZ b n=y at *
 refine fni Tryz.f259 ?_;unfold Tryz.f259;repeat (first|simp only[go_sem]|simp (disch:=first|exact omg|fail) only[AX]|refine wki ?_|refine vpd 2 [5,5] ?_|refine vfa ?_)
theorem ref4_Wide (n:Int) (hn : -4294967296<n/\n<4294967296):Go.Ev.Fn CX 262 [ivV a b,.int .i64 n] (ivV (a-n) (b+n)):=by
 have w1:=ref4_Whole (-n);have w2:=ref4_Whole n;have l:(lim n.natAbs).length<=1:=lim_len_one;have s1:=ref4_Plus a (-n) (by omega) (by rw[yJ];omega);have s2:=ref4_Plus b n;rw[<- Int.sub_eq_add_neg]at s1;have e0:0-n = -n:=by omega
 generalize a-n=x at *
 generalize b+n=y at *
 refine fni Tryz.f262 ?_;unfold Tryz.f262;repeat (first|simp only[go_sem,e0]|simp (disch:=first|exact omg|fail) only[AX,e0]|refine wki ?_|refine vpd 1 [] ?_|refine vfa ?_)
theorem ref4_Most:Go.Ev.Fn CX 260 [ivV a b] (intV ((max a.natAbs b.natAbs:Nat):Int)):=by
 have c:=ref4_Cmp (a.natAbs:Int) (b.natAbs:Int) (by rw[xJ];exact ha) (by rw[xJ];exact hb);have q : ∀n:Nat,intV (n:Int) = .agg [.bool false,natV (lim n)]:=fun n=>iv_eq (xJ n) (decide_eq_false (by omega))
 rw[q,q]at c;rw[q];by_cases h:b.natAbs<a.natAbs
 ·have e:decide (cmpZ (a.natAbs:Int) (b.natAbs:Int)>0)=true:=decide_eq_true (by unfold cmpZ;rw[if_neg (by omega),if_neg (by omega)];omega);rw[Nat.max_eq_left (by omega)];generalize cmpZ (a.natAbs:Int) (b.natAbs:Int)=z at *
  refine fni Tryz.f260 ?_;unfold Tryz.f260;repeat (first|simp only[go_sem,e]|simp (disch:=first|exact omg|fail) only[AX,e]|refine wki ?_|refine vpd 1 [] ?_|refine vfa ?_)
 ·have e:decide (cmpZ (a.natAbs:Int) (b.natAbs:Int)>0)=false:=decide_eq_false (by unfold cmpZ;split<;>(try split)<;>omega);rw[Nat.max_eq_right (by omega)];generalize cmpZ (a.natAbs:Int) (b.natAbs:Int)=z at *
  refine fni Tryz.f260 ?_;unfold Tryz.f260;repeat (first|simp only[go_sem,e]|simp (disch:=first|exact omg|fail) only[AX,e]|refine wki ?_|refine vpd 1 [] ?_|refine vfa ?_)
theorem ref4_Back (n:Nat) (hn:n<=4096) (h0:0<n):Go.Ev.Fn CX 194 [ivV a b,.int .i64 (n:Int)] (ivV (a/((2^n:Nat):Int)) (cdZ b (2^n))):=by
 have s1:=ref4_Less a n ha hn h0;have s2:=ref4_More b n hb hn h0;generalize a/((2^n:Nat):Int)=x at *
 generalize cdZ b (2^n)=y at *
 refine fni Tryz.f194 ?_;unfold Tryz.f194;repeat (first|simp only[go_sem]|simp (disch:=first|exact omg|fail) only[AX]|refine wki ?_|refine vpd 1 [] ?_|refine vfa ?_)
omit hb in
theorem ref4_Rat (w:Nat) (hw:w<=4096):Go.Ev.Fn CX 188 [intV a,.int .i64 (w:Int)] (rv (mkRat a (2^w))):=by
 have p:=ref4_pow2 (n:=w) hw;have l:=lim_len_shl (a:=1) (n:=w);have l1:=lim_len1;rw[xe]at l;have o:=ref2_OfL (s:=decide (a<0)) (n:=a.natAbs) (d:=2^w);rw[sgn_self]at o;generalize 2^w=D at *
 refine fni Tryz.f188 ?_;unfold Tryz.f188;repeat (first|simp only[go_sem]|simp (disch:=first|exact omg|fail) only[AX]|refine wki ?_|refine vpd 1 [8,10] ?_|refine vfa ?_)
theorem ref4_Ball (w:Nat) (hw:w<=4096):Go.Ev.Fn CX 119 [ivV a b,.int .i64 (w:Int)] (ballR (mkRat a (2^w)) (mkRat b (2^w))):=by
 have s1:=ref4_Rat ha w hw;have s2:=ref4_Rat hb w hw;generalize mkRat a (2^w)=x at *
 generalize mkRat b (2^w)=y at *
 refine fni Tryz.f119 ?_;unfold Tryz.f119;repeat (first|simp only[go_sem]|simp (disch:=first|exact omg|fail) only[AX]|refine wki ?_|refine vpd 1 [] ?_|refine vfa ?_)
end
end Go.Proofs.YtfknkoeagjonbaaGreat
namespace Go.Proofs.YtfknkoeagjonbaaGreat
open Go.Ev
theorem blen_iff {x k:Nat}:blen x<=k↔x<2^k:=by
 unfold blen;by_cases h:x=0
 ·rw[if_pos h,h];have:0<2^k:=xK (by omega);omega
 ·rw[if_neg h];have:=Nat.log2_lt (n:=x) (k:=k) h;omega
theorem blen_lims (N:Nat) (h:N≠0):blen N=32*((lim N).length-1)+blen ((lim N).getD ((lim N).length-1) 0):=by
 have h0:=lim_pos h;have ht:=trimL_getD (trimL_lim N) h0;have hw:=wth_lim N;have hok:=okL_lim N;generalize lim N=a at *
 have h1:=wth_at a (w:=a.length-1);rw[zH (by omega),show wth []=0 from rfl,yX,yE,hw]at h1;have h2:=wth_lt (okL_take hok (a.length-1));rw[yO,yx (by omega)]at h2;rw[show (4294967296:Nat)=2^32 from rfl,<- zF]at h1 h2;have hp:0<2^(32*(a.length-1)):=xK (by omega);have h3:N/2^(32*(a.length-1))=a.getD (a.length-1) 0:=by
  rw[h1,wZ _ _ hp,yn h2,yV]
 have h4:2^(32*(a.length-1))<=N:=by
  have:=xI (2^(32*(a.length-1))) (show 1<=a.getD (a.length-1) 0 by omega);omega
 rw[blen_shift h4,h3]
theorem nat_Bits {N:Nat} (h:(lim N).length<=60000000000:=by omega):Go.Ev.Fn CX 241 [natV (lim N)] (.int .i64 (blen N:Nat)):=by
 have t:=nat_trim (lim N) (okL_lim N);rw[wth_lim]at t;by_cases h0:N=0
 ·subst h0;have e:(lim 0).length=0:=by rw[lim_zero];rfl
  have e2:blen 0=0:=rfl;rw[e2];refine fni Tryz.f241 ?_;unfold Tryz.f241;repeat (first|simp only[go_sem]|simp (disch:=first|exact omg|fail) only[AX]|refine wki ?_|refine vfa ?_)
  rfl
 ·have e:=blen_lims N h0;have hl:=lim_pos h0;have hg:=getD_lt (okL_lim N) ((lim N).length-1);have b:=bits_Len32 _ hg;have hb:blen ((lim N).getD ((lim N).length-1) 0)<=32:=blen_iff.2 hg;rw[e];generalize hgx:(lim N).getD ((lim N).length-1) 0=x at *
  generalize hcs:lim N=cs at *
  have hi:(cs.map limb).length=cs.length:=zZ _;have hat:((cs.map limb).drop (cs.length-1)).head?=some (limb x):=by
   rw[List.head?_drop,zD,xX (by omega)];rw[xW,xX (by omega)]at hgx;rw[<- hgx];rfl
  generalize blen x=y at *
  refine fni Tryz.f241 ?_;unfold Tryz.f241;repeat (first|simp only[go_sem,hgx]|simp (disch:=first|exact omg|fail) only[AX,hgx]|refine wki ?_|refine vfa ?_)
  congr 1
theorem fix_Small {a b:Nat} (h:(lim b).length<=60000000000:=by omega) {k:Nat} (hk:k<=1000:=by omega):Go.Ev.Fn CX 173 [spanV a b,.int .i64 (k:Int)] (.bool (decide (b<2^k))):=by
 have s:=nat_Bits h;rw[show decide (b<2^k)=decide (((blen b:Nat):Int)<=(k:Int)) from decide_eq_decide.2 (by rw[<- blen_iff];omega)];generalize blen b=x at *
 refine fni Tryz.f173 ?_;unfold Tryz.f173;repeat (first|simp only[go_sem]|simp (disch:=first|exact omg|fail) only[AX]|refine wki ?_|refine vfa ?_)
end Go.Proofs.YtfknkoeagjonbaaGreat
namespace Go.Proofs.YtfknkoeagjonbaaGreat
open Go.Ev
abbrev pwN (q:Rat) (A w:Nat):Nat×Nat:=powGo w 4 A (2^w) (2^w+1) (unN q w) (unN q w+1)
theorem unN_len1 {q:Rat} {w:Nat} (h0:0<=q) (h1:q<=1) (hw:w<=900):(lim (unN q w)).length<=49/\(lim (unN q w+1)).length<=50:=by
 have h2:q.num.natAbs<=q.den:=(unit_num h0 h1).1;have h3:unN q w<=2^w:=(yL q.den_pos).2 (by
  have:=xC (2^w) h2;have:=q.den_pos;rw[xV (2^w)];omega)
 have l1:=lim_len1;have l:=lim_len_p2 (w:=w) h3;have h4:=lim_len_add (a:=unN q w) (b:=1) (L:=49);exact⟨by omega,by omega⟩
theorem incb_power {q:Rat} {A w L:Nat} (hA:A<=15) (hz:szR q L) (hL:L<=300) (hu:(lim (unN q w)).length<=49/\(lim (unN q w+1)).length<=50) (hw:w<=900:=by omega) (hw0:0<w:=by omega):Go.Ev.Fn CX 237 [.int .i64 (2*(A:Int)),rv q,.int .i64 (w:Int)] (spanV (pwN q A w).1 (pwN q A w).2):=by
 have r:Go.Ev.Fn CX 171 [rv q,.int .i64 (w:Int)] (spanV (unN q w) (unN q w+1)):=fix_Rat hz (w:=w);obtain⟨l1,l2⟩:=hu;have p:=fix_Power (a1:=unN q w) (a2:=unN q w+1) (n:=A) (w:=w) (F:=4) (by omega) (by omega) (by omega) l2 (by omega) hw0;have an:=and_one64 (a:=2*A);rw[show 2*A%2=0 by omega,show ((2*A:Nat):Int)=2*(A:Int) by omega]at an;have td:(2*(A:Int)).tdiv 2=(A:Int):=by
  rw[Int.mul_comm];exact Int.mul_tdiv_cancel _ (by omega)
 have td2:((2*A:Nat):Int).tdiv 2=(A:Int):=td;generalize (pwN q A w).1=x at *
 generalize (pwN q A w).2=y at *
 generalize unN q w=u at *
 refine fni Tryz.f237 ?_;unfold Tryz.f237;repeat (first|simp only[go_sem,an,td,td2]|simp (disch:=first|exact omg|fail) only[AX,an,td,td2]|refine wki ?_|refine vpd 4 [] ?_|refine vfa ?_)
theorem okS_un {q:Rat} {w:Nat} (h0:0<=q) (h1:q<=1):okS (2^w) (unN q w) (unN q w+1) 1:=by
 refine⟨by omega,by omega,?_⟩;have h2:q.num.natAbs<=q.den:=(unit_num h0 h1).1;have:unN q w<=2^w:=(yL q.den_pos).2 (by
  have:=xC (2^w) h2;have:=q.den_pos;rw[xV (2^w)];omega)
 omega
theorem okS_pw {q:Rat} {A w:Nat} (h0:0<=q) (h1:q<=1) (hw:20<=w:=by omega):okS (2^w) (pwN q A w).1 (pwN q A w).2 511:=by
 have hP:1000000<=2^w:=xH (by decide) (xD (n:=2) (by omega) hw);exact powGo_ok hP 4 A _ _ _ _ 1 (by decide) ⟨by omega,by omega,by omega⟩ (okS_un h0 h1)
theorem okS_len {a b e w:Nat} (h:okS (2^w) a b e) (he:e<=100000) (hw:w<=900) (hw0:20<=w:=by omega):(lim a).length<=40/\(lim b).length<=40:=by
 have hP:1000000<=2^w:=xH (by decide) (xD (n:=2) (by omega) hw0);have h2:2^(w+1)=2^w*2:=xU _ _;exact⟨lim_len_p2 (w:=w+1) (by have:=h.1;have:=h.2.2;omega),lim_len_p2 (w:=w+1) (by have:=h.2.2;omega)⟩
end Go.Proofs.YtfknkoeagjonbaaGreat
namespace Go.Proofs.YtfknkoeagjonbaaGreat
open Go.Ev
theorem times_le {x k:Nat}:(x+1)*(2*k)/(2*k+1)+1<=x+2:=by
 have h:(x+1)*(2*k)/(2*k+1)<=x+1:=(yL (by omega)).2 (by have:=xI (x+1) (show 2*k<=2*k+1 by omega);omega);omega
set_option maxHeartbeats 1000000 in
theorem arcs_angle {n d w A B:Nat} (hn:n<=1000) (hd:d<=1000) (hd0:0<d) (hw:w<=900) (hw0:0<w) (h:angF n d w=some (A,B)):Go.Ev.Fn CX 311 [natV (lim n),natV (lim d),.int .i64 (w:Int)] (spanV A B):=by
 unfold angF at h;rw[pin_eq,pin_eq]at h;have ln:(lim n).length<=1:=lim_len_one;have ld:(lim d).length<=1:=lim_len_one;have m1:=nat_MulL (N:=n) (D:=n);have m2:=nat_MulL (N:=d) (D:=d);have m3:=nat_MulL (N:=n) (D:=d);have lnn:=lim_len_mul (a:=n) (b:=n);have ldd:=lim_len_mul (a:=d) (b:=d);have lnd:=lim_len_mul (a:=n) (b:=d);have s1:=nat_AddL (N:=n*n) (D:=d*d);have lsq:=lim_len_add (a:=n*n) (b:=d*d) (L:=2);have hdd:0<d*d:=yu hd0 hd0;have hnd:n*d<=n*n+d*d:=by
  rcases Nat.le_total n d with g|g
  ·have:=xC d g;omega
  ·have:=xI n g;omega
 have o1:=fix_Of (n:=n*n) (d:=n*n+d*d) (w:=w);have o2:=fix_Of (n:=n*d) (d:=n*n+d*d) (w:=w);have hb1:n*n*2^w/(n*n+d*d)<2^w:=by
  rw[yC (by omega),xV (2^w)];exact yq (by omega) (xK (by omega))
 have ht1:n*d*2^w/(n*n+d*d)<=2^w:=(yL (by omega)).2 (by have:=xC (2^w) hnd;rw[xV (2^w)];omega);generalize n*n*2^w/(n*n+d*d)=b1 at *
 generalize n*d*2^w/(n*n+d*d)=t0 at *
 generalize n*n+d*d=sq at *
 generalize n*n=nn at *
 generalize d*d=dd at *
 generalize n*d=nd at *
 have hP:0<2^w:=xK (by omega);have lb:=lim_len_p2 (n:=b1) (w:=w);have lb2:=lim_len_p2 (n:=b1+1) (w:=w);have big:2^w*2048=2^(w+11):=by rw[xM]
 have big2:2^(w+11)*2048=2^(w+22):=by rw[show w+22=(w+11)+11 by omega,xM 2 (w+11) 11]
 refine fni Tryz.f311 ?_;unfold Tryz.f311;repeat (first|simp only[go_sem]|simp (disch:=first|exact omg|fail) only[AX]|refine wki ?_|refine vfa ?_)
 refine vp_loop_inv (fun s=>s.tmp 2 = .sv (.int .i64 (w:Int))/\s.tmp 6 = .ptr 6 0 0/\s.obj 6 0=some [.sl 0 [],.sl 0 []]/\s.tmp 8 = .ptr 8 0 0/\s.obj 8 0=some [natV (lim b1),natV (lim (b1+1))]/\s.tmp 9 = .ptr 9 0 0/\s.tmp 10 = .ptr 10 0 0 /\
   ∃f k t1 t2 a1 a2:Nat,s.tmp 11 = .sv (.int .u64 (k:Int))/\f+k=1001/\1<=k/\angGo w b1 (b1+1) f k t1 t2 a1 a2=some (A,B)/\s.obj 9 0=some [natV (lim t1),natV (lim t2)]/\s.obj 10 0=some [natV (lim a1),natV (lim a2)] /\
    t1<=t2/\t2<=2^w+2*k/\a1<=a2/\a2<=k*2^(w+11))
  (fun s=>match s.tmp 11 with | .sv (.int _ i)=>1002-i.toNat|_=>0) ⟨rfl,rfl,rfl,rfl,rfl,rfl,rfl,1000,1,t0,t0+1,t0,t0+1,rfl,rfl,by omega,h,rfl,rfl,by omega,by omega,by omega,by omega⟩ ?_
 rintro s ⟨i2,i6,o6,i8,o8,i9,i10,f,k,t1,t2,a1,a2,i11,hfk,hk,hg,o9,o10,g1,g2,g3,g4⟩
 have hk2:k*2^(w+11)<=1001*2^(w+11):=xC _ (by omega);have lt2:=lim_len_p2 (n:=t2) (w:=w+11);have lt1:=lim_len_p2 (n:=t1) (w:=w+11);have la2:=lim_len_p2 (n:=a2) (w:=w+22);have la1:=lim_len_p2 (n:=a1) (w:=w+22);have sm:=fix_Small (a:=t1) (b:=t2) (k:=2);cases f with
 |zero=>simp only[angGo]at hg;cases hg
 |succ f=>
  rw[angGo]at hg;simp only[pin_eq]at hg;by_cases hs:t2<2^2
  ·rw[decide_eq_true hs]at sm;rw[if_pos (show t2<4 from hs)]at hg;obtain⟨rfl,rfl⟩:a1=A/\a2+8=B:=by simpa using hg
   have wd:=fix_Wider (a:=a1) (b:=a2) (n:=8);clear hg;repeat (first|simp only[go_sem,i2,i6,o6,i8,o8,i9,i10,i11,o9,o10,xL]|simp (disch:=first|exact omg|fail) only[AX,i2,i6,o6,i8,o8,i9,i10,i11,o9,o10,xL]|refine wki ?_|refine vfa ?_)
  ·rw[decide_eq_false hs]at sm;rw[if_neg (show ¬t2<4 from hs)]at hg;have mu:=fix_Mul (a:=t1) (b:=t2) (c:=b1) (d:=b1+1) (w:=w) (by omega) (by omega) (by omega) (by omega) (by omega) hw0;have q1:=nat_Of (2*k);have q2:=nat_Of (2*k+1);have l1:(lim (2*k)).length<=1:=lim_len_one;have l2:(lim (2*k+1)).length<=1:=lim_len_one;have hx:t2*(b1+1)/2^w<=t2:=(yL hP).2 (by have:=xI t2 (show b1+1<=2^w by omega);omega);have hy:t1*b1/2^w<=t2*(b1+1)/2^w:=xf (xO g1 (by omega));generalize t1*b1/2^w=x1 at *
   generalize t2*(b1+1)/2^w=x2 at *
   have lx2:=lim_len_p2 (n:=x2+1) (w:=w+11);have lx1:=lim_len_p2 (n:=x1) (w:=w+11);have ti:=fix_Times (a:=x1) (b:=x2+1) (n:=2*k) (d:=2*k+1);have hz:=times_le (x:=x2) (k:=k);have hz2:x1*(2*k)/(2*k+1)<=(x2+1)*(2*k)/(2*k+1)+1:=yP (xf (xC _ (by omega)));generalize x1*(2*k)/(2*k+1)=u1 at *
   generalize (x2+1)*(2*k)/(2*k+1)+1=u2 at *
   have lu2:=lim_len_p2 (n:=u2) (w:=w+11);have lu1:=lim_len_p2 (n:=u1) (w:=w+11);have ad:=fix_Add (a:=a1) (b:=a2) (c:=u1) (d:=u2);have e1:((2*k:Nat):Int)=2*(k:Int):=by omega
   have e2:((2*k+1:Nat):Int)=2*(k:Int)+1:=by omega
   rw[e1]at q1;rw[e2]at q2;repeat (first|simp only[go_sem,i2,i6,o6,i8,o8,i9,i10,i11,o9,o10,xg]|simp (disch:=first|exact omg|fail) only[AX,i2,i6,o6,i8,o8,i9,i10,i11,o9,o10,xg]|refine wki ?_|refine vfa ?_)
   exact⟨⟨f,k+1,u1,u2,a1+u1,a2+u2,rfl,by omega,by omega,hg,rfl,rfl,by omega,by omega,by omega,by rw[xZ,xe];omega⟩,by omega⟩
theorem fix_Certain1 {p sp lo hi:Nat} {f:FuncId} (hf:Go.Ev.Fn CX f [.int .i64 ((p+sp:Nat):Int)] (spanV lo hi)) (hlo:(lim lo).length<=1000) (hhi:(lim hi).length<=1000) (hp:p<=10000) (hsp:sp<=1000) (hs0:0<sp) (hc:lo/2^sp=(hi-1)/2^sp) :
  Go.Ev.Fn CX 231 [.int .i64 (p:Int),.int .i64 (sp:Int),.fn f []] (ballR (mkRat ((lo/2^sp:Nat):Int) (2^p)) (mkRat ((lo/2^sp+1:Nat):Int) (2^p))):=by
 have fl:=fix_Floor (a:=lo) (b:=hi) (w:=p+sp) (p:=p);rw[Nat.add_sub_cancel_left,decide_eq_true hc]at fl;have o:=fix_One;have l1:=lim_len1;have sh:=fix_shl (a:=1) (m:=p);have lp:=lim_len_shl (a:=1) (n:=p);rw[xe]at sh lp;have ll:=lim_len_mono (xv lo (2^sp));have n1:=fix_Next (a:=lo/2^sp);have l2:=lim_len_add (a:=lo/2^sp) (b:=1) (L:=1000);have r1:=rat_OfL (s:=false) (n:=lo/2^sp) (d:=2^p);have r2:=rat_OfL (s:=false) (n:=lo/2^sp+1) (d:=2^p);rw[show sgn false (lo/2^sp)=((lo/2^sp:Nat):Int) from rfl]at r1;rw[show sgn false (lo/2^sp+1)=((lo/2^sp+1:Nat):Int) from rfl]at r2
 generalize mkRat ((lo/2^sp:Nat):Int) (2^p)=q1 at *
 generalize mkRat ((lo/2^sp+1:Nat):Int) (2^p)=q2 at *
 generalize lo/2^sp+1=a' at *
 generalize lo/2^sp=a at *
 generalize 2^p=P at *
 rw[show ((p+sp:Nat):Int)=(p:Int)+(sp:Int) from rfl]at hf fl;refine fni Tryz.f231 ?_;unfold Tryz.f231;repeat (first|simp only[go_sem]|simp (disch:=first|exact omg|fail) only[AX]|refine wki ?_)
 refine vp_loop_inv (fun s=>s.tmp 0 = .sv (.int .i64 (p:Int))/\s.tmp 2 = .sv (.fn f [])/\s.tmp 6 = .ptr 6 0 0/\s.obj 6 0=some [.bool false,.sl 0 [],.sl 0 [],.bool false,.sl 0 [],.sl 0 []]/\s.tmp 7 = .sv (.int .i64 ((p:Int)+(sp:Int)))) (fun _=>0) ⟨rfl,rfl,rfl,rfl,rfl⟩ ?_;rintro s ⟨i0,i2,i6,o6,i7⟩
 repeat (first|simp only[go_sem,i0,i2,i6,o6,i7]|simp (disch:=first|exact omg|fail) only[AX,i0,i2,i6,o6,i7]|refine wki ?_|refine vfa ?_)
theorem arcs_held (p:Int):Go.Ev.Fn CX 290 [.int .i64 p] (.int .i64 (if p<0 then 0 else if 512<p then 512 else p)):=by
 by_cases h1:p<0
 ·rw[if_pos h1];have e1:(if (0:Int)>p then (0:Int) else p)=0:=if_pos (by omega);refine fni Tryz.f290 ?_;unfold Tryz.f290;repeat (first|simp only[go_sem,e1]|simp (disch:=first|exact omg|fail) only[AX,e1]|refine wki ?_)
 ·rw[if_neg h1];have e1:(if (0:Int)>p then (0:Int) else p)=p:=if_neg (by omega);by_cases h2:512<p
  ·rw[if_pos h2];have e2:(if (512:Int)<p then (512:Int) else p)=512:=if_pos h2;refine fni Tryz.f290 ?_;unfold Tryz.f290;repeat (first|simp only[go_sem,e1,e2]|simp (disch:=first|exact omg|fail) only[AX,e1,e2]|refine wki ?_)
  ·rw[if_neg h2];have e2:(if (512:Int)<p then (512:Int) else p)=p:=if_neg h2;refine fni Tryz.f290 ?_;unfold Tryz.f290;repeat (first|simp only[go_sem,e1,e2]|simp (disch:=first|exact omg|fail) only[AX,e1,e2]|refine wki ?_)
theorem angGo_bd {w b1 b2 T:Nat} (hb:b1<=b2) (hb2:b2<=2^w) : ∀ (f k t1 t2 a1 a2:Nat) {A B:Nat},angGo w b1 b2 f k t1 t2 a1 a2=some (A,B)->t1<=t2->t2+2*f<=T->a1<=a2->A<=B/\B<=a2+f*T+8:=by
 intro f;induction f with
 |zero=>intro k t1 t2 a1 a2 A B h;simp only[angGo]at h;cases h
 |succ f ih=>
  intro k t1 t2 a1 a2 A B h ht hT ha;have hP:0<2^w:=xK (by omega);rw[angGo]at h;simp only[pin_eq]at h;rw[xZ,xe];by_cases hs:t2<4
  ·rw[if_pos hs]at h;obtain⟨rfl,rfl⟩:a1=A/\a2+8=B:=by simpa using h
   omega
  ·rw[if_neg hs]at h;have hx:t2*b2/2^w<=t2:=(yL hP).2 (by have:=xI t2 hb2;omega);have hy:t1*b1/2^w<=t2*b2/2^w:=xf (xO ht hb);have hz:=times_le (x:=t2*b2/2^w) (k:=k);have hz2:t1*b1/2^w*(2*k)/(2*k+1)<=(t2*b2/2^w+1)*(2*k)/(2*k+1)+1:=yP (xf (xC _ (by omega)));generalize t1*b1/2^w*(2*k)/(2*k+1)=u1 at *
   generalize (t2*b2/2^w+1)*(2*k)/(2*k+1)+1=u2 at *
   have:=ih _ _ _ _ _ h hz2 (by omega) (by omega);omega
theorem angF_bd {n d w A B:Nat} (hn0:0<n) (hnd:n<=d) (hw:w<=900) (hw0:11<=w) (h:angF n d w=some (A,B)):(lim A).length<=40/\(lim B).length<=40:=by
 unfold angF at h;rw[pin_eq,pin_eq]at h;have hP:0<2^w:=xK (by omega);have h1:=xO hnd hnd;have h2:n*d<=d*d:=xC _ hnd;have h3:0<n*n:=yu hn0 hn0;have hb1:n*n*2^w/(n*n+d*d)<2^w:=by
  rw[yC (by omega),xV (2^w)];exact yq (by omega) hP
 have ht1:n*d*2^w/(n*n+d*d)<=2^w:=(yL (by omega)).2 (by have:=xC (2^w) (show n*d<=n*n+d*d by omega);rw[xV (2^w)];omega);have hb:=angGo_bd (T:=2^w+2001) (yg _) (by omega) _ _ _ _ _ _ h (by omega) (by omega) (by omega);have hbig:2^w*4096=2^(w+12):=by rw[xM]
 have h11:2^11<=2^w:=xD (by omega) hw0;exact⟨lim_len_p2 (w:=w+12),lim_len_p2 (w:=w+12)⟩
theorem arcs_pi {w A B:Nat} (hw:w<=900) (hw0:11<=w) (h:piF w=some (A,B)):Go.Ev.Fn CX 291 [.int .i64 (w:Int)] (spanV A B)/\(lim A).length<=100/\(lim B).length<=100:=by
 unfold piF at h;split at h
 ·rename_i a1 a2 b1 b2 h1 h2;obtain⟨rfl,rfl⟩:a1*16-(b2*4+1)=A/\a2*16+1-b1*4+1=B:=by simpa using h
  clear h;have an1:=arcs_angle (n:=1) (d:=5) (by omega) (by omega) (by omega) hw (by omega) h1;have an2:=arcs_angle (n:=1) (d:=239) (by omega) (by omega) (by omega) hw (by omega) h2;obtain⟨g1,g2⟩:=angF_bd (by omega) (by omega) (by omega) hw0 h1;obtain⟨g3,g4⟩:=angF_bd (by omega) (by omega) (by omega) hw0 h2;have o:=fix_One;have q5:=nat_Of 5;have q239:=nat_Of 239;have q16:=nat_Of 16;have q4:=nat_Of 4;have l16:(lim 16).length<=1:=lim_len_one (by decide);have l4:(lim 4).length<=1:=lim_len_one (by decide);have l1:=lim_len1;have t1:=fix_Times (a:=a1) (b:=a2) (n:=16) (d:=1)
  have t2:=fix_Times (a:=b1) (b:=b2) (n:=4) (d:=1);rw[zK,zK]at t1 t2;have e1:=lim_len_mul (a:=a1) (b:=16);have e2:=lim_len_mul (a:=a2) (b:=16);have e3:=lim_len_mul (a:=b1) (b:=4);have e4:=lim_len_mul (a:=b2) (b:=4);have e5:=lim_len_add (a:=a2*16) (b:=1) (L:=50);have e6:=lim_len_add (a:=b2*4) (b:=1) (L:=50);have sb:=fix_Sub (a:=a1*16) (b:=a2*16+1) (c:=b1*4) (d:=b2*4+1);have e7:=lim_len_mono (zt (a1*16) (b2*4+1));have e8:=lim_len_mono (zt (a2*16+1) (b1*4));have e9:=lim_len_add (a:=a2*16+1-b1*4) (b:=1) (L:=60);refine⟨?_,by omega,by omega⟩;generalize a1*16-(b2*4+1)=x1 at *
  generalize a2*16+1-b1*4+1=x2 at *
  generalize a2*16+1=x3 at *
  generalize b2*4+1=x4 at *
  generalize a1*16=x5 at *
  generalize b1*4=x6 at *
  refine fni Tryz.f291 ?_;unfold Tryz.f291;repeat (first|simp only[go_sem]|simp (disch:=first|exact omg|fail) only[AX]|refine wki ?_|refine vpd 2 [14,15,18,19] ?_|refine vf_of (by first|exact o|exact q5|exact an1|exact q239|exact an2|exact q16|exact t1|exact q4|exact t2|exact sb) ?_)
 ·cases h
theorem allFrom_at {f:Nat->Bool} : ∀ {n k:Nat},allFrom f n k=true -> ∀i,k<=i->i<k+n->f i=true:=by
 intro n;induction n with
 |zero=>intro k _ i h1 h2;omega
 |succ n ih=>
  intro k h i h1 h2;rw[allFrom,xh]at h;rcases Nat.eq_or_lt_of_le h1 with h3|h3
  ·rw[<- h3];exact h.1
  ·exact ih h.2 i h3 (by omega)
end Go.Proofs.YtfknkoeagjonbaaGreat
namespace Go.Proofs.YtfknkoeagjonbaaGreat
open Go.Ev
theorem four_mul_le (x y:Nat):4*(x*y)<=(x+y)*(x+y):=by
 rcases Nat.le_total x y with h|h
 ·obtain⟨k,rfl⟩:=wG h;have:(x+(x+k))*(x+(x+k))=4*(x*(x+k))+k*k:=by grind
  omega
 ·obtain⟨k,rfl⟩:=wG h;have:(y+k+y)*(y+k+y)=4*((y+k)*y)+k*k:=by grind
  omega
theorem newton_up {a x:Nat} (hx:0<x):a<((x+a/x)/2+1)*((x+a/x)/2+1):=by
 have h1:a<x*(a/x+1):=by
  have:=yl a x;have:=yI a hx;rw[xY,yD];omega
 have h2:=four_mul_le x (a/x+1);generalize a/x=q at *
 have h3:x+(q+1)<=2*((x+q)/2+1):=by omega
 have h4:=xO h3 h3;generalize (x+q)/2+1=m at *
 have h5:2*m*(2*m)=4*(m*m):=by grind
 omega
theorem newton_stop {a x:Nat} (hx:0<x) (h:x<=(x+a/x)/2):x*x<=a:=by
 have h1:x<=a/x:=by omega
 have h2:=xI x h1;have h3:=Nat.mul_div_le a x;omega
def vN (v:SV):Nat:=match decV v with
 |some xs=>wth xs
 |none=>0
theorem vN_lim {x:Nat} (h:(lim x).length<=137438953472:=by omega):vN (natV (lim x))=x:=by
 unfold vN;rw[decV_nat (okL_lim x) h];exact wth_lim x
theorem lim_p32 (n:Nat):lim (4294967296^n)=List.replicate n 0++[1]:=by
 have h:=lim_unique (xs:=List.replicate n 0++[1]) (okL_append.2 ⟨okL_replicate _,by simp[okL]⟩) (.inr ⟨_,1,rfl,by decide⟩);rw[wth_append,wth_replicate,yR,yV,show wth [1]=1 from rfl,yD]at h;exact h.symm
theorem set_last (n:Nat):((List.replicate (n+1) 0).set n 1:List Nat)=List.replicate n 0++[1]:=by
 rw[List.replicate_succ',List.set_append_right _ _ (by simp),yR,wo];rfl
set_option maxHeartbeats 1000000 in
theorem root_Int {a:Nat} (h:(lim a).length<=1000:=by omega):Go.Ev.Fn CX 308 [natV (lim a)] (natV (lim (rtN a))):=by
 have b:=nat_Bits (N:=a);have hb:a<2^blen a:=blen_iff.1 (xQ _);by_cases h0:a=0
 ·subst h0;have e:rtN 0=0:=(rtN_eq (a:=0) (r:=0)).symm;rw[e,lim_zero];rw[lim_zero,show blen 0=0 from rfl]at b;refine fni Tryz.f308 ?_;unfold Tryz.f308;repeat (first|simp only[go_sem]|simp (disch:=first|exact omg|fail) only[AX]|refine wki ?_|refine vfa ?_)
  rfl
 have hB0:blen a≠0:=fun e=>by rw[e]at hb;omega
 have hBl:blen a<=32000:=by
  obtain⟨K,hK⟩ : ∃K:Nat,K=32000:=⟨_,rfl⟩
  rw[<- hK];refine blen_iff.2 (xz lim_len_pow ?_);rw[show (4294967296:Nat)=2^32 from rfl,<- zF];exact xD (by omega) (by omega)
 generalize blen a=B at *
 have ha0:a<4294967296^(B/64+1)*4294967296^(B/64+1):=by
  refine xz hb ?_;rw[<- xM,show (4294967296:Nat)=2^32 from rfl,<- zF];exact xD (by omega) (by omega)
 have l0:=lim_p32 (B/64+1);have hn:B/64+1<=501:=by omega
 have tq:(B:Int).tdiv 64=((B/64:Nat):Int):=_root_.id rfl;have sl:=set_last (B/64+1);rw[<- l0]at sl;have x0pos:0<4294967296^(B/64+1):=xK (by omega);have ll:(lim (4294967296^(B/64+1))).length=B/64+2:=by rw[l0];simp
 have wp:=wth_lim (4294967296^(B/64+1));generalize 4294967296^(B/64+1)=x0 at *
 -- one round
 have round : ∀x,0<x->(lim x).length<=1000->Go.Ev.Fn CX 140 [natV (lim a),natV (lim x)] (.tup [natV (lim (a/x)),natV (lim (a%x)),.bool true])/\Go.Ev.Fn CX 113 [natV (lim x),natV (lim (a/x))] (natV (lim (x+a/x))) /\
   Go.Ev.Fn CX 88 [natV (lim (x+a/x)),.int .i64 (-1)] (natV (lim ((x+a/x)/2)))/\Go.Ev.Fn CX 125 [natV (lim ((x+a/x)/2)),natV (lim x)] (.int .i64 (cmpN ((x+a/x)/2) x)):=by
  intro x hx hl;have l1:=lim_len_mono (xv a x);have l2:=lim_len_add (a:=x) (b:=a/x) (L:=1000);have l3:=lim_len_mono (xv (x+a/x) 2);have s:=nat_shr (N:=x+a/x) (m:=1);rw[Nat.pow_one]at s;exact⟨nat_DivL,nat_AddL,s,nat_CmpL⟩
 have tr : ∀x,(lim x).length<=1000->Go.Ev.Fn CX 138 [natV (lim x)] (natV (lim x)):=by
  intro x hl;have:=nat_Trim (lim x) (okL_lim x);rwa [wth_lim]at this
 have tn:(((B/64:Nat):Int)+2).toNat=B/64+2:=by omega
 refine fni Tryz.f308 ?_;unfold Tryz.f308;repeat (first|simp only[go_sem,tq,tn]|simp (disch:=first|exact omg|fail) only[AX,tq,tn]|refine wki ?_|refine vfa ?_)
 have hstep : ∀x,0<x->a<(x+1)*(x+1) -> ∀y,y=(x+a/x)/2 -> ¬x<=y->0<y/\a<(y+1)*(y+1)/\y<x:=by
  rintro x hx-y rfl hxy
  have:=newton_up (a:=a) hx;refine⟨?_,this,by omega⟩;rcases xo ((x+a/x)/2) with e|e
  ·rw[e]at this;omega
  ·exact e
 refine vp_loop_inv (fun s=>s.tmp 0 = .sv (natV (lim a)) /\ ∃x:Nat,0<x/\(lim x).length<=600/\x<=x0/\a<(x+1)*(x+1)/\(s.tmp 3 = .sv (natV (lim x))\/x=x0/\s.tmp 3 = .ref 15 0 1 0 (B/64+2)/\s.obj 15 0=some ((lim x0).map limb)))
  (fun s=>match s.tmp 3 with | .sv v=>vN v|_=>x0+1) ?_ ?_
 ·refine⟨rfl,x0,x0pos,by omega,xQ _,by have:=xO (show x0<=x0+1 by omega) (show x0<=x0+1 by omega);omega,.inr ⟨rfl,by first|rfl|(rw[<- tn];rfl),?_⟩⟩;refine(?_:some (List.map limb (List.take (B/64+2-1) (List.replicate (B/64+2) 0))++[SV.int IntKind.u32 1]++List.map limb (List.drop (B/64+2-1+1) (List.replicate (B/64+2) 0)))=_);rw[l0,List.take_replicate,List.drop_replicate,yx (by omega),show B/64+2-(B/64+2-1+1)=0 by omega,show B/64+2-1=B/64+1 by omega,List.map_append,List.replicate_zero,List.map_nil,List.append_nil];rfl
 rintro s ⟨i0,x,hx,lx,hxx,hax,i3⟩
 obtain⟨r1,r2,r3,r4⟩:=round x hx (by omega);have hst:=hstep x hx hax _ rfl;have e1:decide (cmpN ((x+a/x)/2) x>=0)=decide (x<=(x+a/x)/2):=decide_eq_decide.2 (by unfold cmpN;split<;>(try split)<;>omega);have hstop:=newton_stop (a:=a) (x:=x) hx;have t1:=tr x (by omega);have l1:=lim_len_mono (xv (x+a/x) 2);generalize (x+a/x)/2=y at *
 generalize x+a/x=u at *
 generalize a/x=q at *
 generalize cmpN y x=z at *
 rcases i3 with i3|⟨rfl,i3,o3⟩
 ·by_cases hle:x<=y
  ·rw[decide_eq_true hle]at e1;obtain rfl:=rtN_eq (hstop hle) hax;repeat (first|simp only[go_sem,i0,i3,e1]|simp (disch:=first|exact omg|fail) only[AX,i0,i3,e1]|refine wki ?_|refine vfa ?_)
  ·rw[decide_eq_false hle]at e1;obtain⟨y1,y2,y3⟩:=hst hle;repeat (first|simp only[go_sem,i0,i3,e1]|simp (disch:=first|exact omg|fail) only[AX,i0,i3,e1]|refine wki ?_|refine vfa ?_)
   exact⟨⟨y,y1,xH (lim_len_mono (zf y3)) lx,by omega,y2,.inl rfl⟩,by rw[vN_lim (by have:=lim_len_mono (zf y3);omega),vN_lim];exact y3⟩
 ·have hle : ¬x<=y:=fun g=>by have:=hstop g;have:=ha0;omega
  rw[decide_eq_false hle]at e1;obtain⟨y1,y2,y3⟩:=hst hle;have f1:Go.Ev.Fn CX 140 [natV (lim a),.sl (B/64+2) ((lim x).map limb)] (.tup [natV (lim q),natV (lim (a%x)),.bool true]):=by rw[<- ll];exact r1
  have f2:Go.Ev.Fn CX 113 [.sl (B/64+2) ((lim x).map limb),natV (lim q)] (natV (lim u)):=by rw[<- ll];exact r2
  have f4:Go.Ev.Fn CX 125 [natV (lim y),.sl (B/64+2) ((lim x).map limb)] (.int .i64 z):=by rw[<- ll];exact r4
  have hlm:((lim x).map limb).length=B/64+2:=by rw[zZ,ll]
  have htk:((lim x).map limb).take (B/64+2)=(lim x).map limb:=xq (by omega);generalize ((lim x).map limb)=cs at *
  repeat (first|simp only[go_sem,i0,i3,o3,htk,hlm,zQ,N0,yD,e1]|simp (disch:=first|exact omg|fail) only[AX,i0,i3,o3,htk,hlm,zQ,N0,yD,e1]|refine wki ?_|refine vfa ?_)
  exact⟨⟨y,y1,xH (lim_len_mono (zf y3)) lx,by omega,y2,.inl rfl⟩,by rw[vN_lim (by have:=lim_len_mono (zf y3);omega)];omega⟩
theorem root_whole {a:Nat} (h:(lim a).length<=1000:=by omega):Go.Ev.Fn CX 314 [natV (lim a)] (.tup [natV (lim (rtN a)),.bool (decide (rtN a*rtN a=a))]):=by
 have r:=root_Int h;have l:=lim_len_mono (rtN_self a);have m:=nat_MulL (N:=rtN a) (D:=rtN a);have l2:=lim_len_mono (rtN_le a);have c:=nat_CmpL (N:=rtN a*rtN a) (D:=a);have e:(cmpN (rtN a*rtN a) a==0)=decide (rtN a*rtN a=a):=by
  rw[show (cmpN (rtN a*rtN a) a==0)=decide (cmpN (rtN a*rtN a) a=0) from by by_cases h:cmpN (rtN a*rtN a) a=0<;>simp[h]];exact decide_eq_decide.2 (by unfold cmpN;split<;>(try split)<;>omega)
 rw[<- e];generalize cmpN (rtN a*rtN a) a=z at *
 generalize rtN a*rtN a=y at *
 generalize rtN a=x at *
 refine fni Tryz.f314 ?_;unfold Tryz.f314;repeat (first|simp only[go_sem]|simp (disch:=first|exact omg|fail) only[AX]|refine wki ?_|refine vfa ?_)
theorem szR_nat {n d L:Nat} (hn:(lim n).length<=L:=by omega) (hd:(lim d).length<=L:=by omega) (hL:1<=L:=by omega):szR (mkRat (n:Int) d) L:=szR_mk (s:=false) hn hd hL
theorem natAbs_num {q:Rat} (h:0<=q):(q.num.natAbs:Int)=q.num:=wJ (zL.2 h)
theorem mk_mulP (a:Int) {b:Nat} (hb:0<b):mkRat a b*(b:Rat)=(a:Rat):=by
 rw[wk];refine xd ?_;have:(0:Rat)<(b:Rat):=by exact_mod_cast hb
 grind
theorem num_den (q:Rat):q*(q.den:Rat)=(q.num:Rat):=by
 have h:=mk_mulP q.num q.den_pos;rwa [wB]at h
theorem root_Square {v:SV} {q:Rat} {L:Nat} (hv:RatA v q L) (hq:0<=q) (hL1:1<=L) (hL:L<=1000:=by omega) :
  Go.Ev.Fn CX 307 [v] (if rtN q.num.natAbs*rtN q.num.natAbs=q.num.natAbs/\rtN q.den*rtN q.den=q.den then .tup [rv (mkRat (rtN q.num.natAbs:Int) (rtN q.den)),.bool true] else .tup [rv 0,.bool false]):=by
 have n1:=rat_Norm hv;obtain⟨z1,z2⟩:=szR_of hv hL1;have w1:=root_whole (a:=q.num.natAbs);have w2:=root_whole (a:=q.den);have l1:=lim_len_mono (rtN_self q.num.natAbs);have l2:=lim_len_mono (rtN_self q.den);have o:=rat_OfL (s:=false) (n:=rtN q.num.natAbs) (d:=rtN q.den);rw[show sgn false (rtN q.num.natAbs)=(rtN q.num.natAbs:Int) from rfl]at o;have r0:=rat_Int 0;rw[show ((0:Int):Rat)=0 from rfl]at r0;have hs:decide (q.num<0)=false:=decide_eq_false (by have:=zL.2 hq;omega);obtain⟨s,n,d,rfl,-⟩:=hv;generalize mkRat (rtN q.num.natAbs:Int) (rtN q.den)=r at *
 by_cases h1:rtN q.num.natAbs*rtN q.num.natAbs=q.num.natAbs
 ·rw[decide_eq_true h1]at w1;by_cases h2:rtN q.den*rtN q.den=q.den
  ·rw[decide_eq_true h2]at w2;rw[if_pos ⟨h1,h2⟩];clear h1 h2;generalize rtN q.num.natAbs=x at *
   generalize rtN q.den=y at *
   refine fni Tryz.f307 ?_;unfold Tryz.f307;repeat (first|simp only[go_sem,hs,xL]|simp (disch:=first|exact omg|fail) only[AX,hs,xL]|refine wki ?_|refine vfa ?_)
  ·rw[decide_eq_false h2]at w2;rw[if_neg (fun h=>h2 h.2)];clear h1 h2;generalize rtN q.num.natAbs=x at *
   generalize rtN q.den=y at *
   refine fni Tryz.f307 ?_;unfold Tryz.f307;repeat (first|simp only[go_sem,hs,xL,xg]|simp (disch:=first|exact omg|fail) only[AX,hs,xL,xg]|refine wki ?_|refine vfa ?_)
 ·rw[decide_eq_false h1]at w1;rw[if_neg (fun h=>h1 h.1)];clear h1;generalize rtN q.num.natAbs=x at *
  generalize hz:decide (rtN q.den*rtN q.den=q.den)=z at *
  generalize rtN q.den=y at *
  refine fni Tryz.f307 ?_;unfold Tryz.f307;repeat (first|simp only[go_sem,hs,xL,xg]|simp (disch:=first|exact omg|fail) only[AX,hs,xL,xg]|refine wki ?_|refine vfa ?_)
theorem nn_mul {a b:Nat}:((a*b:Nat):Rat)=(a:Rat)*(b:Rat):=by exact_mod_cast rfl
theorem nat_le_rat {a b:Nat} (h:a<=b:=by omega):(a:Rat)<=(b:Rat):=by exact_mod_cast h
theorem root_Sqrt {v:SV} {q:Rat} {L p:Nat} (hv:RatA v q L) (hq:0<=q) (hL1:1<=L:=by omega) (hL:L<=300:=by omega) (hp:p<=512:=by omega) :
  ∃lo hi:Rat,Go.Ev.Fn CX 286 [v,.int .i64 (p:Int)] (.tup [ballR lo hi,.bool true])/\0<=lo/\lo<=hi/\lo*lo<=q/\q<=hi*hi/\(hi-lo)*p2 p<=1/\szR lo (L+40)/\szR hi (L+40):=by
 have n1:=rat_Norm hv;obtain⟨z1,z2⟩:=szR_of hv hL1;have sq:=root_Square (RatA_rv ⟨z1,z2⟩) hq hL1;have l1:=lim_len_mono (rtN_self q.num.natAbs);have l2:=lim_len_mono (rtN_self q.den);have hs:decide (q.num<0)=false:=decide_eq_false (by have:=zL.2 hq;omega);have e1:(if (0:Int)>(p:Int) then (0:Int) else (p:Int))=(p:Int):=if_neg (by omega);have e2:(if (512:Int)<(p:Int) then (512:Int) else (p:Int))=(p:Int):=if_neg (by omega);have qn:=num_den q;have qa:((q.num.natAbs:Nat):Rat)=(q.num:Rat):=by
  rw[<- natAbs_num hq];rfl
 have D:=q.den_pos;have DR:(0:Rat)<(q.den:Rat):=by exact_mod_cast D
 have erv:rv q=ratV false (lim q.num.natAbs) (lim q.den):=by show ratV (decide (q.num<0)) _ _=_;rw[hs]
 rw[erv]at n1 sq;by_cases h:rtN q.num.natAbs*rtN q.num.natAbs=q.num.natAbs/\rtN q.den*rtN q.den=q.den
 ·rw[if_pos h]at sq;have hd0:0<rtN q.den:=by
   rcases xo (rtN q.den) with e|e
   ·have:=h.2;rw[e]at this;omega
   ·exact e
  have mm:=mk_mulP (rtN q.num.natAbs:Int) hd0;have YR:(0:Rat)<(rtN q.den:Rat):=by exact_mod_cast hd0
  have x2:((rtN q.num.natAbs:Nat):Rat)*((rtN q.num.natAbs:Nat):Rat)=(q.num:Rat):=by rw[<- nn_mul,h.1,qa]
  have y2:((rtN q.den:Nat):Rat)*((rtN q.den:Nat):Rat)=(q.den:Rat):=by rw[<- nn_mul,h.2]
  have x0:=nat_nonneg (rtN q.num.natAbs);have mm':mkRat (rtN q.num.natAbs:Int) (rtN q.den)*(rtN q.den:Rat)=((rtN q.num.natAbs:Nat):Rat):=mm;have r0:(0:Rat)<=mkRat (rtN q.num.natAbs:Int) (rtN q.den):=le_by YR (by rw[mm',xw];exact x0);have rr:mkRat (rtN q.num.natAbs:Int) (rtN q.den)*mkRat (rtN q.num.natAbs:Int) (rtN q.den)=q:=by
   generalize mkRat (rtN q.num.natAbs:Int) (rtN q.den)=r at *
   generalize ((rtN q.num.natAbs:Nat):Rat)=X at *
   generalize ((rtN q.den:Nat):Rat)=Y at *
   have e:(r*r-q)*(Y*Y)=0:=by
    have e3:(r*r-q)*(Y*Y)=(r*Y)*(r*Y)-q*(Y*Y):=by grind
    rw[e3,mm',x2,y2,qn,zg]
   rcases Rat.mul_eq_zero.1 e with g|g
   ·grind
   ·rw[y2]at g;grind
  have zz:szR (mkRat (rtN q.num.natAbs:Int) (rtN q.den)) L:=szR_nat (by omega) (by omega) hL1;have bo:=ball_Of (RatA_rv zz);refine⟨_,_,?_,r0,xN,by rw[rr];exact xN,by rw[rr];exact xN,by rw[zg,xw];decide,szR_mono zz,szR_mono zz⟩;clear rr r0 zz mm;obtain⟨s,n,d,rfl,-⟩:=hv;generalize mkRat (rtN q.num.natAbs:Int) (rtN q.den)=r at *
  refine fni Tryz.f286 ?_;unfold Tryz.f286;repeat (first|simp only[go_sem,hs,e1,e2]|simp (disch:=first|exact omg|fail) only[AX,hs,e1,e2]|refine wki ?_|refine vpd 8 [32,35,37] ?_|refine vfa ?_)
 ·rw[if_neg h]at sq;clear h;have s1:=nat_shl (N:=q.num.natAbs) (m:=2*p);have l3:=lim_len_shl (a:=q.num.natAbs) (n:=2*p);have dv:=nat_DivL (N:=q.num.natAbs*2^(2*p)) (D:=q.den);have l4:=lim_len_mono (xv (q.num.natAbs*2^(2*p)) q.den);have rt:=root_Int (a:=q.num.natAbs*2^(2*p)/q.den);have l5:=lim_len_mono (rtN_self (q.num.natAbs*2^(2*p)/q.den));have o1:=nat_Of 1;have l1':=lim_len1;have s2:=nat_shl (N:=1) (m:=p);have l6:=lim_len_shl (a:=1) (n:=p);rw[xe]at s2 l6;have l7:=lim_len_add (a:=rtN (q.num.natAbs*2^(2*p)/q.den)) (b:=1) (L:=L+34);have ad:=nat_AddL (N:=rtN (q.num.natAbs*2^(2*p)/q.den)) (D:=1)
  have f1:=rat_OfL (s:=false) (n:=rtN (q.num.natAbs*2^(2*p)/q.den)) (d:=2^p);have f2:=rat_OfL (s:=false) (n:=rtN (q.num.natAbs*2^(2*p)/q.den)+1) (d:=2^p);have P:0<2^p:=xK (by omega);have g1:=rtN_le (q.num.natAbs*2^(2*p)/q.den);have g2:=lt_rtN (q.num.natAbs*2^(2*p)/q.den);have m1:=mk_mulP (rtN (q.num.natAbs*2^(2*p)/q.den):Int) P;have m2:=mk_mulP ((rtN (q.num.natAbs*2^(2*p)/q.den)+1:Nat):Int) P;refine⟨_,_,?_,?_,?_,?_,?_,?_,szR_nat (n:=rtN (q.num.natAbs*2^(2*p)/q.den)) (d:=2^p),szR_nat (n:=rtN (q.num.natAbs*2^(2*p)/q.den)+1) (d:=2^p)⟩
  ·rw[show sgn false (rtN (q.num.natAbs*2^(2*p)/q.den))=(rtN (q.num.natAbs*2^(2*p)/q.den):Int) from rfl]at f1;rw[show sgn false (rtN (q.num.natAbs*2^(2*p)/q.den)+1)=((rtN (q.num.natAbs*2^(2*p)/q.den)+1:Nat):Int) from rfl]at f2;clear g1 g2 m1 m2;rw[show ((2*p:Nat):Int)=2*(p:Int) by omega]at s1;obtain⟨s,n,d,rfl,-⟩:=hv;generalize mkRat (rtN (q.num.natAbs*2^(2*p)/q.den):Int) (2^p)=r1 at *
   generalize mkRat ((rtN (q.num.natAbs*2^(2*p)/q.den)+1:Nat):Int) (2^p)=r2 at *
   generalize rtN (q.num.natAbs*2^(2*p)/q.den)+1=R1 at *
   generalize rtN (q.num.natAbs*2^(2*p)/q.den)=R at *
   generalize q.num.natAbs*2^(2*p)/q.den=u at *
   generalize q.num.natAbs*2^(2*p)%q.den=u' at *
   generalize q.num.natAbs*2^(2*p)=t at *
   generalize 2^p=P' at *
   refine fni Tryz.f286 ?_;unfold Tryz.f286;repeat (first|simp only[go_sem,hs,e1,e2]|simp (disch:=first|exact omg|fail) only[AX,hs,e1,e2]|refine wki ?_|refine vpd 8 [32,35,37] ?_|refine vfa ?_)
  all_goals
   have m1':mkRat (rtN (q.num.natAbs*2^(2*p)/q.den):Int) (2^p)*p2 p=((rtN (q.num.natAbs*2^(2*p)/q.den):Nat):Rat):=m1;have m2':mkRat ((rtN (q.num.natAbs*2^(2*p)/q.den)+1:Nat):Int) (2^p)*p2 p=((rtN (q.num.natAbs*2^(2*p)/q.den)+1:Nat):Rat):=m2;have PR:=p2_pos p;have eS:((rtN (q.num.natAbs*2^(2*p)/q.den)+1:Nat):Rat)=((rtN (q.num.natAbs*2^(2*p)/q.den):Nat):Rat)+1:=by exact_mod_cast rfl
   have R0:=nat_nonneg (rtN (q.num.natAbs*2^(2*p)/q.den))
  ·exact le_by PR (by rw[xw];exact xE R0 (by rw[<- m1'];exact xN))
  ·refine le_by PR ?_;show mkRat (rtN (q.num.natAbs*2^(2*p)/q.den):Int) (2^p)*p2 p<=mkRat ((rtN (q.num.natAbs*2^(2*p)/q.den)+1:Nat):Int) (2^p)*p2 p;rw[m1',m2',eS];grind
  ·show mkRat (rtN (q.num.natAbs*2^(2*p)/q.den):Int) (2^p)*mkRat (rtN (q.num.natAbs*2^(2*p)/q.den):Int) (2^p)<=q;have a1:=nat_le_rat (xC q.den g1);have a2:=nat_le_rat (wO (q.num.natAbs*2^(2*p)) q.den);have a3:=xE a1 a2;rw[show 2^(2*p)=2^p*2^p by rw[<- xM];congr 1;omega]at *
   rw[nn_mul,nn_mul,nn_mul,nn_mul,qa]at a3;generalize mkRat (rtN (q.num.natAbs*(2^p*2^p)/q.den):Int) (2^p)=r at *
   generalize ((rtN (q.num.natAbs*(2^p*2^p)/q.den):Nat):Rat)=R at *
   have PP:(0:Rat)<p2 p*p2 p*(q.den:Rat):=xt (xt PR PR) DR;refine le_by PP ?_;have e1:r*r*(p2 p*p2 p*(q.den:Rat))=(r*p2 p)*(r*p2 p)*(q.den:Rat):=by grind
   have e2:q*(p2 p*p2 p*(q.den:Rat))=q*(q.den:Rat)*(p2 p*p2 p):=by grind
   rw[e1,e2,m1',qn];exact a3
  ·show q<=mkRat ((rtN (q.num.natAbs*2^(2*p)/q.den)+1:Nat):Int) (2^p)*mkRat ((rtN (q.num.natAbs*2^(2*p)/q.den)+1:Nat):Int) (2^p);have a1:=nat_le_rat (xC q.den (show q.num.natAbs*2^(2*p)/q.den+1<=_ from g2));have a2:=le_floor (a:=q.num.natAbs*2^(2*p)) (d:=q.den) D;rw[<- nn_mul]at a2;have a3:=xE a2 a1;rw[show 2^(2*p)=2^p*2^p by rw[<- xM];congr 1;omega]at *
   rw[nn_mul,nn_mul,nn_mul,nn_mul,qa]at a3;generalize mkRat ((rtN (q.num.natAbs*(2^p*2^p)/q.den)+1:Nat):Int) (2^p)=r at *
   generalize ((rtN (q.num.natAbs*(2^p*2^p)/q.den)+1:Nat):Rat)=R at *
   have PP:(0:Rat)<p2 p*p2 p*(q.den:Rat):=xt (xt PR PR) DR;refine le_by PP ?_;have e1:r*r*(p2 p*p2 p*(q.den:Rat))=(r*p2 p)*(r*p2 p)*(q.den:Rat):=by grind
   have e2:q*(p2 p*p2 p*(q.den:Rat))=q*(q.den:Rat)*(p2 p*p2 p):=by grind
   rw[e1,e2,m2',qn];exact a3
  ·show (mkRat ((rtN (q.num.natAbs*2^(2*p)/q.den)+1:Nat):Int) (2^p)-mkRat (rtN (q.num.natAbs*2^(2*p)/q.den):Int) (2^p))*p2 p<=1;have e : ∀a b c:Rat,(a-b)*c=a*c-b*c:=by intro a b c;grind
   rw[e,m1',m2',eS];grind
theorem root_Of {A B:Rat} {L p:Nat} (hA:0<=A) (hB:0<=B) (zA:szR A L) (zB:szR B L) (hL1:1<=L:=by omega) (hL:L<=300:=by omega) (hp:p<=512:=by omega) :
  ∃lo lo' hi' hi:Rat,Go.Ev.Fn CX 287 [ballR A B,.int .i64 (p:Int)] (.tup [ballR lo hi,.bool true])/\0<=lo/\lo<=lo'/\lo*lo<=A/\A<=lo'*lo'/\(lo'-lo)*p2 p<=1 /\
   0<=hi'/\hi'<=hi/\hi'*hi'<=B/\B<=hi*hi/\(hi-hi')*p2 p<=1/\szR lo (L+40)/\szR hi (L+40):=by
 obtain⟨a1,a2,f,g1,g2,g3,g4,g5,g6,g7⟩:=root_Sqrt (RatA_rv zA) hA hL1 hL hp;obtain⟨b1,b2,f',k1,k2,k3,k4,k5,k6,k7⟩:=root_Sqrt (RatA_rv zB) hB hL1 hL hp;refine⟨a1,a2,b1,b2,?_,g1,g2,g3,g4,g5,k1,k2,k3,k4,k5,g6,k7⟩;clear g1 g2 g3 g4 g5 k1 k2 k3 k4 k5;refine fni Tryz.f287 ?_;unfold Tryz.f287;repeat (first|simp only[go_sem,xL]|simp (disch:=first|exact omg|fail) only[AX,xL]|refine wki ?_|refine vfa ?_)
end Go.Proofs.YtfknkoeagjonbaaGreat
namespace Go.Ev
def piW:Nat:=16525204305188294122575967610974940178026148430521517253674428844222689879174614411560235390899801560652737794125520858649187813498260676587492720299944119139547246105762461028318293173887444219654040121887534587
def piOk2 (p:Nat):Bool:=match piF (p+64) with
 |some (lo,hi)=>pin (lo/2^64) fun a=>Nat.beq a ((hi-1)/2^64)&&(Nat.ble (a*2^(700-p)) piW&&Nat.ble piW ((a+1)*2^(700-p)))
 |none=>false
theorem pi_ok2:allFrom piOk2 241 300=true:=by kernel_rfl
def ivOk2 (w:Nat):Bool:=match piIv w with
 |some (lo,hi)=>Nat.ble (lo*2^(700-w)) piW&&Nat.ble piW (hi*2^(700-w))
 |none=>false
theorem iv_ok2:allFrom ivOk2 221 320=true:=by kernel_rfl
end Go.Ev
namespace Go.Proofs.YtfknkoeagjonbaaGreat
open Go.Ev
theorem ball_okS {lo hi:Rat} {w:Nat} (h0:0<=lo) (h1:lo<=hi) (h2:lo<=1) (h3:(hi-lo)*p2 w<=1):okS (2^w) (unN lo w) (unN hi w+1) 4:=by
 have P:=p2_pos w;have a:=unN_le h0 w;have b:=unN_le (show 0<=hi by grind) w;have c:=xA h2 (show 0<=p2 w by grind);have d:=xA h1 (show 0<=p2 w by grind);have n1:((unN lo w+1:Nat):Rat)=((unN lo w:Nat):Rat)+1:=by exact_mod_cast rfl
 have n2:((unN lo w+4:Nat):Rat)=((unN lo w:Nat):Rat)+4:=by exact_mod_cast rfl
 have n3:((unN hi w+1:Nat):Rat)=((unN hi w:Nat):Rat)+1:=by exact_mod_cast rfl
 have n4:((2^w+4:Nat):Rat)=p2 w+4:=by exact_mod_cast rfl
 refine⟨?_,?_,?_⟩
 ·have:((unN lo w:Nat):Rat)<=((unN hi w+1:Nat):Rat):=by grind
  exact_mod_cast this
 ·have:((unN hi w+1:Nat):Rat)<=((unN lo w+4:Nat):Rat):=by rw[n2,n3];grind
  exact_mod_cast this
 ·have:((unN hi w+1:Nat):Rat)<=((2^w+4:Nat):Rat):=by rw[n3,n4];grind
  exact_mod_cast this
theorem okS_mul2 {P a b c d e g:Nat} (hP:100000000<=P) (he:e<=10000) (hg:g<=10000) (h:okS P a b e) (h2:okS P c d g):okS P (a*c/P) (b*d/P+1) (2*(e+g)+2):=by
 obtain⟨h1,h3,h4⟩:=h;obtain⟨k1,k3,k4⟩:=h2;have hP0:0<P:=by omega
 have m1:=xO h1 k1;refine⟨yP (xf m1),?_,?_⟩
 ·have d1:=yl (a*c) P;have d2:=yI (a*c) hP0;have e1:b*d<=a*c+(e*d+b*g):=by
   have x1:b*d<=(a+e)*d:=xC d h3;have x2:a*d<=a*(c+g):=xI a k3;have x3:a*g<=b*g:=xC g h1;rw[xZ]at x1;rw[xY]at x2;omega
  have e2:e*d<=e*(2*P):=xI e (by omega);have e3:b*g<=2*P*g:=xC g (by omega);have e4:b*d<(a*c/P+(2*(e+g)+2))*P:=by
   have y1:(a*c/P+(2*(e+g)+2))*P=P*(a*c/P)+(e*(2*P)+2*P*g+2*P):=by
    rw[xZ,xV _ P];congr 1;grind
   omega
  have:=(yC hP0).2 e4;omega
 ·have e1:b*d<=(P+e)*(P+g):=xO h4 k4;have e2:(P+e)*(P+g)=P*P+(e+g)*P+e*g:=by grind
  have e3:e*g<=10000*10000:=xO he hg;have e4:b*d<(P+(e+g)+2)*P:=by
   have:(P+(e+g)+2)*P=P*P+(e+g)*P+2*P:=by rw[xZ,xZ]
   omega
  have:=(yC hP0).2 e4;omega
end Go.Proofs.YtfknkoeagjonbaaGreat
namespace Go.Proofs.YtfknkoeagjonbaaGreat
open Go.Ev
theorem incb_pow {q:Rat} {n w L:Nat} (hn:n<=30) (hz:szR q L) (hL1:1<=L) (hL:L<=300) (h0:0<=q) (h1:q<=1) (hw:w<=512:=by omega) (hw0:60<=w:=by omega) :
  ∃X1 X2:Nat,∃s1 s2:Rat,Go.Ev.Fn CX 237 [.int .i64 (n:Int),rv q,.int .i64 (w:Int)] (spanV X1 X2)/\okS (2^w) X1 X2 1100/\0<=s1/\s1<=s2/\s1*s1<=q/\q<=s2*s2 /\
   ∀s,s1<=s->s<=s2->Enc w X1 X2 (pwR q (n/2)*(if n%2=1 then s else 1)):=by
 have k1:=okS_pw (A:=n/2) (w:=w) h0 h1;have pe:Enc w (pwN q (n/2) w).1 (pwN q (n/2) w).2 (pwR q (n/2)):=by
  have one:Enc w (2^w) (2^w+1) 1:=by
   refine⟨by rw[xc];exact xN,?_⟩;rw[xc];exact_mod_cast yg (2^w)
  have un:Enc w (unN q w) (unN q w+1) q:=by
   have:=unN_le h0 w;exact⟨this.1,this.2⟩
  have h:=powGo_enc 4 (n/2) _ _ _ _ (by omega) one un;rw[xc]at h;exact h
 by_cases hod:n%2=1
 ·obtain⟨lo,hi,f,g1,g2,g3,g4,g5,y1,y2⟩:=root_Sqrt (p:=w) (RatA_rv hz) h0 hL1;have lo1:lo<=1:=by
   rcases zC (a:=lo) (b:=1) with g|g
   ·exact g
   ·have a1:=xB g g1;grind
  have r:Go.Ev.Fn CX 171 [rv q,.int .i64 (w:Int)] (spanV (unN q w) (unN q w+1)):=fix_Rat hz (w:=w);obtain⟨l1,l2⟩:=unN_len1 h0 h1 (show w<=900 by omega);have p:Go.Ev.Fn CX 288 [spanV (unN q w) (unN q w+1),.int .i64 ((n/2:Nat):Int),.int .i64 (w:Int)] (spanV (pwN q (n/2) w).1 (pwN q (n/2) w).2):=fix_Power (a1:=unN q w) (a2:=unN q w+1) (n:=n/2) (w:=w) (F:=4) (by omega) (by omega) (by omega) l2;have bb:=fix_Ball (w:=w) y1 y2;have k2:=ball_okS (w:=w) g1 g2 lo1 g5;have hP:2^60<=2^w:=xD (n:=2) (by omega) hw0;have k3:=okS_mul2 (by omega) (by omega) (by omega) k1 k2
  obtain⟨a1,a2⟩:=okS_len k1 (by omega) (show w<=900 by omega);obtain⟨b1,b2⟩:=okS_len k2 (by omega) (show w<=900 by omega);have mu:=fix_Mul (a:=(pwN q (n/2) w).1) (b:=(pwN q (n/2) w).2) (c:=unN lo w) (d:=unN hi w+1) (w:=w);refine⟨_,_,lo,hi,?_,okS_mono k3,g1,g2,g3,g4,?_⟩
  ·have an:=and_one64 (a:=n);rw[hod]at an;have td:(n:Int).tdiv 2=((n/2:Nat):Int):=_root_.id rfl;clear k1 k2 k3 pe g1 g2 g3 g4 g5;generalize (pwN q (n/2) w).1*unN lo w/2^w=Z1 at *
   generalize (pwN q (n/2) w).2*(unN hi w+1)/2^w+1=Z2 at *
   generalize (pwN q (n/2) w).1=x at *
   generalize (pwN q (n/2) w).2=y at *
   generalize unN hi w+1=u2 at *
   generalize unN lo w=u1 at *
   generalize unN q w=u at *
   refine fni Tryz.f237 ?_;unfold Tryz.f237;repeat (first|simp only[go_sem,an,td]|simp (disch:=first|exact omg|fail) only[AX,an,td]|refine wki ?_|refine vpd 4 [] ?_|refine vfa ?_)
  ·intro s hs1 hs2;rw[if_pos hod];exact enc_mul pe (ball_enc g1 hs1 hs2 w)
 ·have h:=incb_power (A:=n/2) (w:=w) (by omega) hz (by omega) (unN_len1 h0 h1 (show w<=900 by omega));rw[show 2*((n/2:Nat):Int)=(n:Int) by omega]at h;refine⟨_,_,0,1,h,okS_mono k1,xN,by decide,by rw[xw];exact h0,by rw[yA];exact h1,?_⟩;intro s _ _;rw[if_neg hod,yA];exact pe
def PI0:Rat:=mkRat (piW:Int) (2^700)
theorem mk_p2n (a p:Nat):mkRat (a:Int) (2^p)*p2 p=(a:Rat):=mk_mulP (a:Int) (xK (by omega))
theorem PI0_mul:PI0*p2 700=(piW:Rat):=mk_p2n piW 700
theorem p2_plus (a b:Nat):p2 (a+b)=p2 a*p2 b:=by
 have:((2^a:Nat):Rat)*((2^b:Nat):Rat)=((2^a*2^b:Nat):Rat):=by exact_mod_cast rfl
 show ((2^(a+b):Nat):Rat)=((2^a:Nat):Rat)*((2^b:Nat):Rat)
 rw[this,xM]
theorem pi_lo {a p:Nat} (hp:p<=700) (h:a*2^(700-p)<=piW):(a:Rat)<=PI0*p2 p:=by
 refine le_by (p2_pos (700-p)) ?_;have e:PI0*p2 p*p2 (700-p)=(piW:Rat):=by
  rw[<- PI0_mul,zG,<- p2_plus,show p+(700-p)=700 by omega]
 rw[e];have e2:(a:Rat)*p2 (700-p)=((a*2^(700-p):Nat):Rat):=by exact_mod_cast rfl
 rw[e2];exact_mod_cast h
theorem pi_hi {a p:Nat} (hp:p<=700) (h:piW<=a*2^(700-p)):PI0*p2 p<=(a:Rat):=by
 refine le_by (p2_pos (700-p)) ?_;have e:PI0*p2 p*p2 (700-p)=(piW:Rat):=by
  rw[<- PI0_mul,zG,<- p2_plus,show p+(700-p)=700 by omega]
 rw[e];have e2:(a:Rat)*p2 (700-p)=((a*2^(700-p):Nat):Rat):=by exact_mod_cast rfl
 rw[e2];exact_mod_cast h
theorem arcs_Pi2 {p:Nat} (h1:300<=p) (h2:p<=512) : ∃a:Nat,Go.Ev.Fn CX 240 [.int .i64 (p:Int)] (ballR (mkRat (a:Int) (2^p)) (mkRat ((a+1:Nat):Int) (2^p)))/\(a:Rat)<=PI0*p2 p/\PI0*p2 p<=((a+1:Nat):Rat)/\2*2^p<=a/\a<=4*2^p:=by
 have h:=allFrom_at pi_ok2 p h1 (by omega);unfold piOk2 at h;split at h
 ·rename_i lo hi hpi;rw[pin_eq,xh,xh]at h;obtain⟨k1,k2,k3⟩:=h;have k1:=Nat.eq_of_beq_eq_true k1;have k2:=xj k2;have k3:=xj k3;obtain⟨f,g1,g2⟩:=arcs_pi (by omega) (by omega) hpi;have c:=fix_Certain1 (p:=p) (sp:=64) f (by omega) (by omega) (by omega) (by omega) (by omega) k1;have hh:=arcs_held (p:Int);rw[if_neg (by omega),if_neg (by omega)]at hh;have sp:2^700=2^p*2^(700-p):=by rw[<- xM];congr 1;omega
  have q0:0<2^(700-p):=xK (by omega);have z3:3*2^700<=piW:=by decide +kernel
  have z4:piW<=4*2^700:=by decide +kernel
  have b1:2*2^p<=lo/2^64:=by
   have x1:3*2^p*2^(700-p)<=(lo/2^64+1)*2^(700-p):=by rw[xP,<- sp];exact xH z3 k3
   have x2:=yv x1 q0;have x3:0<2^p:=xK (by omega);omega
  have b2:lo/2^64<=4*2^p:=by
   have x1:lo/2^64*2^(700-p)<=4*2^p*2^(700-p):=by rw[xP 4,<- sp];exact xH k2 z4
   exact yv x1 q0
  refine⟨lo/2^64,?_,pi_lo (by omega) k2,pi_hi (by omega) k3,b1,b2⟩;clear k2 k3 f hpi b1 b2 sp z3 z4;generalize mkRat ((lo/2^64:Nat):Int) (2^p)=q1 at *
  generalize mkRat ((lo/2^64+1:Nat):Int) (2^p)=q2 at *
  refine fni Tryz.f240 ?_;unfold Tryz.f240;repeat (first|simp only[go_sem]|simp (disch:=first|exact omg|fail) only[AX]|refine wki ?_|refine vfa ?_)
 ·cases h
theorem inv_gap {P a:Nat} (hP:4<=P) (ha:2*P<=a):okS P (P*P/(a+2)) (P*P/a+1) 3:=by
 have u1:P*P/(a+2)<=P/2:=by
  rw[yL (by omega)];have h1:2*(P*P)<=(P)*(a+2):=by
   have:=xI P (show 2*P<=a+2 by omega);rw[ym]at this;exact this
  have h2:P*(a+2)<=(2*(P/2)+1)*(a+2):=xC _ (by omega);have h3:(2*(P/2)+1)*(a+2)=2*(P/2*(a+2))+(a+2):=by rw[xZ,xP,xe]
  omega
 have d1:=yl (P*P) (a+2);have d2:=yI (P*P) (show 0<a+2 by omega);generalize hu:P*P/(a+2)=u at *
 have v1:P*P/a<=u+2:=by
  refine Nat.le_of_lt_succ ((yC (by omega)).2 ?_);have e1:(a+2)*u=a*u+2*u:=xZ _ _ _;have e2:(u+2).succ*a=a*u+3*a:=by
   rw[show (u+2).succ=u+3 by omega,xZ,xV u a]
  omega
 refine⟨?_,by omega,by omega⟩;have:=ww (show a<=a+2 by omega) (show 0<a by omega) (a:=P*P);omega
end Go.Proofs.YtfknkoeagjonbaaGreat
namespace Go.Proofs.YtfknkoeagjonbaaGreat
open Go.Ev
theorem gap_mul {P U1 U2 i1 i2 g T:Nat} (hP:4<=P) (h1:U1<=U2) (h2:U2<=U1+g) (h3:U2<=T*P) (h:okS P i1 i2 3):U1*i1/P<=U2*i2/P+1/\U2*i2/P+1<=U1*i1/P+(2*g+3*T+3)/\U2*i2/P+1<=2*(T*P)+1:=by
 obtain⟨k1,k2,k3⟩:=h;have hP0:0<P:=by omega
 refine⟨yP (xf (xO h1 k1)),?_,?_⟩
 ·have d1:=yl (U1*i1) P;have d2:=yI (U1*i1) hP0;have e1:U2*i2<=U1*i1+(g*i2+U2*3):=by
   have x1:U2*i2<=(U1+g)*i2:=xC i2 h2;have x2:U1*i2<=U1*(i1+3):=xI U1 k2;rw[xZ]at x1;rw[xY]at x2;omega
  have e2:g*i2<=g*(2*P):=xI g (by omega);have e4:U2*i2<(U1*i1/P+(2*g+3*T+1))*P:=by
   have y1:(U1*i1/P+(2*g+3*T+1))*P=P*(U1*i1/P)+(g*(2*P)+3*(T*P)+P):=by
    rw[xZ,xV _ P];congr 1;grind
   omega
  have:=(yC hP0).2 e4;omega
 ·have e1:U2*i2<=U2*(2*P):=xI _ (by omega);have e2:U2*(2*P)<=T*P*(2*P):=xC _ h3;have e3:T*P*(2*P)=2*(T*P)*P:=by grind
  have:U2*i2/P<=2*(T*P):=Nat.div_le_of_le_mul (by rw[xV P];omega);omega
theorem unN_exact (A w:Nat):unN (mkRat (A:Int) (2^w)) w=A:=by
 have y1:=mk_p2n A w;have PW:=p2_pos w;have m0:0<=mkRat (A:Int) (2^w):=le_by PW (by rw[y1,xw];exact nat_nonneg A);generalize mkRat (A:Int) (2^w)=q at *
 have h:=num_den q;have h2:((q.num.natAbs:Nat):Rat)=(q.num:Rat):=by
  have:(q.num.natAbs:Int)=q.num:=wJ (zL.2 m0);rw[<- this];rfl
 have e:((q.num.natAbs*2^w:Nat):Rat)=((A*q.den:Nat):Rat):=by
  have c1:((q.num.natAbs*2^w:Nat):Rat)=((q.num.natAbs:Nat):Rat)*p2 w:=by exact_mod_cast rfl
  have c2:((A*q.den:Nat):Rat)=(A:Rat)*(q.den:Rat):=by exact_mod_cast rfl
  rw[c1,c2,h2,<- h,<- y1];grind
 have e2:q.num.natAbs*2^w=A*q.den:=by exact_mod_cast e
 show q.num.natAbs*2^w/q.den=A;rw[e2,Nat.mul_div_cancel _ q.den_pos]
def betOk (a b:Nat):Bool:=Nat.ble ((beta2 a b).den*2) (1048576*((beta2 a b).num.natAbs*a))&&Nat.ble 1 (beta2 a b).num.natAbs
theorem bets_ok:(List.range 22).all (fun a=>(List.range 22).all fun b=>betOk (a+1) (b+1))=true:=by decide +kernel
theorem bet_ok {a b:Nat} (h1:1<=a) (h2:1<=b) (h3:a<=22:=by omega) (h4:b<=22:=by omega):(beta2 a b).den*2<=1048576*((beta2 a b).num.natAbs*a)/\0<(beta2 a b).num.natAbs*a:=by
 have h:=zJ.1 bets_ok (a-1) (zX.2 (by omega));have h':=zJ.1 h (b-1) (zX.2 (by omega));rw[show a-1+1=a by omega,show b-1+1=b by omega]at h';unfold betOk at h';rw[xh]at h';exact⟨xj h'.1,yu (xj h'.2) (by omega)⟩
def fstR (a b:Nat) (x sx sy:Rat):Rat:=
 (pwR x (a/2)*(if a%2=1 then sx else 1))*(pwR (1-x) (b/2)*(if b%2=1 then sy else 1))*(((beta2 a b).den*2:Nat):Rat)/(((beta2 a b).num.natAbs*a:Nat):Rat)*(if a%2*(b%2)=1 then 1/PI0 else 1)
set_option maxHeartbeats 1000000 in
theorem incb_fst {x:Rat} {a b w L:Nat} (ha:1<=a) (ha2:a<=22) (hb:1<=b) (hb2:b<=22) (hz:szR x L) (hL1:1<=L) (hL:L<=260) (h0:0<=x) (h1:x<=1) (hw0:300<=w:=by omega) (hw:w<=512:=by omega) :
  ∃F1 F2:Nat,∃p1 p2' q1 q2:Rat,Go.Ev.Fn CX 172 [.int .i64 (a:Int),.int .i64 (b:Int),rv x,.int .i64 (w:Int)] (spanV F1 F2)/\F1<=F2/\F2<=F1+2^45/\F2<=2^(w+25) /\
   p1<=p2'/\0<=p1/\p1*p1<=x/\x<=p2'*p2'/\q1<=q2/\0<=q1/\q1*q1<=1-x/\1-x<=q2*q2 /\
   ∀sx sy,p1<=sx->sx<=p2'->q1<=sy->sy<=q2->Enc w F1 F2 (fstR a b x sx sy):=by
 have one1:szR 1 1:=⟨lim_len_lt (by decide +kernel),lim_len_lt (by decide +kernel)⟩
 have zy:=szR_sub one1 hz;obtain⟨X1,X2,p1,p2',f1,k1,a0,a1,a2,a3,ex⟩:=incb_pow (n:=a) (w:=w) (by omega) hz hL1 (by omega) h0 h1;obtain⟨Y1,Y2,q1,q2,f2,k2,b0,b1,b2,b3,ey⟩:=incb_pow (n:=b) (w:=w) (by omega) zy (by omega) (by omega) (show 0<=1-x by clear f1 k1 ex;grind) (show 1-x<=1 by clear f1 k1 ex;grind);have i1:=rat_Int 1;have sb:=rat_Sub (RatA_rv one1) (RatA_rv hz) (by omega) hL1;rw[show ((1:Int):Rat)=1 from rfl]at i1;have hP:2^60<=2^w:=xD (n:=2) (by omega) (by omega);obtain⟨lx1,lx2⟩:=okS_len k1 (by omega) (show w<=900 by omega);obtain⟨ly1,ly2⟩:=okS_len k2 (by omega) (show w<=900 by omega)
 have mu:=fix_Mul (a:=X1) (b:=X2) (c:=Y1) (d:=Y2) (w:=w);have k3:=okS_mul2 (by omega) (by omega) (by omega) k1 k2;have em:=fun sx sy (u1:p1<=sx) (u2:sx<=p2') (v1:q1<=sy) (v2:sy<=q2)=>enc_mul (ex sx u1 u2) (ey sy v1 v2)
 generalize X1*Y1/2^w=M1 at *
 generalize X2*Y2/2^w+1=M2 at *
 obtain⟨lm1,lm2⟩:=okS_len k3 (by omega) (show w<=900 by omega);have be:=gam_Beta a b ha (by omega) hb;obtain⟨c1,c2⟩:=bet_ok ha hb ha2 hb2;obtain⟨z1,z2⟩:=beta2_size (a:=a) (b:=b);have o2:=nat_Of 2;have oa:=nat_Of a;have l2:(lim 2).length<=1:=lim_len_one (by decide);have la:(lim a).length<=1:=lim_len_one;have m1:=nat_MulL (N:=(beta2 a b).den) (D:=2);have m2:=nat_MulL (N:=(beta2 a b).num.natAbs) (D:=a);have ln1:=lim_len_mul (a:=(beta2 a b).den) (b:=2);have ln2:=lim_len_mul (a:=(beta2 a b).num.natAbs) (b:=a);have ti:=fix_Times (a:=M1) (b:=M2) (n:=(beta2 a b).den*2) (d:=(beta2 a b).num.natAbs*a)
 have et:=fun sx sy (u1:p1<=sx) (u2:sx<=p2') (v1:q1<=sy) (v2:sy<=q2)=>enc_times (n:=(beta2 a b).den*2) (d:=(beta2 a b).num.natAbs*a) c2 (em sx sy u1 u2 v1 v2)
 have gs:=quo_sub (n:=(beta2 a b).den*2) (m:=(beta2 a b).num.natAbs*a) k3.1 c2;have gq:=quo_le (v:=M2-M1) (n:=(beta2 a b).den*2) (m:=(beta2 a b).num.natAbs*a) (c:=1048576) (d:=1) c2;have gr:=quo_le (v:=M2) (n:=(beta2 a b).den*2) (m:=(beta2 a b).num.natAbs*a) (c:=1048576) (d:=1) c2;have gm:M1*((beta2 a b).den*2)/((beta2 a b).num.natAbs*a)<=M2*((beta2 a b).den*2)/((beta2 a b).num.natAbs*a):=xf (xC _ k3.1);have k31:=k3.1;have k32:=k3.2.1;have k33:=k3.2.2;have hw25:2^(w+25)=2^w*33554432:=by rw[xM]
 unfold fstR;generalize hb2':beta2 a b=be2 at *
 generalize hn2:be2.den*2=D2 at *
 generalize hd2:be2.num.natAbs*a=N2 at *
 generalize M1*D2/N2=U1 at *
 generalize hU2:M2*D2/N2+1=U2 at *
 have gap:U2<=U1+8589934592:=by omega
 have top:U2<=2097152*2^w:=by omega
 have hw46:2^(w+22)=2097152*2*2^w:=by rw[xM,xV]
 have lu2:=lim_len_p2 (n:=U2) (w:=w+22);have lu1:=lim_len_mono (show U1<=U2 by omega);by_cases hpi:a%2*(b%2)=1
 ·obtain⟨A,fp,g1,g2,g3,g4⟩:=arcs_Pi2 (p:=w) hw0 hw;generalize PI0=W0 at *
  have u1:=unN_exact A w;have u2:=unN_exact (A+1) w;have sA:szR (mkRat (A:Int) (2^w)) 45/\szR (mkRat ((A+1:Nat):Int) (2^w)) 45:=by
   have hb3:2^(w+3)=8*2^w:=by rw[xM,xV]
   have x1:=lim_len_p2 (n:=A) (w:=w+3);have x2:=lim_len_p2 (n:=A+1) (w:=w+3);have x3:=lim_len_p2 (n:=2^w) (w:=w) (xQ _);exact⟨szR_nat,szR_nat⟩
  have bl:=fix_Ball (w:=w) sA.1 sA.2;rw[u1,u2]at bl;have hb3:2^(w+3)=8*2^w:=by rw[xM,xV]
  have x1:=lim_len_p2 (n:=A) (w:=w+3);have x2:=lim_len_p2 (n:=A+1+1) (w:=w+3);have iv:=fix_Inverse (a:=A) (b:=A+1+1) (w:=w);have pp:2^(2*w)=2^w*2^w:=by rw[<- xM,show 2*w=w+w by omega]
  have ig:=inv_gap (P:=2^w) (a:=A) (by omega) g3;have ePi:Enc w A (A+1+1) W0:=⟨g1,xE g2 (nat_le_rat (yg (A+1)))⟩
  have ei:=(enc_inv (show 0<A by omega) ePi).1;rw[pp]at iv ei;rw[show A+2=A+1+1 from rfl]at ig;obtain⟨t1,t2,t3⟩:=gap_mul (T:=2097152) (g:=8589934592) (by omega) (show U1<=U2 by omega) gap top ig;obtain⟨li1,li2⟩:=okS_len ig (by omega) (show w<=900 by omega);have mu2:=fix_Mul (a:=U1) (b:=U2) (c:=2^w*2^w/(A+1+1)) (d:=2^w*2^w/A+1) (w:=w);have ef:=fun sx sy (u1:p1<=sx) (u2:sx<=p2') (v1:q1<=sy) (v2:sy<=q2)=>enc_mul (et sx sy u1 u2 v1 v2) ei
  have be':Go.Ev.Fn CX 238 [.int .i64 (a:Int),.int .i64 (b:Int)] (.tup [rv be2,.int .i64 1,.bool true]):=by
   rw[hpi]at be;exact be
  refine⟨U1*(2^w*2^w/(A+1+1))/2^w,U2*(2^w*2^w/A+1)/2^w+1,p1,p2',q1,q2,?_,t1,by omega,by omega,a1,a0,a2,a3,b1,b0,b2,b3,?_⟩
  ·clear ex ey em et be ef ei ePi g1 g2 t1 t2 t3 ig;generalize U1*(2^w*2^w/(A+1+1))/2^w=W1 at *
   generalize U2*(2^w*2^w/A+1)/2^w+1=W2 at *
   generalize 2^w*2^w/(A+1+1)=I1 at *
   generalize 2^w*2^w/A+1=I2 at *
   generalize mkRat (A:Int) (2^w)=r1 at *
   generalize mkRat ((A+1:Nat):Int) (2^w)=r2 at *
   generalize 1-x=y at *
   refine fni Tryz.f172 ?_;unfold Tryz.f172;repeat (first|simp only[go_sem]|simp (disch:=first|exact omg|fail) only[AX]|refine wki ?_|refine vpd 1 [] ?_|refine vpd 3 [34,35,38,41,36,42] ?_|refine vpd 5 [] ?_|refine vfa ?_)
  ·intro sx sy v1 v2 v3 v4;rw[if_pos hpi];exact ef sx sy v1 v2 v3 v4
 ·have be':Go.Ev.Fn CX 238 [.int .i64 (a:Int),.int .i64 (b:Int)] (.tup [rv be2,.int .i64 0,.bool true]):=by
   have:a%2*(b%2)=0:=by
    have x1:a%2<=1:=by omega
    have x2:b%2<=1:=by omega
    have:=xO x1 x2;omega
   rw[this]at be;exact be
  refine⟨U1,U2,p1,p2',q1,q2,?_,by omega,by omega,by omega,a1,a0,a2,a3,b1,b0,b2,b3,?_⟩
  ·clear ex ey em et be;generalize 1-x=y at *
   refine fni Tryz.f172 ?_;unfold Tryz.f172;repeat (first|simp only[go_sem]|simp (disch:=first|exact omg|fail) only[AX]|refine wki ?_|refine vpd 1 [] ?_|refine vpd 3 [34,35,38,41,36,42] ?_|refine vpd 5 [] ?_|refine vfa ?_)
  ·intro sx sy v1 v2 v3 v4;rw[if_neg hpi,yA];exact et sx sy v1 v2 v3 v4
end Go.Proofs.YtfknkoeagjonbaaGreat
