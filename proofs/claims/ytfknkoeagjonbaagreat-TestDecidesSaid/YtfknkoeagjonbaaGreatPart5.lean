/- Part 5 of the proof: the evaluator, contracts of functions and their plain laws (joined by program). No condition. -/
import Derived.Test.YtfknkoeagjonbaaGreatPart4
import Derived.KernelRfl
set_option linter.unusedVariables false
set_option linter.unusedSimpArgs false
set_option maxRecDepth 100000
namespace Go.Proofs.YtfknkoeagjonbaaGreat
open Go.Ev
abbrev p2 (w:Nat):Rat:=((2^w:Nat):Rat)
theorem p2_pos (w:Nat):0<p2 w:=by
 have:0<2^w:=xM (by omega);exact_mod_cast this
def Enc (w a b:Nat) (q:Rat):Prop:=(a:Rat)<=q*p2 w/\q*p2 w<=(b:Rat)
theorem floor_le {a d:Nat}:((a/d:Nat):Rat)*(d:Rat)<=(a:Rat):=by
 have:=wk a d;exact_mod_cast this
theorem le_floor {a d:Nat} (hd:0<d):(a:Rat)<=((a/d+1:Nat):Rat)*(d:Rat):=by
 have h2:a<=(a/d+1)*d:=by
  have:=ym a d;have h3:=yG a hd;rw[xY,xe,xV];omega
 exact_mod_cast h2
theorem enc_add {w a b c d:Nat} {q r:Rat} (h1:Enc w a b q) (h2:Enc w c d r):Enc w (a+c) (b+d) (q+r):=by
 obtain⟨x1,x2⟩:=h1;obtain⟨y1,y2⟩:=h2;have e1:((a+c:Nat):Rat)=(a:Rat)+(c:Rat):=by exact_mod_cast rfl
 have e2:((b+d:Nat):Rat)=(b:Rat)+(d:Rat):=by exact_mod_cast rfl
 unfold Enc;rw[e1,e2];constructor<;>grind
theorem enc_wider {w a b n:Nat} {q:Rat} (h:Enc w a b q):Enc w a (b+n) q:=by
 obtain⟨x1,x2⟩:=h;refine⟨x1,xO x2 ?_⟩;have:b<=b+n:=wZ _ _;exact_mod_cast this
theorem enc_nonneg {w a b:Nat} {q:Rat} (h:Enc w a b q):0<=q:=by
 have h0:(0:Rat)<=(a:Rat):=by exact_mod_cast wT a
 have h1:0<=q*p2 w:=xO h0 h.1;rcases zV (a:=0) (b:=q) with h2|h2
 ·exact h2
 ·by_cases e:q=0
  ·rw[e];exact xi
  ·have:q*p2 w<0:=by
    have h3:0<(-q)*p2 w:=ya (by grind) (p2_pos w);grind
   grind
theorem le_by {x y c:Rat} (hc:0<c) (h:x*c<=y*c):x<=y:=by
 rcases zV (a:=x) (b:=y) with h1|h1
 ·exact h1
 ·have h2:=xA h1 (by grind:(0:Rat)<=c);have h3:(x-y)*c=0:=by grind
  rcases Rat.mul_eq_zero.1 h3 with h4|h4<;>grind
theorem mul_le {a b c d:Rat} (h1:a<=b) (h2:c<=d) (hb:0<=b) (hc:0<=c):a*c<=b*d:=
 xO (xA h1 hc) (xI h2 hb)
theorem nat_nonneg (a:Nat):(0:Rat)<=(a:Rat):=by exact_mod_cast wT a
theorem enc_mul {w a b c d:Nat} {q r:Rat} (h1:Enc w a b q) (h2:Enc w c d r):Enc w (a*c/2^w) (b*d/2^w+1) (q*r):=by
 have hq:=enc_nonneg h1;have P:=p2_pos w;obtain⟨x1,x2⟩:=h1;have hr:=enc_nonneg h2;obtain⟨y1,y2⟩:=h2;have f:=floor_le (a:=a*c) (d:=2^w);have g:=le_floor (a:=b*d) (d:=2^w) (xM (by omega));have e1:((a*c:Nat):Rat)=(a:Rat)*(c:Rat):=by exact_mod_cast rfl
 have e2:((b*d:Nat):Rat)=(b:Rat)*(d:Rat):=by exact_mod_cast rfl
 have m1:=mul_le x1 y1 (xO (nat_nonneg a) x1) (nat_nonneg c);have m2:=mul_le x2 y2 (nat_nonneg b) (xO (nat_nonneg c) y1);refine⟨le_by P ?_,le_by P ?_⟩
 ·rw[e1]at f;show ((a*c/2^w:Nat):Rat)*p2 w<=_;have:q*r*p2 w*p2 w=q*p2 w*(r*p2 w):=by grind
  rw[this];exact xO f m1
 ·rw[e2]at g;have:q*r*p2 w*p2 w=q*p2 w*(r*p2 w):=by grind
  rw[this];exact xO m2 g
theorem enc_times {w a b n d:Nat} {q:Rat} (hd:0<d) (h:Enc w a b q):Enc w (a*n/d) (b*n/d+1) (q*(n:Rat)/(d:Rat)):=by
 obtain⟨x1,x2⟩:=h;have D:(0:Rat)<(d:Rat):=by exact_mod_cast hd
 have Dn:(d:Rat)≠0:=by grind
 have f:=floor_le (a:=a*n) (d:=d);have g:=le_floor (a:=b*n) (d:=d) hd;have e1:((a*n:Nat):Rat)=(a:Rat)*(n:Rat):=by exact_mod_cast rfl
 have e2:((b*n:Nat):Rat)=(b:Rat)*(n:Rat):=by exact_mod_cast rfl
 have m1:=xA x1 (nat_nonneg n);have m2:=xA x2 (nat_nonneg n);have c:q*(n:Rat)/(d:Rat)*p2 w*(d:Rat)=q*p2 w*(n:Rat):=by
  have:=yD (a:=q*(n:Rat)) Dn;have h2:q*(n:Rat)/(d:Rat)*p2 w*(d:Rat)=q*(n:Rat)/(d:Rat)*(d:Rat)*p2 w:=by grind
  rw[h2,this];grind
 refine⟨le_by D ?_,le_by D ?_⟩
 ·rw[e1]at f;rw[c];exact xO f m1
 ·rw[e2]at g;rw[c];exact xO m2 g
end Go.Proofs.YtfknkoeagjonbaaGreat
namespace Go.Ev
def pin {α:Type} (n:Nat) (f:Nat->α):α:=match n with
 |0=>f 0
 |m+1=>f (m+1)
def angGo (w b1 b2:Nat):Nat->Nat->Nat->Nat->Nat->Nat->Option (Nat×Nat)
 |0,_,_,_,_,_=>none
 |f+1,k,t1,t2,a1,a2=>if t2<4 then some (a1,a2+8) else
  pin (t1*b1/2^w*(2*k)/(2*k+1)) fun u1=>pin ((t2*b2/2^w+1)*(2*k)/(2*k+1)+1) fun u2=>
  pin (a1+u1) fun c1=>pin (a2+u2) fun c2=>pin (k+1) fun k'=>angGo w b1 b2 f k' u1 u2 c1 c2
def angF (n d w:Nat):Option (Nat×Nat):=
 pin (n*n*2^w/(n*n+d*d)) fun b1=>pin (n*d*2^w/(n*n+d*d)) fun t1=>angGo w b1 (b1+1) 1000 1 t1 (t1+1) t1 (t1+1)
def piF (w:Nat):Option (Nat×Nat):=match angF 1 5 w,angF 1 239 w with
 |some (a1,a2),some (b1,b2)=>some (a1*16-(b2*4+1),(a2*16+1-b1*4)+1)
 |_,_=>none
def rootPi:Nat:=4576918740415440415430138886030104330034393630387746481038405196946375920276839941112766425178723903652484208164514262098
def piOk (p:Nat):Bool:=match piF (p+64) with
 |some (lo,hi)=>pin (lo/2^64) fun a=>Nat.beq a ((hi-1)/2^64)&&(Nat.ble (a*2^(800-p)) (rootPi*rootPi)&&Nat.ble (rootPi*rootPi) ((a+1)*2^(800-p)))
 |none=>false
def allFrom (f:Nat->Bool):Nat->Nat->Bool
 |0,_=>true
 |n+1,k=>f k&&allFrom f n (k+1)
theorem pi_ok:allFrom piOk 225 8=true:=by kernel_rfl
def cdv (a b:Nat):Nat:=(a+b-1)/b
def smGo (w s1 s2:Nat):Nat->Nat->Bool->Nat->Nat->Nat->Nat->Nat->Nat->Option (Nat×Nat×Nat×Nat)
 |0,_,_,_,_,_,_,_,_=>none
 |f+1,i,odd,t1,t2,a1,a2,b1,b2=>
  pin (t1*s1/2^w) fun u1=>pin (cdv (t2*s2) (2^w)) fun u2=>pin (u1/(2*i+1)) fun x1=>pin (cdv u2 (2*i+1)) fun x2=>pin (i+1) fun i' =>
  match odd with
  |true=>pin (b1+x1) fun c1=>pin (b2+x2) fun c2=>if u2<=2 then some (a1,a2,c1,c2) else smGo w s1 s2 f i' false u1 u2 a1 a2 c1 c2
  |false=>pin (a1+x1) fun c1=>pin (a2+x2) fun c2=>if u2<=2 then some (c1,c2,b1,b2) else smGo w s1 s2 f i' true u1 u2 c1 c2 b1 b2
def smF (d w:Nat):Option (Nat×Nat):=pin (2^w/d) fun y1=>pin (cdv (2^w) d) fun y2=>pin (y1*y1/2^w) fun s1=>pin (cdv (y2*y2) (2^w)) fun s2=>
 match smGo w s1 s2 1000 1 true y1 y2 y1 y2 0 0 with
 |some (a1,a2,b1,b2)=>if b2+4<=a1/\b1<=a2 then some (a1-b2-4,a2-b1+4) else none
 |none=>none
def piIv (w:Nat):Option (Nat×Nat):=match smF 5 (w+10),smF 239 (w+10) with
 |some (a1,a2),some (b1,b2)=>if b2*4<=a1*16/\b1*4<=a2*16 then some ((a1*16-b2*4)/2^10,cdv (a2*16-b1*4) (2^10)) else none
 |_,_=>none
end Go.Ev
namespace Go.Proofs.YtfknkoeagjonbaaGreat
open Go.Ev
abbrev spanV (a b:Nat):SV := .agg [natV (lim a),natV (lim b)]
theorem lim_len_shl {a n:Nat}:(lim (a*2^n)).length<=(lim a).length+n/32+1:=by
 refine lim_len_lt ?_;have h1:=lim_len_pow (a:=a);have h2:2^n<=4294967296^(n/32+1):=by
  rw[show (4294967296:Nat)=2^32 from rfl,<- zJ];exact xE (by omega) (by omega)
 calc a*2^n<4294967296^(lim a).length*2^n:=zF h1 (xM (by omega))
  _<=4294967296^(lim a).length*4294967296^(n/32+1):=xF _ h2
  _=4294967296^((lim a).length+n/32+1):=by rw[<- xN,zX]
theorem fix_Over' {N D:Nat} (hD:D≠0:=by omega) (hl:(lim N).length<=68719476736:=by omega) (hm:(lim D).length<=68719476736:=by omega):Go.Ev.Fn CX 201 [natV (lim N),natV (lim D)] (natV (lim (N/D))):=by
 have h:=nat_DivL hD hl hm;refine fni Tryz.f201 ?_;unfold Tryz.f201;repeat (first|simp only[go_sem]|simp (disch:=first|exact omg|fail) only[AX]|refine wki ?_|refine vfa ?_)
theorem fix_One:Go.Ev.Fn CX 169 [] (natV (lim 1)):=by
 have o:=nat_Of 1;refine fni Tryz.f169 ?_;unfold Tryz.f169;repeat (first|simp only[go_sem]|simp (disch:=first|exact omg|fail) only[AX]|refine wki ?_|refine vfa ?_)
theorem fix_Next {a:Nat} (h:(lim a).length<=60000000000:=by omega):Go.Ev.Fn CX 170 [natV (lim a)] (natV (lim (a+1))):=by
 have o:=fix_One;have l:=lim_len1;have s:=nat_AddL (N:=a) (D:=1);refine fni Tryz.f170 ?_;unfold Tryz.f170;repeat (first|simp only[go_sem]|simp (disch:=first|exact omg|fail) only[AX]|refine wki ?_|refine vfa ?_)
theorem fix_Add {a b c d:Nat} (h1:(lim a).length<=60000000000:=by omega) (h2:(lim b).length<=60000000000:=by omega) (h3:(lim c).length<=60000000000:=by omega) (h4:(lim d).length<=60000000000:=by omega):Go.Ev.Fn CX 175 [spanV a b,spanV c d] (spanV (a+c) (b+d)):=by
 have s1:=nat_AddL (N:=a) (D:=c);have s2:=nat_AddL (N:=b) (D:=d);refine fni Tryz.f175 ?_;unfold Tryz.f175;repeat (first|simp only[go_sem]|simp (disch:=first|exact omg|fail) only[AX]|refine wki ?_|refine vpd 1 [6,8,11,13] ?_|refine vfa ?_)
theorem fix_Wider {a b n:Nat} (h1:(lim a).length<=60000000000:=by omega) (h2:(lim b).length<=60000000000:=by omega) (hn:n<18446744073709551616:=by omega):Go.Ev.Fn CX 176 [spanV a b,.int .u64 (n:Int)] (spanV a (b+n)):=by
 have o:=nat_Of n hn;have l:(lim n).length<=60000000000:=xG (lim_len_lt (L:=2)) (by omega);have s:=nat_AddL (N:=b) (D:=n);refine fni Tryz.f176 ?_;unfold Tryz.f176;repeat (first|simp only[go_sem]|simp (disch:=first|exact omg|fail) only[AX]|refine wki ?_|refine vpd 1 [8,10] ?_|refine vfa ?_)
theorem fix_Times {a b n d:Nat} (h1:(lim a).length<=55000000000:=by omega) (h2:(lim b).length<=55000000000:=by omega) (h3:(lim n).length<=5000000000:=by omega) (h4:(lim d).length<=5000000000:=by omega) (hd:d≠0:=by omega):Go.Ev.Fn CX 174 [spanV a b,natV (lim n),natV (lim d)] (spanV (a*n/d) (b*n/d+1)):=by
 have m1:=nat_MulL (N:=a) (D:=n);have m2:=nat_MulL (N:=b) (D:=n);have l1:=lim_len_mul (a:=a) (b:=n);have l2:=lim_len_mul (a:=b) (b:=n);have o1:=fix_Over' (N:=a*n) (D:=d) hd;have o2:=fix_Over' (N:=b*n) (D:=d) hd;have l3:=lim_len_mono (xt (b*n) d);have n1:=fix_Next (a:=b*n/d);generalize a*n/d=x at *
 generalize b*n/d=y at *
 generalize a*n=u at *
 generalize b*n=v at *
 refine fni Tryz.f174 ?_;unfold Tryz.f174;repeat (first|simp only[go_sem]|simp (disch:=first|exact omg|fail) only[AX]|refine wki ?_|refine vpd 1 [8,1,10,2,14,1,16,2,18] ?_|refine vfa ?_)
theorem fix_Less' {N D:Nat} (hl:(lim N).length<=68719476736:=by omega) (hm:(lim D).length<=68719476736:=by omega):Go.Ev.Fn CX 200 [natV (lim N),natV (lim D)] (natV (lim (N-D))):=by
 have h:=nat_SubL hl hm;refine fni Tryz.f200 ?_;unfold Tryz.f200;repeat (first|simp only[go_sem]|simp (disch:=first|exact omg|fail) only[AX]|refine wki ?_|refine vfa ?_)
theorem fix_Sub {a b c d:Nat} (h1:(lim a).length<=30000000000:=by omega) (h2:(lim b).length<=30000000000:=by omega) (h3:(lim c).length<=30000000000:=by omega) (h4:(lim d).length<=30000000000:=by omega):Go.Ev.Fn CX 312 [spanV a b,spanV c d] (spanV (a-d) (b-c+1)):=by
 have m1:=fix_Less' (N:=a) (D:=d);have m2:=fix_Less' (N:=b) (D:=c);have l:=lim_len_mono (zY b c);have n1:=fix_Next (a:=b-c);generalize a-d=x at *
 generalize b-c=y at *
 refine fni Tryz.f312 ?_;unfold Tryz.f312;repeat (first|simp only[go_sem]|simp (disch:=first|exact omg|fail) only[AX]|refine wki ?_|refine vpd 1 [6,8,11,13,14] ?_|refine vfa ?_)
end Go.Proofs.YtfknkoeagjonbaaGreat
namespace Go.Proofs.YtfknkoeagjonbaaGreat
open Go.Ev
theorem pin_eq {α:Type} (n:Nat) (f:Nat->α):pin n f=f n:=by cases n<;>rfl
theorem lim_len_p2 {n w:Nat} (h:n<=2^w:=by omega) (hw:w<=1000:=by omega):(lim n).length<=40:=by
 have l:=lim_len_shl (a:=1) (n:=w);have l1:=lim_len1;rw[xe]at l;have:=lim_len_mono h;omega
theorem sqrt_ex (a:Nat) : ∃r,r*r<=a/\a<(r+1)*(r+1):=by
 induction a with
 |zero=>exact⟨0,by omega,by omega⟩
 |succ a ih=>
  obtain⟨r,h1,h2⟩:=ih;by_cases h:(r+1)*(r+1)<=a+1
  ·refine⟨r+1,h,?_⟩;have:(r+1+1)*(r+1+1)=(r+1)*(r+1)+(r+1)+(r+2):=by
    rw[xY,xZ];omega
   omega
  ·exact⟨r,by omega,by omega⟩
noncomputable def rtN (a:Nat):Nat:=(sqrt_ex a).choose
theorem rtN_le (a:Nat):rtN a*rtN a<=a:=(sqrt_ex a).choose_spec.1
theorem lt_rtN (a:Nat):a<(rtN a+1)*(rtN a+1):=(sqrt_ex a).choose_spec.2
theorem rtN_eq {a r:Nat} (h1:r*r<=a:=by omega) (h2:a<(r+1)*(r+1):=by omega):r=rtN a:=by
 have h3:=rtN_le a;have h4:=lt_rtN a;rcases Nat.lt_trichotomy r (rtN a) with h|h|h
 ·have:=xJ (show r+1<=rtN a from h) (show r+1<=rtN a from h);omega
 ·exact h
 ·have:=xJ (show rtN a+1<=r from h) (show rtN a+1<=r from h);omega
theorem rtN_self (a:Nat):rtN a<=a:=by
 have:=rtN_le a;rcases xl (rtN a) with h|h
 ·omega
 ·have:=zL (rtN a) h;omega
end Go.Proofs.YtfknkoeagjonbaaGreat
namespace Go.Proofs.YtfknkoeagjonbaaGreat
open Go.Ev
def rowGo (w y1 y2 a b:Nat):Nat->Nat->Nat->Nat->Nat->Nat->Option (Nat×Nat×Nat)
 |0,_,_,_,_,_=>none
 |f+1,k,t1,t2,a1,a2=>if b<=k/\t2<8 then some (a1,a2+64,k) else
  rowGo w y1 y2 a b f (k+1) (t1*y1/2^w*(a+b+2*k)/(a+2+2*k)) ((t2*y2/2^w+1)*(a+b+2*k)/(a+2+2*k)+1)
   (a1+t1*y1/2^w*(a+b+2*k)/(a+2+2*k)) (a2+((t2*y2/2^w+1)*(a+b+2*k)/(a+2+2*k)+1))
section
variable {P y1 y2 t1 t2 n m:Nat}
theorem up_half (hP:200<=P) (hy:2*y2<=P+2):100*(t2*y2/P)<=51*t2:=by
 have h1:=wk (t2*y2) P;have h2:=xF t2 hy;have h3:t2*200<=t2*P:=xF _ hP;have h4:100*(t2*y2/P)*P<=51*t2*P:=by
  have e1:100*(t2*y2/P)*P=100*(t2*y2/P*P):=by rw[xP]
  have e2:t2*(2*y2)=2*(t2*y2):=by rw[yn]
  have e3:t2*(P+2)=t2*P+2*t2:=by rw[xZ];omega
  have e4:51*t2*P=51*(t2*P):=by rw[xP]
  omega
 exact yw h4 (by omega)
theorem quo_le {v n m c d:Nat} (hm:0<m:=by omega) (h:d*n<=c*m:=by omega):d*(v*n/m)<=c*v:=by
 have h1:=wk (v*n) m;have h2:d*(v*n/m)*m<=c*v*m:=by
  have e1:d*(v*n/m)*m=d*(v*n/m*m):=by rw[xP]
  have e2:d*(v*n)=v*(d*n):=by rw[yn]
  have e3:c*v*m=v*(c*m):=by rw[xP,yn]
  have h3:=xF v h;have h4:=xF d h1;omega
 exact yw h2 hm
theorem quo_sub {v1 v2 n m:Nat} (h:v1<=v2) (hm:0<m):v2*n/m<=v1*n/m+(v2-v1)*n/m+1:=by
 have h1:=ym (v1*n) m;have h2:=ym ((v2-v1)*n) m;have m1:=yG (v1*n) hm;have m2:=yG ((v2-v1)*n) hm;have e:v2*n=v1*n+(v2-v1)*n:=by rw[<- xY];congr 1;omega
 have h3:v2*n<(v1*n/m+(v2-v1)*n/m+2)*m:=by
  rw[xY,xY,xV _ m,xV _ m];omega
 have:=(yA hm).2 h3;omega
end
section
variable {w y1 y2 a b:Nat}
theorem late_step {k t2:Nat} (hP:200<=2^w) (hy:2*y2<=2^w+2) (ha:1<=a) (hb:b<=22) (hk:200<=k) (ht:8<=t2:=by omega):5*((t2*y2/2^w+1)*(a+b+2*k)/(a+2+2*k)+1)<=4*t2:=by
 have h1:=up_half (t2:=t2) hP hy;have h2:=quo_le (v:=t2*y2/2^w+1) (n:=a+b+2*k) (m:=a+2+2*k) (c:=21) (d:=20);omega
theorem row_late (hP:200<=2^w) (hy:2*y2<=2^w+2) (ha:1<=a) (hb:b<=22) : ∀ (f k t1 t2 a1 a2:Nat),200<=k->4^f*t2<8*5^f -> ∃A B K,rowGo w y1 y2 a b (f+1) k t1 t2 a1 a2=some (A,B,K)/\K<=k+f:=by
 intro f;induction f with
 |zero=>
  intro k t1 t2 a1 a2 hk h;refine⟨a1,a2+64,k,?_,by omega⟩;rw[rowGo,if_pos ⟨by omega,by omega⟩]
 |succ f ih=>
  intro k t1 t2 a1 a2 hk h;rw[rowGo];by_cases hs:b<=k/\t2<8
  ·rw[if_pos hs];exact⟨_,_,_,rfl,by omega⟩
  ·rw[if_neg hs];have h1:=late_step (k:=k) (t2:=t2) hP hy ha hb hk;obtain⟨A,B,K,g1,g2⟩:=ih (k+1) (t1*y1/2^w*(a+b+2*k)/(a+2+2*k)) ((t2*y2/2^w+1)*(a+b+2*k)/(a+2+2*k)+1) (a1+t1*y1/2^w*(a+b+2*k)/(a+2+2*k)) (a2+((t2*y2/2^w+1)*(a+b+2*k)/(a+2+2*k)+1)) (by omega) (by
    rw[xW,xW]at h;generalize (t2*y2/2^w+1)*(a+b+2*k)/(a+2+2*k)+1=u at *
    have h2:=xF (4^f) h1;have e1:4^f*(5*u)=5*(4^f*u):=yn _ _ _;have e2:4^f*(4*t2)=4^f*4*t2:=by rw[xP]
    omega)
   exact⟨A,B,K,g1,by omega⟩
theorem early_up {k t2 T:Nat} (hP:200<=2^w) (hy:2*y2<=2^w+2) (ha:1<=a) (hb:b<=22) (ht:t2<=T) (hT:200<=T):(t2*y2/2^w+1)*(a+b+2*k)/(a+2+2*k)+1<=4*T:=by
 have h1:=up_half (t2:=t2) hP hy;have h2:=quo_le (v:=t2*y2/2^w+1) (n:=a+b+2*k) (m:=a+2+2*k) (c:=23) (d:=3);omega
theorem mid_up {k t2 T:Nat} (hP:200<=2^w) (hy:2*y2<=2^w+2) (ha:1<=a) (hk:b<=k) (ht:t2<=T) (hT:200<=T):(t2*y2/2^w+1)*(a+b+2*k)/(a+2+2*k)+1<=T:=by
 have h1:=up_half (t2:=t2) hP hy;have h2:=quo_le (v:=t2*y2/2^w+1) (n:=a+b+2*k) (m:=a+2+2*k) (c:=3) (d:=2);omega
theorem gap_step {k t1 t2 C:Nat} (hP:200<=2^w) (hy12:y2=y1+1) (hy1:2*y1<=2^w) (ht:t1<=t2) (hC:t2<=C*2^w):t2*y2/2^w+1<=t1*y1/2^w+((t2-t1)/2+C+4):=by
 subst hy12;generalize 2^w=P at *
 have e:t2*(y1+1)=t1*y1+((t2-t1)*y1+t2):=by
  have:t2*y1=t1*y1+(t2-t1)*y1:=by rw[<- xY];congr 1;omega
  rw[xZ];omega
 have d1:=ym (t1*y1) P;have d2:=yG (t1*y1) (show 0<P by omega);have h1:(t2-t1)*y1<=((t2-t1)/2+1)*P:=by
  have h3:=xJ (show t2-t1<=2*((t2-t1)/2+1) by omega) (xU y1);have h4:=xF ((t2-t1)/2+1) hy1;have e5:2*((t2-t1)/2+1)*y1=((t2-t1)/2+1)*(2*y1):=by rw[xV 2,xP]
  omega
 have h2:t2*(y1+1)<(t1*y1/P+((t2-t1)/2+C+3))*P:=by
  have e6:(t1*y1/P+((t2-t1)/2+C+3))*P=P*(t1*y1/P)+((t2-t1)/2+1)*P+C*P+2*P:=by
   have:(t2-t1)/2+C+3=((t2-t1)/2+1)+C+2:=by omega
   rw[this];simp only[xY];rw[xV _ P];omega
  omega
 have:=(yA (show 0<P by omega)).2 h2;omega
theorem gap_quo {k v1 v2 D:Nat} (hv:v1<=v2) (hm:0<a+2+2*k) {c d:Nat} (hd:0<d) (h:d*(a+b+2*k)<=c*(a+2+2*k)) (hD:v2<=v1+D):d*(v2*(a+b+2*k)/(a+2+2*k)+1)<=d*(v1*(a+b+2*k)/(a+2+2*k))+c*D+2*d:=by
 have h1:=quo_sub (n:=a+b+2*k) (m:=a+2+2*k) hv hm;have h2:=quo_le (v:=v2-v1) hm h;have h3:c*(v2-v1)<=c*D:=xF _ (by omega);generalize v2*(a+b+2*k)/(a+2+2*k)=q2 at *
 generalize v1*(a+b+2*k)/(a+2+2*k)=q1 at *
 generalize (v2-v1)*(a+b+2*k)/(a+2+2*k)=q3 at *
 have h4:=xF d h1;have e1:d*(q1+q3+1)=d*q1+d*q3+d:=by rw[xZ,xZ,xu]
 have e2:d*(q2+1)=d*q2+d:=by rw[xZ,xu]
 omega
def okT (w k t1 t2 a1 a2 T D:Nat):Prop:=t1<=t2/\a1<=a2/\t2<=T/\t2<=t1+D/\a2<=a1+k*D+D/\a2<=(k+1)*T
theorem okT_early {k t1 t2 a1 a2 T D C:Nat} (hP:200<=2^w) (hy12:y2=y1+1) (hy1:2*y1<=2^w) (ha:1<=a) (hb:b<=22) (hT:200<=T) (hC:T<=C*2^w) (hD:46*C+200<=D) (h:okT w k t1 t2 a1 a2 T D) :
  okT w (k+1) (t1*y1/2^w*(a+b+2*k)/(a+2+2*k)) ((t2*y2/2^w+1)*(a+b+2*k)/(a+2+2*k)+1)
   (a1+t1*y1/2^w*(a+b+2*k)/(a+2+2*k)) (a2+((t2*y2/2^w+1)*(a+b+2*k)/(a+2+2*k)+1)) (4*T) (4*D):=by
 obtain⟨h1,h2,h3,h4,h5,h6⟩:=h;have u:=early_up (k:=k) hP (show 2*y2<=2^w+2 by omega) ha hb h3 hT;have g:=gap_step (k:=k) hP hy12 hy1 h1 (xG h3 hC);have v12:t1*y1/2^w<=t2*y2/2^w+1:=yZ (xg (xJ h1 (by omega)));have q:=gap_quo (a:=a) (b:=b) (k:=k) (c:=23) (d:=3) v12 (by omega) (by omega) (by omega) g;have q0:t1*y1/2^w*(a+b+2*k)/(a+2+2*k)<=(t2*y2/2^w+1)*(a+b+2*k)/(a+2+2*k):=xg (xB _ v12);generalize t1*y1/2^w*(a+b+2*k)/(a+2+2*k)=u1 at *
 generalize (t2*y2/2^w+1)*(a+b+2*k)/(a+2+2*k)=u2 at *
 have e1:(k+1)*(4*D)=4*(k*D)+4*D:=by rw[xY,yn];omega
 have e2:(k+1+1)*(4*T)=4*((k+1)*T)+4*T:=by rw[xY,yn];omega
 have e3:(k+1)*T=k*T+T:=by rw[xY];omega
 refine⟨?_,?_,?_,?_,?_,?_⟩<;>omega
theorem okT_mid {k t1 t2 a1 a2 T D C:Nat} (hP:200<=2^w) (hy12:y2=y1+1) (hy1:2*y1<=2^w) (ha:1<=a) (hk:b<=k) (hT:200<=T) (hC:T<=C*2^w) (hD:46*C+200<=D) (h:okT w k t1 t2 a1 a2 T D) :
  okT w (k+1) (t1*y1/2^w*(a+b+2*k)/(a+2+2*k)) ((t2*y2/2^w+1)*(a+b+2*k)/(a+2+2*k)+1)
   (a1+t1*y1/2^w*(a+b+2*k)/(a+2+2*k)) (a2+((t2*y2/2^w+1)*(a+b+2*k)/(a+2+2*k)+1)) T D:=by
 obtain⟨h1,h2,h3,h4,h5,h6⟩:=h;have u:=mid_up (k:=k) hP (show 2*y2<=2^w+2 by omega) ha hk h3 hT;have g:=gap_step (k:=k) hP hy12 hy1 h1 (xG h3 hC);have v12:t1*y1/2^w<=t2*y2/2^w+1:=yZ (xg (xJ h1 (by omega)));have q:=gap_quo (a:=a) (b:=b) (k:=k) (c:=3) (d:=2) v12 (by omega) (by omega) (by omega) g;have q0:t1*y1/2^w*(a+b+2*k)/(a+2+2*k)<=(t2*y2/2^w+1)*(a+b+2*k)/(a+2+2*k):=xg (xB _ v12);generalize t1*y1/2^w*(a+b+2*k)/(a+2+2*k)=u1 at *
 generalize (t2*y2/2^w+1)*(a+b+2*k)/(a+2+2*k)=u2 at *
 have e1:(k+1)*D=k*D+D:=by rw[xY];omega
 have e2:(k+1+1)*T=(k+1)*T+T:=by rw[xY];omega
 refine⟨?_,?_,?_,?_,?_,?_⟩<;>omega
theorem row_mid {C T D:Nat} (hP:200<=2^w) (hy12:y2=y1+1) (hy1:2*y1<=2^w) (ha:1<=a) (hb:b<=22) (hT:200<=T) (hC:T<=C*2^w) (hD:46*C+200<=D) {F:Nat} (hF:4^F*T<8*5^F) :
  ∀ (g k t1 t2 a1 a2:Nat),b<=k->g+k=200->okT w k t1 t2 a1 a2 T D -> ∃A B K,rowGo w y1 y2 a b (g+F+1) k t1 t2 a1 a2=some (A,B,K):=by
 intro g;induction g with
 |zero=>
  intro k t1 t2 a1 a2 hk hg h;obtain⟨A,B,K,e,-⟩:=row_late hP (show 2*y2<=2^w+2 by omega) ha hb F k t1 t2 a1 a2 (by omega) (yX (xF _ h.2.2.1) hF);exact⟨A,B,K,by rw[yf];exact e⟩
 |succ g ih=>
  intro k t1 t2 a1 a2 hk hg h;rw[show g+1+F+1=(g+F+1)+1 by omega,rowGo];by_cases hs:b<=k/\t2<8
  ·rw[if_pos hs];exact⟨_,_,_,rfl⟩
  ·rw[if_neg hs];exact ih _ _ _ _ _ (by omega) (by omega) (okT_mid hP hy12 hy1 ha hk hT hC hD h)
theorem row_early {C F:Nat} (hP:200<=2^w) (hy12:y2=y1+1) (hy1:2*y1<=2^w) (ha:1<=a) (hb:b<=22) :
  ∀ (g k t1 t2 a1 a2 T D:Nat),k+g=b->200<=T->4^g*T<=C*2^w->46*C+200<=D->4^F*(4^g*T)<8*5^F->okT w k t1 t2 a1 a2 T D -> ∃A B K,rowGo w y1 y2 a b (200+F+1-k) k t1 t2 a1 a2=some (A,B,K):=by
 intro g;induction g with
 |zero=>
  intro k t1 t2 a1 a2 T D hk hT hC hD hF h;rw[yk,xe]at hC hF;have:=row_mid hP hy12 hy1 ha hb hT hC hD hF (200-k) k t1 t2 a1 a2 (by omega) (by omega) h;rw[show 200-k+F+1=200+F+1-k by omega]at this;exact this
 |succ g ih=>
  intro k t1 t2 a1 a2 T D hk hT hC hD hF h;rw[show 200+F+1-k=(200+F+1-(k+1))+1 by omega,rowGo,if_neg (by omega)];have hp:1<=4^(g+1):=xM (by omega);have hTC:T<=C*2^w:=xG (zL T hp) hC;have hp2:4^g*(4*T)=4^(g+1)*T:=by rw[xW,xP]
  exact ih (k+1) _ _ _ _ (4*T) (4*D) (by omega) (by omega) (by rw[hp2];exact hC) (by omega) (by rw[hp2];exact hF) (okT_early hP hy12 hy1 ha hb hT hTC hD h)
end
end Go.Proofs.YtfknkoeagjonbaaGreat
namespace Go.Proofs.YtfknkoeagjonbaaGreat
open Go.Ev
section
variable {w y1 y2 a b T D C:Nat}
def okK (w b T D k t1 t2 a1 a2:Nat):Prop:=okT w k t1 t2 a1 a2 (4^min k b*T) (4^min k b*D)
theorem four_le {k b T:Nat}:T<=4^min k b*T/\4^min k b*T<=4^b*T:=
 ⟨zL T (xM (by omega)),xB T (xE (by omega) (Nat.min_le_right k b))⟩
theorem okK_step {k t1 t2 a1 a2:Nat} (hP:200<=2^w) (hy12:y2=y1+1) (hy1:2*y1<=2^w) (ha:1<=a) (hb:b<=22) (hT:200<=T) (hC:4^b*T<=C*2^w) (hD:46*C+200<=D) (h:okK w b T D k t1 t2 a1 a2) :
  okK w b T D (k+1) (t1*y1/2^w*(a+b+2*k)/(a+2+2*k)) ((t2*y2/2^w+1)*(a+b+2*k)/(a+2+2*k)+1)
   (a1+t1*y1/2^w*(a+b+2*k)/(a+2+2*k)) (a2+((t2*y2/2^w+1)*(a+b+2*k)/(a+2+2*k)+1)):=by
 have f1:=four_le (k:=k) (b:=b) (T:=T);have f2:=four_le (k:=k) (b:=b) (T:=D);unfold okK at h ⊢;by_cases hk:b<=k
 ·rw[Nat.min_eq_right (show b<=k+1 by omega)];rw[Nat.min_eq_right hk]at h f1 f2;exact okT_mid hP hy12 hy1 ha hk (by omega) hC (by omega) h
 ·rw[yO (show k+1<=b by omega),show 4^(k+1)*T=4*(4^k*T) by rw[xW,xV (4^k) 4,xP],show 4^(k+1)*D=4*(4^k*D) by rw[xW,xV (4^k) 4,xP]];rw[yO (show k<=b by omega)]at h f1 f2;exact okT_early hP hy12 hy1 ha hb (by omega) (xG f1.2 hC) (by omega) h
theorem row_inv (hP:200<=2^w) (hy12:y2=y1+1) (hy1:2*y1<=2^w) (ha:1<=a) (hb:b<=22) (hT:200<=T) (hC:4^b*T<=C*2^w) (hD:46*C+200<=D) :
  ∀ (f k t1 t2 a1 a2:Nat) {A B K:Nat},rowGo w y1 y2 a b f k t1 t2 a1 a2=some (A,B,K)->okK w b T D k t1 t2 a1 a2->K<k+f/\A<=B/\B<=A+(K+1)*(4^b*D)+64/\B<=(K+1)*(4^b*T)+64:=by
 intro f;induction f with
 |zero=>intro k t1 t2 a1 a2 A B K h;simp only[rowGo]at h;cases h
 |succ f ih=>
  intro k t1 t2 a1 a2 A B K h ho;rw[rowGo]at h;by_cases hs:b<=k/\t2<8
  ·rw[if_pos hs]at h;simp only[Option.some.injEq,Prod.mk.injEq]at h;obtain⟨rfl,rfl,rfl⟩:=h;obtain⟨h1,h2,h3,h4,h5,h6⟩:=ho;rw[Nat.min_eq_right hs.1]at h5 h6;rw[xY,xe];rw[xY,xe]at h6;rw[xY,xe];omega
  ·rw[if_neg hs]at h;have:=ih _ _ _ _ _ h (okK_step hP hy12 hy1 ha hb hT hC hD ho);omega
def rR (x:Rat) (a b:Nat):Nat->Rat
 |0=>1
 |k+1=>rR x a b k*x*((a+b+2*k:Nat):Rat)/((a+2+2*k:Nat):Rat)
def sR (x:Rat) (a b:Nat):Nat->Rat
 |0=>1
 |k+1=>sR x a b k+rR x a b (k+1)
theorem row_enc {x c:Rat} (hx:Enc w y1 y2 x) : ∀ (f k t1 t2 a1 a2:Nat) {A B K:Nat},rowGo w y1 y2 a b f k t1 t2 a1 a2=some (A,B,K)->Enc w t1 t2 (c*rR x a b k)->Enc w a1 a2 (c*sR x a b k) ->
  b<=K/\(A:Rat)<=c*sR x a b K*p2 w/\c*sR x a b K*p2 w+64<=(B:Rat)/\c*rR x a b K*p2 w<=8:=by
 intro f;induction f with
 |zero=>intro k t1 t2 a1 a2 A B K h;simp only[rowGo]at h;cases h
 |succ f ih=>
  intro k t1 t2 a1 a2 A B K h ht ha;rw[rowGo]at h;by_cases hs:b<=k/\t2<8
  ·rw[if_pos hs]at h;simp only[Option.some.injEq,Prod.mk.injEq]at h;obtain⟨rfl,rfl,rfl⟩:=h;refine⟨hs.1,ha.1,?_,?_⟩
   ·have h1:=ha.2;have h2:((a2+64:Nat):Rat)=(a2:Rat)+64:=by exact_mod_cast rfl
    rw[h2];grind
   ·have h1:=ht.2;have h2:(t2:Rat)<=((8:Nat):Rat):=(show ((t2:Nat):Rat)<=((8:Nat):Rat) by exact_mod_cast (show t2<=8 by omega))
    exact xO h1 h2
  ·rw[if_neg hs]at h;have m:=enc_times (n:=a+b+2*k) (d:=a+2+2*k) (by omega) (enc_mul ht hx);have e:c*rR x a b k*x*((a+b+2*k:Nat):Rat)/((a+2+2*k:Nat):Rat)=c*rR x a b (k+1):=by
    show _=c*(rR x a b k*x*((a+b+2*k:Nat):Rat)/((a+2+2*k:Nat):Rat))
    rw[xv,xv];grind
   rw[e]at m;have s:=enc_add ha m;have e2:c*sR x a b k+c*rR x a b (k+1)=c*sR x a b (k+1):=by
    show _=c*(sR x a b k+rR x a b (k+1))
    grind
   rw[e2]at s;exact ih _ _ _ _ _ h m s
end
def pwR (q:Rat):Nat->Rat
 |0=>1
 |n+1=>pwR q n*q
theorem pwR_two (q:Rat) (n:Nat):pwR (q*q) n=pwR q (2*n):=by
 induction n with
 |zero=>rfl
 |succ n ih=>
  show pwR (q*q) n*(q*q)=pwR q (2*n)*q*q;rw[ih];grind
def powGo (w:Nat):Nat->Nat->Nat->Nat->Nat->Nat->Nat×Nat
 |0,_,l1,l2,_,_=>(l1,l2)
 |f+1,n,l1,l2,a1,a2=>if n=0 then (l1,l2) else
  if n%2=1 then powGo w f (n/2) (l1*a1/2^w) (l2*a2/2^w+1) (a1*a1/2^w) (a2*a2/2^w+1)
  else powGo w f (n/2) l1 l2 (a1*a1/2^w) (a2*a2/2^w+1)
theorem powGo_zero (w f l1 l2 a1 a2:Nat):powGo w f 0 l1 l2 a1 a2=(l1,l2):=by cases f<;>rfl
theorem powGo_enc {w:Nat} : ∀ (f n l1 l2 a1 a2:Nat) {p q:Rat},n<2^f->Enc w l1 l2 p->Enc w a1 a2 q->Enc w (powGo w f n l1 l2 a1 a2).1 (powGo w f n l1 l2 a1 a2).2 (p*pwR q n):=by
 intro f;induction f with
 |zero=>
  intro n l1 l2 a1 a2 p q hn hl ha;obtain rfl:n=0:=by omega
  rw[powGo_zero];show Enc w l1 l2 (p*1);rw[yr];exact hl
 |succ f ih=>
  intro n l1 l2 a1 a2 p q hn hl ha;rw[xW]at hn;rw[powGo];by_cases h0:n=0
  ·subst h0;rw[if_pos rfl];show Enc w l1 l2 (p*1);rw[yr];exact hl
  ·rw[if_neg h0];by_cases h1:n%2=1
   ·rw[if_pos h1];have:=ih (n/2) _ _ _ _ (by omega) (enc_mul hl ha) (enc_mul ha ha);rw[pwR_two]at this;have e:pwR q n=pwR q (2*(n/2))*q:=by
     conv=>lhs;rw[show n=2*(n/2)+1 by omega]
     rfl
    rw[e];have e2:p*q*pwR q (2*(n/2))=p*(pwR q (2*(n/2))*q):=by grind
    rw[e2]at this;exact this
   ·rw[if_neg h1];have:=ih (n/2) _ _ _ _ (by omega) hl (enc_mul ha ha);rw[pwR_two,show 2*(n/2)=n by omega]at this;exact this
def okS (P a b e:Nat):Prop:=a<=b/\b<=a+e/\b<=P+e
theorem okS_mul {P a b c d e g:Nat} (hP:1000000<=P) (he:e<=1000) (hg:g<=1000) (h:okS P a b e) (h2:okS P c d g):okS P (a*c/P) (b*d/P+1) (2*(e+g)+2):=by
 obtain⟨h1,h3,h4⟩:=h;obtain⟨k1,k3,k4⟩:=h2;have hP0:0<P:=by omega
 have m1:=xJ h1 k1;refine⟨yZ (xg m1),?_,?_⟩
 ·-- the gap
  have d1:=ym (a*c) P;have d2:=yG (a*c) hP0;have e1:b*d<=a*c+(e*d+b*g):=by
   have x1:b*d<=(a+e)*d:=xB d h3;have x2:a*d<=a*(c+g):=xF a k3;have x3:a*g<=b*g:=xB g h1;rw[xY]at x1;rw[xZ]at x2;omega
  have e2:e*d<=e*(2*P):=xF e (by omega);have e3:b*g<=2*P*g:=xB g (by omega);have e4:b*d<(a*c/P+(2*(e+g)+2))*P:=by
   have y1:(a*c/P+(2*(e+g)+2))*P=P*(a*c/P)+(e*(2*P)+2*P*g+2*P):=by
    rw[xY,xV _ P];congr 1;grind
   omega
  have:=(yA hP0).2 e4;omega
 ·have e1:b*d<=(P+e)*(P+g):=xJ h4 k4;have e2:(P+e)*(P+g)=P*P+(e+g)*P+e*g:=by grind
  have e3:e*g<=1000*1000:=xJ he hg;have e4:b*d<(P+(e+g)+2)*P:=by
   have:(P+(e+g)+2)*P=P*P+(e+g)*P+2*P:=by rw[xY,xY]
   omega
  have:=(yA hP0).2 e4;omega
theorem okS_mono {P a b e g:Nat} (h:okS P a b e) (hg:e<=g:=by omega):okS P a b g:=⟨h.1,xG h.2.1 (by omega),xG h.2.2 (by omega)⟩
theorem powGo_ok {w:Nat} (hP:1000000<=2^w) : ∀ (f n l1 l2 a1 a2 E:Nat),(E+1)*4^f<=512->okS (2^w) l1 l2 E->okS (2^w) a1 a2 E->okS (2^w) (powGo w f n l1 l2 a1 a2).1 (powGo w f n l1 l2 a1 a2).2 511:=by
 intro f;induction f with
 |zero=>
  intro n l1 l2 a1 a2 E hE hl ha;rw[yk]at hE;exact okS_mono hl
 |succ f ih=>
  intro n l1 l2 a1 a2 E hE hl ha;have hp:1<=4^f:=xM (by omega);rw[xW]at hE;have hE2:(4*E+2+1)*4^f<=512:=xG (xB _ (show 4*E+2+1<=(E+1)*4 by omega)) (by rw[xP,xV 4];exact hE);have hE1:E<=1000:=by
   have:=yg (E+1) (show 0<4^f*4 by omega);omega
  have sq:=okS_mul hP hE1 hE1 ha ha;have ml:=okS_mul hP hE1 hE1 hl ha;rw[show 2*(E+E)+2=4*E+2 by omega]at sq ml;rw[powGo];by_cases h0:n=0
  ·rw[if_pos h0];exact okS_mono hl (by have:=yg (E+1) (show 0<4^f*4 by omega);omega)
  ·rw[if_neg h0];by_cases h1:n%2=1
   ·rw[if_pos h1];exact ih _ _ _ _ _ _ hE2 ml sq
   ·rw[if_neg h1];exact ih _ _ _ _ _ _ hE2 (okS_mono hl) sq
end Go.Proofs.YtfknkoeagjonbaaGreat
namespace Go.Proofs.YtfknkoeagjonbaaGreat
open Go.Ev
section
variable {x:Rat} {a b:Nat}
theorem rR_step (k:Nat):rR x a b (k+1)*((a+2+2*k:Nat):Rat)=rR x a b k*x*((a+b+2*k:Nat):Rat):=by
 have M:(0:Rat)<((a+2+2*k:Nat):Rat):=by exact_mod_cast (show 0<a+2+2*k by omega)
 show rR x a b k*x*((a+b+2*k:Nat):Rat)/((a+2+2*k:Nat):Rat)*_=_;exact yD (by grind)
theorem rR_nn (h:0<=x) : ∀k,0<=rR x a b k:=by
 intro k;induction k with
 |zero=>show (0:Rat)<=1;decide
 |succ k ih=>
  have M:(0:Rat)<((a+2+2*k:Nat):Rat):=by exact_mod_cast (show 0<a+2+2*k by omega)
  have e:=rR_step (x:=x) (a:=a) (b:=b) k;refine le_by M ?_;rw[e,yM];exact xL (xL ih h) (nat_nonneg _)
theorem rR_fall (h:0<=x) (h1:x+x<=1) {k:Nat} (hk:b<=k):4*rR x a b (k+1)<=3*rR x a b k:=by
 have M:(0:Rat)<((a+2+2*k:Nat):Rat):=by exact_mod_cast (show 0<a+2+2*k by omega)
 have e:=rR_step (x:=x) (a:=a) (b:=b) k;have r0:=rR_nn (a:=a) (b:=b) h k;have hn:((2*(a+b+2*k):Nat):Rat)<=((3*(a+2+2*k):Nat):Rat):=by exact_mod_cast (show 2*(a+b+2*k)<=3*(a+2+2*k) by omega)
 have c1:((2*(a+b+2*k):Nat):Rat)=2*((a+b+2*k:Nat):Rat):=by exact_mod_cast rfl
 have c2:((3*(a+2+2*k):Nat):Rat)=3*((a+2+2*k:Nat):Rat):=by exact_mod_cast rfl
 rw[c1,c2]at hn;have n0:=nat_nonneg (a+b+2*k);generalize ((a+2+2*k:Nat):Rat)=m at *
 generalize ((a+b+2*k:Nat):Rat)=n at *
 generalize rR x a b (k+1)=r' at *
 generalize rR x a b k=r at *
 refine le_by M ?_;have k1:r*(n*(x+x))<=r*(n*1):=xI (xI h1 n0) r0;have k2:r*(2*n)<=r*(3*m):=xI hn r0;have e1:4*r'*m=2*(r*(n*(x+x))):=by
  have:4*r'*m=4*(r'*m):=by grind
  rw[this,e];grind
 rw[e1];grind
theorem sR_up (h:0<=x) {k m:Nat} (hkm:k<=m):sR x a b k<=sR x a b m:=by
 obtain⟨j,rfl⟩:=wX hkm;clear hkm;induction j with
 |zero=>exact xi
 |succ j ih=>
  have:=rR_nn (a:=a) (b:=b) h (k+j+1);show sR x a b k<=sR x a b (k+j)+rR x a b (k+j+1);grind
theorem sR_rest (h:0<=x) (h1:x+x<=1) {k m:Nat} (hk:b<=k) (hkm:k<=m):sR x a b m+3*rR x a b m<=sR x a b k+3*rR x a b k:=by
 obtain⟨j,rfl⟩:=wX hkm;clear hkm;induction j with
 |zero=>exact xi
 |succ j ih=>
  have:=rR_fall (a:=a) h h1 (k:=k+j) (show b<=k+j by omega);show sR x a b (k+j)+rR x a b (k+j+1)+3*rR x a b (k+j+1)<=_;grind
theorem sR_top (h:0<=x) (h1:x+x<=1) {k m:Nat} (hk:b<=k:=by omega):sR x a b m<=sR x a b k+3*rR x a b k:=by
 rcases Nat.le_total m k with g|g
 ·have:=sR_up (a:=a) (b:=b) h g;have:=rR_nn (a:=a) (b:=b) h k;grind
 ·have:=sR_rest (a:=a) h h1 hk g;have:=rR_nn (a:=a) (b:=b) h m;grind
end
end Go.Proofs.YtfknkoeagjonbaaGreat
namespace Go.Ev
def prodN (a by':Nat):Nat->Nat
 |0=>1
 |c+1=>prodN a by' c*(a+c*by')
theorem prodN_pos {a b:Nat} (ha:0<a) : ∀c,0<prodN a b c:=by
 intro c;induction c with
 |zero=>exact Nat.one_pos
 |succ c ih=>exact zI ih (by omega)
theorem prodN_len {a b c:Nat} (h : ∀i,i<c->a+i*b<4294967296):(lim (prodN a b c)).length<=c+1:=by
 induction c with
 |zero=>exact lim_len_one (show 1<4294967296 by decide)
 |succ c ih=>
  have h1:=ih fun i hi=>h i (by omega)
  have h2:=lim_len_mul (a:=prodN a b c) (b:=a+c*b);have h3:=lim_len_one (h c (by omega));show (lim (prodN a b c*(a+c*b))).length<=_;omega
theorem prodN_front (a b:Nat) : ∀c,prodN a b (c+1)=a*prodN (a+b) b c:=by
 intro c;induction c with
 |zero=>simp[prodN]
 |succ c ih=>
  show prodN a b (c+1)*(a+(c+1)*b)=a*(prodN (a+b) b c*(a+b+c*b))
  rw[ih,xP,xY c 1 b,xe,wK (c*b) b,<- zX]
def gam2 (n:Nat):Rat:=if n%2=0 then (prodN 2 1 (n/2-2):Nat) else mkRat (prodN 3 2 ((n-3)/2):Nat) (2^(n/2))
def cc:Nat->Nat->Nat
 |0,_=>1
 |_+1,0=>1
 |m+1,k+1=>cc m (k+1)+cc (m+1) k
theorem cc_zero (m:Nat):cc m 0=1:=by cases m<;>simp[cc]
theorem cc_succ (m k:Nat):cc (m+1) (k+1)=cc m (k+1)+cc (m+1) k:=by rw[cc]
theorem cc_symm : ∀m k,cc m k=cc k m:=by
 intro m;induction m with
 |zero=>intro k;rw[cc_zero];simp[cc]
 |succ m ih=>
  intro k;induction k with
  |zero=>rw[cc_zero];simp[cc]
  |succ k ihk=>
   rw[cc_succ,cc_succ,ih (k+1),ihk,wK]
def facN (k:Nat):Nat:=prodN 1 1 k
theorem facN_succ (k:Nat):facN (k+1)=facN k*(k+1):=by
 show prodN 1 1 k*(1+k*1)=_;rw[xu,wK 1 k];rfl
theorem facN_pos (k:Nat):0<facN k:=prodN_pos (by decide) k
theorem facN_two (k:Nat):prodN 2 1 (k-1)=facN k:=by
 cases k with
 |zero=>rfl
 |succ k=>
  rw[wV];show _=prodN 1 1 (k+1);rw[prodN_front 1 1 k,xe]
theorem prod_cc : ∀m k,prodN (m+1) 1 k=cc m k*facN k:=by
 intro m;induction m with
 |zero=>intro k;simp[cc,facN]
 |succ m ih=>
  intro k;induction k with
  |zero=>rw[cc_zero];rfl
  |succ k ihk=>
   have h1:=ih (k+1);have h2:=prodN_front (m+1) 1 k;rw[cc_succ,xY,<- h1,h2,facN_succ,<- xP,<- ihk];show prodN (m+1+1) 1 k*(m+1+1+k*1)=_;rw[xV (m+1),<- xZ];congr 1;omega
theorem cc_step (m k:Nat):cc m (k+1)*(k+1)=cc m k*(m+(k+1)):=by
 have h1:=prod_cc m (k+1);have h2:=prod_cc m k;have h3:prodN (m+1) 1 (k+1)=prodN (m+1) 1 k*(m+1+k*1):=rfl;rw[h3,h2,facN_succ]at h1;have h4:=facN_pos k;refine Nat.eq_of_mul_eq_mul_right h4 ?_;rw[xP,xV (k+1),<- h1,wL];congr 1;congr 1;omega
theorem cc_le {m k:Nat}:cc m k<=prodN (m+1) 1 k:=by
 rw[prod_cc];exact yg _ (facN_pos k)
def chR (n k:Int):Nat:=if 0<=n/\n<=512/\0<=k/\k<=n then cc (n-k).toNat k.toNat else 0
theorem gam2_pos {n:Nat}:gam2 n≠0:=by
 unfold gam2;split
 ·have:=prodN_pos (a:=2) (b:=1) (by decide) (n/2-2);intro h;have h2:prodN 2 1 (n/2-2)=0:=by exact_mod_cast h
  omega
 ·have:=prodN_pos (a:=3) (b:=2) (by decide) ((n-3)/2);intro h;rw[Rat.mkRat_eq_zero (Nat.ne_of_gt (xM (by decide)))]at h;omega
def beta2 (a b:Nat):Rat:=gam2 a*gam2 b/gam2 (a+b)
end Go.Ev
namespace Go.Ev
def termN (p f n j:Nat):Nat:=cc (n-j) j*p^j*f^(n-j)
theorem cc_move (m j:Nat):cc (m+1) j*(m+1)=cc m (j+1)*(j+1):=by
 rw[cc_step,cc_symm (m+1) j,cc_step,cc_symm j m];congr 1;omega
theorem ways_step {p n j:Nat} (h:j<n:=by omega):cc (n-j) j*p^j*p*(n-j)/(j+1)=cc (n-(j+1)) (j+1)*p^(j+1):=by
 obtain⟨m,hm⟩ : ∃m,n-j=m+1:=⟨n-j-1,by omega⟩
 rw[hm,show n-(j+1)=m by omega];have h1:=cc_move m j;have e:cc (m+1) j*p^j*p*(m+1)=cc m (j+1)*p^(j+1)*(j+1):=by
  rw[xP (cc (m+1) j),<- xW,wL,h1,wL]
 rw[e,Nat.mul_div_cancel _ (by omega)]
end Go.Ev
namespace Go.Ev
theorem unit_num {x:Rat} (h0:0<=x) (h1:x<=1):x.num.natAbs<=x.den/\(x.num.natAbs:Int)=x.num:=by
 have h2:=zP.2 h0;have h3:=(Rat.le_iff x 1).1 h1;rw[show (1:Rat).den=1 from rfl,show (1:Rat).num=1 from rfl]at h3;omega
theorem den_pos (x:Rat) (n:Nat):0<x.den^n:=xM (Nat.pos_of_ne_zero x.den_nz)
end Go.Ev
namespace Go.Proofs.YtfknkoeagjonbaaGreat
open Go.Ev
def trm (x y:Rat) (n i:Nat):Rat:=((cc (n-i) i:Nat):Rat)*pwR x (n-i)*pwR y i
def sS (x y:Rat) (n:Nat):Nat->Rat
 |0=>0
 |j+1=>sS x y n j+trm x y n j
theorem pwR_nn {q:Rat} (h:0<=q) : ∀n,0<=pwR q n
 |0=>by show (0:Rat)<=1;decide
 |n+1=>xL (pwR_nn h n) h
theorem cm (a b:Nat):((a*b:Nat):Rat)=(a:Rat)*(b:Rat):=by exact_mod_cast rfl
section
variable {x y:Rat} {B:Nat}
end
end Go.Proofs.YtfknkoeagjonbaaGreat
namespace Go.Proofs.YtfknkoeagjonbaaGreat
open Go.Ev
def In1 (x:Rat):Prop:=0<=x/\x<=1
def Bd (F:Rat->Rat->Rat):Prop := ∃C:Rat,0<=C /\ ∀x y,In1 x->In1 y -> -C<=F x y/\F x y<=C
theorem mul_held {a b C D:Rat} (h1 : -C<=a) (h2:a<=C) (h3 : -D<=b) (h4:b<=D) : -(C*D)<=a*b/\a*b<=C*D:=by
 have m1:=xL (show 0<=C-a by grind) (show 0<=D-b by grind);have m2:=xL (show 0<=C+a by grind) (show 0<=D+b by grind);have m3:=xL (show 0<=C-a by grind) (show 0<=D+b by grind);have m4:=xL (show 0<=C+a by grind) (show 0<=D-b by grind);constructor<;>grind
theorem bd_const (c:Rat):Bd (fun _ _=>c):=by
 refine⟨if 0<=c then c else -c,by split<;>grind,fun x y _ _ => ?_⟩;split<;>constructor<;>grind
theorem bd_add {F G:Rat->Rat->Rat} (h:Bd F) (g:Bd G):Bd (fun x y=>F x y+G x y):=by
 obtain⟨C,c0,c1⟩:=h;obtain⟨D,d0,d1⟩:=g;refine⟨C+D,by grind,fun x y hx hy => ?_⟩;have:=c1 x y hx hy;have:=d1 x y hx hy;constructor<;>grind
theorem bd_mul {F G:Rat->Rat->Rat} (h:Bd F) (g:Bd G):Bd (fun x y=>F x y*G x y):=by
 obtain⟨C,c0,c1⟩:=h;obtain⟨D,d0,d1⟩:=g;refine⟨C*D,xL c0 d0,fun x y hx hy => ?_⟩;have a:=c1 x y hx hy;have b:=d1 x y hx hy;exact mul_held a.1 a.2 b.1 b.2
theorem bd_dist:Bd (fun x y=>y-x):=⟨1,by decide,fun x y hx hy=>by unfold In1 at hx hy;constructor<;>grind⟩
def Dif (f g:Rat->Rat):Prop := ∃R:Rat->Rat->Rat,Bd (fun x _=>f x)/\Bd (fun x _=>g x)/\Bd R /\ ∀x y,f y=f x+g x*(y-x)+R x y*((y-x)*(y-x))
theorem dif_const (c:Rat):Dif (fun _=>c) (fun _=>0):=⟨fun _ _=>0,bd_const c,bd_const 0,bd_const 0,fun x y=>by grind⟩
theorem dif_id:Dif (fun x=>x) (fun _=>1):=⟨fun _ _=>0,⟨1,by decide,fun x y hx hy=>by unfold In1 at hx;constructor<;>grind⟩,bd_const 1,bd_const 0,fun x y=>by grind⟩
theorem dif_add {f g f' g':Rat->Rat} (h:Dif f g) (h':Dif f' g'):Dif (fun x=>f x+f' x) (fun x=>g x+g' x):=by
 obtain⟨R,a1,a2,a3,a4⟩:=h;obtain⟨S,b1,b2,b3,b4⟩:=h';refine⟨fun x y=>R x y+S x y,bd_add a1 b1,bd_add a2 b2,bd_add a3 b3,fun x y => ?_⟩;show f y+f' y=_;rw[a4 x y,b4 x y];grind
theorem dif_mul {f g f' g':Rat->Rat} (h:Dif f g) (h':Dif f' g'):Dif (fun x=>f x*f' x) (fun x=>f x*g' x+g x*f' x):=by
 obtain⟨R,a1,a2,a3,a4⟩:=h;obtain⟨S,b1,b2,b3,b4⟩:=h';refine⟨fun x y=>(f x*S x y+R x y*f' x)+(g x*g' x+((y-x)*(g x*S x y+R x y*g' x)+(y-x)*((y-x)*(R x y*S x y)))),bd_mul a1 b1,bd_add (bd_mul a1 b2) (bd_mul a2 b1),?_,fun x y => ?_⟩
 ·exact bd_add (bd_add (bd_mul a1 b3) (bd_mul a3 b1)) (bd_add (bd_mul a2 b2) (bd_add (bd_mul bd_dist (bd_add (bd_mul a2 b3) (bd_mul a3 b2))) (bd_mul bd_dist (bd_mul bd_dist (bd_mul a3 b3)))))
 ·show f y*f' y=_;rw[a4 x y,b4 x y];show _=f x*f' x+(f x*g' x+g x*f' x)*(y-x)+((f x*S x y+R x y*f' x)+(g x*g' x+((y-x)*(g x*S x y+R x y*g' x)+(y-x)*((y-x)*(R x y*S x y)))))*((y-x)*(y-x))
  generalize y-x=d;generalize f x=t1;generalize f' x=t2;generalize g x=t3;generalize g' x=t4;generalize R x y=t5;generalize S x y=t6;grind
theorem dif_congr {f g f' g':Rat->Rat} (h:Dif f g) (e : ∀x,f x=f' x) (e' : ∀x,g x=g' x):Dif f' g':=by
 have h1:f=f':=funext e;have h2:g=g':=funext e';rw[<- h1,<- h2];exact h
theorem mul_denR (D:Rat):D*(D.den:Rat)=(D.num:Rat):=by
 have dn:(0:Rat)<(D.den:Rat):=by exact_mod_cast Rat.den_pos (self:=D)
 have:=(Rat.mkRat_eq_div D.num D.den).symm.trans (wh D);have e:=yD (a:=(D.num:Rat)) (b:=(D.den:Rat)) (by grind);rwa [this]at e
theorem arch {D e:Rat} (hD:0<=D) (he:0<e) : ∃n:Nat,1<=n/\D<=e*(n:Rat):=by
 refine⟨(D.num.natAbs*e.den+1),by omega,?_⟩;have dn:(0:Rat)<(D.den:Rat):=by exact_mod_cast Rat.den_pos (self:=D)
 have en:(0:Rat)<(e.den:Rat):=by exact_mod_cast Rat.den_pos (self:=e)
 have e1:=mul_denR D;have e2:=mul_denR e;have n1:1<=e.num:=by
  have q:0<=e.num:=zP.2 (by grind);have q2:e.num≠0:=fun z=>by rw[Rat.num_eq_zero.1 z]at he;exact absurd he (by decide)
  omega
 have n0:0<=D.num:=zP.2 hD;have c1:((D.num.natAbs:Nat):Rat)=(D.num:Rat):=by
  have:((D.num.natAbs:Nat):Int)=D.num:=by omega
  calc ((D.num.natAbs:Nat):Rat)=(((D.num.natAbs:Nat):Int):Rat):=by rfl
   _=_:=by rw[this]
 have n1':(1:Rat)<=(e.num:Rat):=by exact_mod_cast n1
 have n0':(0:Rat)<=(D.num:Rat):=by exact_mod_cast n0
 have dn1:(1:Rat)<=(D.den:Rat):=by exact_mod_cast (show 1<=D.den from Rat.den_pos (self:=D))
 have c2:((D.num.natAbs*e.den+1:Nat):Rat)=(D.num:Rat)*(e.den:Rat)+1:=by
  rw[<- c1];exact_mod_cast rfl
 rw[c2];have k1:D<=(D.num:Rat):=by
  have:=xI dn1 hD;rw[e1]at this;grind
 have k2:e*((D.num:Rat)*(e.den:Rat)+1)=(D.num:Rat)*(e*(e.den:Rat))+e:=by grind
 rw[k2,e2];have:=xI n1' n0';grind
theorem lim_le {A B D:Rat} (hD:0<=D) (h : ∀n:Nat,1<=n->(A-B)*(n:Rat)<=D):A<=B:=by
 rcases zV (a:=A) (b:=B) with g|g
 ·exact g
 ·by_cases e:A=B
  ·rw[e];exact xi
  ·have hp:0<A-B:=by grind
   obtain⟨n,n1,n2⟩:=arch (D:=D+1) (by grind) hp;have:=h n n1;grind
theorem dif_mono {f g:Rat->Rat} (h:Dif f g) {x y:Rat} (hx:0<=x) (hxy:x<=y) (hy:y<=1) (hg : ∀z,x<=z->z<=y->0<=g z):f x<=f y:=by
 obtain⟨R,a1,a2,⟨C,c0,c1⟩,a4⟩:=h;refine lim_le (D:=C*((y-x)*(y-x))) (xL c0 (xL (by grind) (by grind))) fun n hn => ?_
 have N:(1:Rat)<=(n:Rat):=by exact_mod_cast hn
 obtain⟨d,hd⟩ : ∃d,d=(y-x)/(n:Rat):=⟨_,rfl⟩
 have hdn:d*(n:Rat)=y-x:=by rw[hd];exact yD (by grind)
 have d0:0<=d:=le_by (c:=(n:Rat)) (by grind) (by rw[hdn];grind);have step : ∀k:Nat,k<=n->x+d*(k:Rat)<=y/\f x<=f (x+d*(k:Rat))+C*(d*d)*(k:Rat):=by
  intro k;induction k with
  |zero=>intro _;rw[show ((0:Nat):Rat)=0 from rfl,Rat.mul_zero,Rat.add_zero,Rat.mul_zero,Rat.add_zero];exact⟨hxy,xi⟩
  |succ k ih=>
   intro hk;obtain⟨i1,i2⟩:=ih (by omega);have ck:((k+1:Nat):Rat)=(k:Rat)+1:=by exact_mod_cast rfl
   have kn:((k+1:Nat):Rat)<=(n:Rat):=by exact_mod_cast hk
   have k0:(0:Rat)<=(k:Rat):=by exact_mod_cast wT k
   have m:=xI kn d0;rw[hdn,ck]at m;rw[ck];have z0:0<=d*(k:Rat):=xL d0 k0;have e:=a4 (x+d*(k:Rat)) (x+d*((k:Rat)+1));have b:=c1 (x+d*(k:Rat)) (x+d*((k:Rat)+1)) ⟨by grind,by grind⟩ ⟨by grind,by grind⟩;have s:=hg (x+d*(k:Rat)) (by grind) i1;have ed:x+d*((k:Rat)+1)-(x+d*(k:Rat))=d:=by grind
   rw[ed]at e;have s1:=xL s d0;have s2:=xL (show 0<=R (x+d*(k:Rat)) (x+d*((k:Rat)+1))+C by grind) (xL d0 d0);refine⟨by grind,?_⟩;rw[e];grind
 have r:=(step n (xU _)).2;have e:x+d*(n:Rat)=y:=by grind
 rw[e]at r;have m:=xA (show f x-f y<=C*(d*d)*(n:Rat) by grind) (show 0<=(n:Rat) by grind);have e2:C*(d*d)*(n:Rat)*(n:Rat)=C*((d*(n:Rat))*(d*(n:Rat))):=by grind
 rw[e2,hdn]at m;exact m
section
variable {a b:Nat}
theorem dif_pw {f g:Rat->Rat} (h:Dif f g) (n:Nat) : ∃s:Rat->Rat,Dif (fun x=>pwR (f x) n) s /\ ∀x,f x*s x=(n:Rat)*(pwR (f x) n*g x):=by
 induction n with
 |zero=>exact⟨fun _=>0,dif_const 1,fun x=>by rw[Rat.mul_zero,show ((0:Nat):Rat)=0 from rfl,yM]⟩
 |succ n ih=>
  obtain⟨s,h1,h2⟩:=ih;refine⟨_,dif_mul h1 h,fun x => ?_⟩;have:=h2 x;have ck:((n+1:Nat):Rat)=(n:Rat)+1:=by exact_mod_cast rfl
  show f x*(pwR (f x) n*g x+s x*f x)=_*(pwR (f x) n*f x*g x)
  rw[ck];generalize pwR (f x) n=q at *
  generalize f x=u at *
  generalize s x=v at *
  generalize g x=w at *
  have e:u*(q*w+v*u)=u*v*u+u*q*w:=by grind
  rw[e,this];grind
theorem dif_rR (k:Nat) : ∃s:Rat->Rat,Dif (fun x=>rR x a b k) s /\ ∀x,x*s x=(k:Rat)*rR x a b k:=by
 induction k with
 |zero=>exact⟨fun _=>0,dif_const 1,fun x=>by rw[Rat.mul_zero,show ((0:Nat):Rat)=0 from rfl,yM]⟩
 |succ k ih=>
  obtain⟨s,h1,h2⟩:=ih;obtain⟨c,hc⟩ : ∃c:Rat,c=((a+b+2*k:Nat):Rat)*((a+2+2*k:Nat):Rat)⁻¹:=⟨_,rfl⟩
  have e : ∀x,rR x a b (k+1)=rR x a b k*x*c:=fun x=>by
   show rR x a b k*x*((a+b+2*k:Nat):Rat)/((a+2+2*k:Nat):Rat)=_;rw[xv,hc];grind
  refine⟨_,dif_congr (dif_mul (dif_mul h1 dif_id) (dif_const c)) (fun x=>(e x).symm) (fun x=>rfl),fun x => ?_⟩;have:=h2 x;have ck:((k+1:Nat):Rat)=(k:Rat)+1:=by exact_mod_cast rfl
  rw[e,ck];show x*(rR x a b k*x*0+(rR x a b k*1+s x*x)*c)=_;generalize rR x a b k=r at *
  have e2:x*(r*x*0+(r*1+s x*x)*c)=x*s x*x*c+x*r*c:=by grind
  rw[e2,this];grind
theorem dif_sR (k:Nat) : ∃s:Rat->Rat,Dif (fun x=>sR x a b k) s /\ ∀x,(a:Rat)*(1-x)*sR x a b k-(b:Rat)*x*sR x a b k+2*(1-x)*(x*s x)=(a:Rat)-((a+b+2*k:Nat):Rat)*x*rR x a b k:=by
 induction k with
 |zero=>
  refine⟨fun _=>0,dif_const 1,fun x => ?_⟩;have c1:((a+b+2*0:Nat):Rat)=(a:Rat)+(b:Rat):=by exact_mod_cast rfl
  show (a:Rat)*(1-x)*1-(b:Rat)*x*1+2*(1-x)*(x*0)=(a:Rat)-_*x*1;rw[c1];grind
 |succ k ih=>
  obtain⟨s,h1,h2⟩:=ih;obtain⟨t,g1,g2⟩:=dif_rR (a:=a) (b:=b) (k+1);refine⟨_,dif_add h1 g1,fun x => ?_⟩;have i:=h2 x;have j:=g2 x;have st:=rR_step (x:=x) (a:=a) (b:=b) k;have ck:((k+1:Nat):Rat)=(k:Rat)+1:=by exact_mod_cast rfl
  have c1:((a+b+2*k:Nat):Rat)=(a:Rat)+(b:Rat)+2*(k:Rat):=by exact_mod_cast rfl
  have c2:((a+2+2*k:Nat):Rat)=(a:Rat)+2+2*(k:Rat):=by exact_mod_cast rfl
  have c3:((a+b+2*(k+1):Nat):Rat)=(a:Rat)+(b:Rat)+2*((k:Rat)+1):=by exact_mod_cast rfl
  rw[c1]at i;rw[c1,c2]at st;rw[c3];rw[ck]at j;show (a:Rat)*(1-x)*(sR x a b k+rR x a b (k+1))-(b:Rat)*x*(sR x a b k+rR x a b (k+1))+2*(1-x)*(x*(s x+t x))=_;generalize rR x a b (k+1)=r' at *
  generalize rR x a b k=r at *
  generalize sR x a b k=z at *
  generalize (a:Rat)=A at *
  generalize (b:Rat)=B at *
  generalize (k:Rat)=K at *
  generalize s x=u at *
  generalize t x=v at *
  have e:A*(1-x)*(z+r')-B*x*(z+r')+2*(1-x)*(x*(u+v))=(A*(1-x)*z-B*x*z+2*(1-x)*(x*u))+(A*(1-x)*r'-B*x*r'+2*(1-x)*(x*v)):=by grind
  rw[e,i,j];grind
def shG (a b k:Nat) (x:Rat):Rat:=pwR x a*pwR (1-x) b*(sR x a b k*sR x a b k)
theorem dif_one_sub:Dif (fun x=>1-x) (fun _ => -1):=⟨fun _ _=>0,⟨1,by decide,fun x y hx hy=>by unfold In1 at hx;constructor<;>grind⟩,bd_const (-1),bd_const 0,fun x y=>by grind⟩
theorem slope_id {A B x S s q r pa pb:Rat} (h1:x*q=A*(pa*1)) (h2:(1-x)*r=B*(pb*(-1))) :
  (pa*pb*(S*s+s*S)+(pa*r+q*pb)*(S*S))*(x*(1-x))=pa*pb*S*(A*(1-x)*S-B*x*S+2*(1-x)*(x*s)):=by
 have e:(pa*pb*(S*s+s*S)+(pa*r+q*pb)*(S*S))*(x*(1-x))=pa*pb*S*(2*(1-x)*(x*s))+pa*x*((1-x)*r)*(S*S)+x*q*(1-x)*pb*(S*S):=by grind
 rw[e,h1,h2];grind
theorem shG_mono {k:Nat} {x y:Rat} (h0:0<x) (hxy:x<=y) (hy:y+y<=1) (hk : ∀z,x<=z->z<=y->((a+b+2*k:Nat):Rat)*z*rR z a b k<=(a:Rat)):shG a b k x<=shG a b k y:=by
 obtain⟨q,d1,e1⟩:=dif_pw dif_id a;obtain⟨r,d2,e2⟩:=dif_pw dif_one_sub b;obtain⟨s,d3,e3⟩:=dif_sR (a:=a) (b:=b) k;refine dif_mono (dif_mul (dif_mul d1 d2) (dif_mul d3 d3)) (by grind) hxy (by grind) fun z z1 z2 => ?_
 have P:0<z*(1-z):=ya (by grind) (by grind);refine le_by P ?_;rw[yM,slope_id (e1 z) (e2 z),e3 z];have n1:=pwR_nn (q:=z) (by grind) a;have n2:=pwR_nn (q:=1-z) (by grind) b;have n3:0<=sR z a b k:=xO (show (0:Rat)<=1 by decide) (sR_up (a:=a) (b:=b) (show 0<=z by grind) (wT k));have:=hk z z1 z2;exact xL (xL (xL n1 n2) n3) (by grind)
theorem late_fall {x:Rat} (h:0<=x) (h1:x+x<=1) {k c d:Nat} (hk:d*(a+b+2*k+2)<=2*c*(a+2+2*k):=by omega):(d:Rat)*(((a+b+2*(k+1):Nat):Rat)*rR x a b (k+1))<=(c:Rat)*(((a+b+2*k:Nat):Rat)*rR x a b k):=by
 have M:(0:Rat)<((a+2+2*k:Nat):Rat):=by exact_mod_cast (show 0<a+2+2*k by omega)
 have st:=rR_step (x:=x) (a:=a) (b:=b) k;have r0:=rR_nn (a:=a) (b:=b) h k;have hn:((d*(a+b+2*k+2):Nat):Rat)<=((2*c*(a+2+2*k):Nat):Rat):=by exact_mod_cast hk
 have c1:((d*(a+b+2*k+2):Nat):Rat)=(d:Rat)*((a+b+2*(k+1):Nat):Rat):=by exact_mod_cast rfl
 have c2:((2*c*(a+2+2*k):Nat):Rat)=2*(c:Rat)*((a+2+2*k:Nat):Rat):=by exact_mod_cast rfl
 rw[c1,c2]at hn;have n0:=nat_nonneg (a+b+2*k);have n1:=nat_nonneg (a+b+2*(k+1));have n2:=nat_nonneg d;generalize ((a+2+2*k:Nat):Rat)=m at *
 generalize ((a+b+2*(k+1):Nat):Rat)=n' at *
 generalize ((a+b+2*k:Nat):Rat)=n at *
 generalize rR x a b (k+1)=r' at *
 generalize rR x a b k=r at *
 generalize (d:Rat)=D at *
 generalize (c:Rat)=C at *
 refine le_by M ?_;have e1:D*(n'*r')*m=D*n'*(r'*m):=by grind
 rw[e1,st];have rn:=xL r0 n0;have k1:D*n'*(r*n)*(x+x)<=D*n'*(r*n)*1:=xI h1 (xL (xL n2 n1) rn);have k2:=xA hn rn;grind
theorem late_small {x:Rat} (h:0<=x) (h1:x+x<=1) (ha:1<=a) (ha2:a<=20) (hb2:b<=20) {k:Nat} (hk:160<=k):((a+b+2*k:Nat):Rat)*rR x a b k<=1:=by
 have A : ∀j:Nat,((a+b+2*j:Nat):Rat)*rR x a b j<=40*pwR 4 j:=by
  intro j;induction j with
  |zero=>
   show ((a+b+2*0:Nat):Rat)*1<=40*1;have:((a+b+2*0:Nat):Rat)<=((40:Nat):Rat):=by exact_mod_cast (show a+b+2*0<=40 by omega)
   rw[show ((40:Nat):Rat)=40 from rfl]at this;grind
  |succ j ih=>
   have:=late_fall (a:=a) (b:=b) h h1 (k:=j) (c:=4) (d:=1);rw[show ((1:Nat):Rat)=1 from rfl,show ((4:Nat):Rat)=4 from rfl]at this;show _<=40*(pwR 4 j*4)
   grind
 have B : ∀j:Nat,((a+b+2*(20+j):Nat):Rat)*rR x a b (20+j)*pwR 4 j<=40*pwR 4 20*pwR 3 j:=by
  intro j;induction j with
  |zero=>show _*1<=_*1;have:=A 20;rw[yJ];grind
  |succ j ih=>
   have t:=late_fall (a:=a) (b:=b) h h1 (k:=20+j) (c:=3) (d:=4);rw[show ((3:Nat):Rat)=3 from rfl,show ((4:Nat):Rat)=4 from rfl]at t;have p4:=pwR_nn (q:=4) (by decide) j;have m:=xA t p4;show _*(pwR 4 j*4)<=_*(pwR 3 j*3)
   rw[show 20+(j+1)=20+j+1 by omega];generalize ((a+b+2*(20+j+1):Nat):Rat)*rR x a b (20+j+1)=u at *
   generalize ((a+b+2*(20+j):Nat):Rat)*rR x a b (20+j)=v at *
   generalize 40*pwR 4 20=z at *
   generalize pwR 4 j=w at *
   generalize pwR 3 j=w' at *
   grind
 have C : ∀j:Nat,40*pwR 4 20*pwR 3 (140+j)<=pwR 4 (140+j):=by
  intro j;induction j with
  |zero=>decide +kernel
  |succ j ih=>
   show 40*pwR 4 20*(pwR 3 (140+j)*3)<=pwR 4 (140+j)*4;have:=pwR_nn (q:=4) (by decide) (140+j);generalize 40*pwR 4 20=z at *
   generalize pwR 4 (140+j)=w at *
   generalize pwR 3 (140+j)=w' at *
   grind
 obtain⟨j,rfl⟩ : ∃j,k=20+(140+j):=⟨k-160,by omega⟩
 have t:=xO (B (140+j)) (C j);have pp : ∀n,0<pwR 4 n:=by
  intro n;induction n with
  |zero=>show (0:Rat)<1;decide
  |succ n ih=>show 0<pwR 4 n*4;grind
 refine le_by (pp (140+j)) ?_;rw[yK];exact t
theorem shG_up {k:Nat} {x y:Rat} (ha:1<=a) (ha2:a<=20) (hb2:b<=20) (hk:160<=k) (h0:0<x) (hxy:x<=y) (hy:y+y<=1):shG a b k x<=shG a b k y:=by
 refine shG_mono h0 hxy hy fun z z1 z2 => ?_
 have t:=late_small (x:=z) (a:=a) (b:=b) (by grind) (by grind) ha ha2 hb2 hk;have r0:=xL (nat_nonneg (a+b+2*k)) (rR_nn (x:=z) (a:=a) (b:=b) (by grind) k);have m:=xI (show z<=1 by grind) r0;have n1:(1:Rat)<=(a:Rat):=by exact_mod_cast ha
 grind
end
end Go.Proofs.YtfknkoeagjonbaaGreat
namespace Go.Proofs.YtfknkoeagjonbaaGreat
open Go.Ev
theorem nat_shl {N m:Nat} (h:(lim N).length<=137438953472:=by omega) (hm:m<=4096:=by omega):Go.Ev.Fn CX 88 [natV (lim N),.int .i64 (m:Int)] (natV (lim (N*2^m))):=by
 have:=shift_up (lim N) m (okL_lim _) h _ rfl hm;rwa [wth_lim]at this
theorem nat_shr {N m:Nat} (h:(lim N).length<=137438953472:=by omega) (hm:m<=4096:=by omega) (h0:0<m:=by omega):Go.Ev.Fn CX 88 [natV (lim N),.int .i64 (-(m:Int))] (natV (lim (N/2^m))):=by
 have:=shift_down (lim N) m (okL_lim _) h _ rfl hm h0;rwa [wth_lim]at this
theorem fix_shl {a m:Nat} (ha:(lim a).length<=30000000000:=by omega) (hm:m<=2000000000000:=by omega):Go.Ev.Fn CX 168 [natV (lim a),.int .i64 (m:Int)] (natV (lim (a*2^m))):=by
 have hl:=fun j=>lim_len_shl (a:=a) (n:=j)
 refine fni Tryz.f168 ?_;unfold Tryz.f168;repeat (first|simp only[go_sem]|simp (disch:=first|exact omg|fail) only[AX]|refine wki ?_)
 refine vp_loop_inv (fun s => ∃j:Nat,j<=m/\s.tmp 0 = .sv (natV (lim (a*2^j)))/\s.tmp 1 = .sv (.int .i64 ((m-j:Nat):Int)))
  (fun s=>match s.tmp 1 with | .sv (.int _ i)=>i.toNat|_=>0) ⟨0,by omega,by rw[yk,xu];rfl,rfl⟩ ?_
 rintro s ⟨j,hj,i0,i1⟩
 have hlj:=hl j;by_cases hc:1024<m-j
 ·obtain⟨K,hK⟩ : ∃K:Nat,K=1024:=⟨_,rfl⟩
  have st:=nat_shl (N:=a*2^j) (m:=K);rw[xP,<- xN]at st;generalize hx:a*2^j=x at *
  generalize hy:a*2^(j+K)=y at *
  rw[show (K:Int)=1024 by omega]at st;repeat (first|simp only[go_sem,i0,i1]|simp (disch:=first|exact omg|fail) only[AX,i0,i1]|refine wki ?_|refine vfa ?_)
  exact⟨⟨j+K,by omega,by rw[hy],by rw[show ((m-(j+K):Nat):Int)=((m-j:Nat):Int)-1024 by omega]⟩,by omega⟩
 ·have st:=nat_shl (N:=a*2^j) (m:=m-j);rw[xP,<- xN,show j+(m-j)=m by omega]at st;generalize a*2^j=x at *
  generalize a*2^m=y at *
  repeat (first|simp only[go_sem,i0,i1]|simp (disch:=first|exact omg|fail) only[AX,i0,i1]|refine wki ?_)
  refine vp_loop_inv (fun s=>s.tmp 0 = .sv (natV (lim x))/\s.tmp 1 = .sv (.int .i64 ((m-j:Nat):Int))) (fun _=>0) ⟨i0,i1⟩ ?_;rintro s' ⟨j0,j1⟩
  repeat (first|simp only[go_sem,j0,j1]|simp (disch:=first|exact omg|fail) only[AX,j0,j1]|refine wki ?_|refine vfa ?_)
theorem fix_shr {a m:Nat} (ha:(lim a).length<=60000000000:=by omega) (hm:m<=1000000000000:=by omega) (h0:0<m:=by omega):Go.Ev.Fn CX 168 [natV (lim a),.int .i64 (-(m:Int))] (natV (lim (a/2^m))):=by
 have hl:=fun j=>lim_len_mono (xt a (2^j))
 refine fni Tryz.f168 ?_;unfold Tryz.f168;repeat (first|simp only[go_sem]|simp (disch:=first|exact omg|fail) only[AX]|refine wki ?_)
 refine vp_loop_inv (fun s=>s.tmp 0 = .sv (natV (lim a))/\s.tmp 1 = .sv (.int .i64 (-(m:Int)))) (fun _=>0) ⟨rfl,rfl⟩ ?_;rintro s ⟨i0,i1⟩
 repeat (first|simp only[go_sem,i0,i1]|simp (disch:=first|exact omg|fail) only[AX,i0,i1]|refine wki ?_)
 refine vp_loop_inv (fun s => ∃j:Nat,j<m/\s.tmp 0 = .sv (natV (lim (a/2^j)))/\s.tmp 1 = .sv (.int .i64 (-((m-j:Nat):Int))))
  (fun s=>match s.tmp 1 with | .sv (.int _ i)=>(-i).toNat|_=>0) ⟨0,by omega,by rw[yk,wI];exact i0,i1⟩ ?_
 rintro s2 ⟨j,hj,j0,j1⟩
 have hlj:=hl j;by_cases hc:1024<m-j
 ·obtain⟨K,hK⟩ : ∃K:Nat,K=1024:=⟨_,rfl⟩
  have st:=nat_shr (N:=a/2^j) (m:=K);rw[wN,<- xN]at st;generalize hx:a/2^j=x at *
  generalize hy:a/2^(j+K)=y at *
  rw[show -(K:Int) = -1024 by omega]at st;repeat (first|simp only[go_sem,j0,j1]|simp (disch:=first|exact omg|fail) only[AX,j0,j1]|refine wki ?_|refine vfa ?_)
  exact⟨⟨j+K,by omega,by rw[hy],by rw[show -((m-(j+K):Nat):Int) = -((m-j:Nat):Int)+1024 by omega]⟩,by omega⟩
 ·have st:=nat_shr (N:=a/2^j) (m:=m-j);rw[wN,<- xN,show j+(m-j)=m by omega]at st;generalize a/2^j=x at *
  generalize a/2^m=y at *
  repeat (first|simp only[go_sem,j0,j1]|simp (disch:=first|exact omg|fail) only[AX,j0,j1]|refine wki ?_|refine vfa ?_)
end Go.Proofs.YtfknkoeagjonbaaGreat
namespace Go.Proofs.YtfknkoeagjonbaaGreat
open Go.Ev
theorem fix_Mul {a b c d w:Nat} (h1:(lim a).length<=30000000000:=by omega) (h2:(lim b).length<=30000000000:=by omega) (h3:(lim c).length<=30000000000:=by omega) (h4:(lim d).length<=30000000000:=by omega) (hw:w<=1000000000000:=by omega) (h0:0<w:=by omega):Go.Ev.Fn CX 163 [spanV a b,spanV c d,.int .i64 (w:Int)] (spanV (a*c/2^w) (b*d/2^w+1)):=by
 have m1:=nat_MulL (N:=a) (D:=c);have m2:=nat_MulL (N:=b) (D:=d);have l1:=lim_len_mul (a:=a) (b:=c);have l2:=lim_len_mul (a:=b) (b:=d);have s1:=fix_shr (a:=a*c) (m:=w) (by omega) hw h0;have s2:=fix_shr (a:=b*d) (m:=w) (by omega) hw h0;have l3:=lim_len_mono (xt (b*d) (2^w));have n1:=fix_Next (a:=b*d/2^w);generalize a*c/2^w=x at *
 generalize b*d/2^w=y at *
 generalize a*c=u at *
 generalize b*d=v at *
 have e0:(0:Int)-(w:Int) = -(w:Int):=by omega
 refine fni Tryz.f163 ?_;unfold Tryz.f163;repeat (first|simp only[go_sem,e0]|simp (disch:=first|exact omg|fail) only[AX,e0]|refine wki ?_|refine vpd 1 [8,10,11,16,18,19,22] ?_|refine vfa ?_)
end Go.Proofs.YtfknkoeagjonbaaGreat
namespace Go.Proofs.YtfknkoeagjonbaaGreat
open Go.Ev
theorem fix_Of {n d w:Nat} (h1:(lim n).length<=25000000000:=by omega) (h2:(lim d).length<=25000000000:=by omega) (hd:d≠0:=by omega) (hw:w<=1000000000000:=by omega):Go.Ev.Fn CX 236 [natV (lim n),natV (lim d),.int .i64 (w:Int)] (spanV (n*2^w/d) (n*2^w/d+1)):=by
 have s1:=fix_shl (a:=n) (m:=w);have l1:=lim_len_shl (a:=n) (n:=w);have o1:=fix_Over' (N:=n*2^w) (D:=d) hd;have l3:=lim_len_mono (xt (n*2^w) d);have n1:=fix_Next (a:=n*2^w/d);generalize n*2^w/d=x at *
 generalize n*2^w=y at *
 refine fni Tryz.f236 ?_;unfold Tryz.f236;repeat (first|simp only[go_sem]|simp (disch:=first|exact omg|fail) only[AX]|refine wki ?_|refine vfa ?_)
theorem fix_Floor {a b w p:Nat} (h1:(lim a).length<=30000000000:=by omega) (h2:(lim b).length<=30000000000:=by omega) (hp:p<w:=by omega) (hw:w<=1000000000000:=by omega):Go.Ev.Fn CX 284 [spanV a b,.int .i64 (w:Int),.int .i64 (p:Int)] (.tup [natV (lim (a/2^(w-p))),.bool (decide (a/2^(w-p)=(b-1)/2^(w-p)))]):=by
 have e0:(p:Int)-(w:Int) = -((w-p:Nat):Int):=by omega
 have l1:=lim_len1;have s1:=fix_shr (a:=a) (m:=w-p);have o:=fix_One;have m1:=fix_Less' (N:=b) (D:=1);have l2:=lim_len_mono (zY b 1);have s2:=fix_shr (a:=b-1) (m:=w-p);have l3:=lim_len_mono (xt a (2^(w-p)));have l4:=lim_len_mono (xt (b-1) (2^(w-p)));have c:=nat_CmpL (N:=a/2^(w-p)) (D:=(b-1)/2^(w-p));generalize a/2^(w-p)=x at *
 generalize (b-1)/2^(w-p)=y at *
 generalize b-1=b' at *
 have e1:(cmpN x y==0)=decide (x=y):=by
  rw[show (cmpN x y==0)=decide (cmpN x y=0) from by by_cases h:cmpN x y=0<;>simp[h]];exact decide_eq_decide.2 (by unfold cmpN;split<;>(try split)<;>omega)
 generalize cmpN x y=z at *
 generalize decide (x=y)=q at *
 generalize hk:w-p=k at *
 refine fni Tryz.f284 ?_;unfold Tryz.f284;repeat (first|simp only[go_sem,e0,e1]|simp (disch:=first|exact omg|fail) only[AX,e0,e1]|refine wki ?_|refine vpd 2 [18,19,20,8,24] ?_|refine vfa ?_)
end Go.Proofs.YtfknkoeagjonbaaGreat
namespace Go.Proofs.YtfknkoeagjonbaaGreat
open Go.Ev
theorem stat_by {v:SV} {q:Rat} {n:Int} {L:Nat} (hv:RatA v q L) (hL:1<=L:=by omega) (hL2:L<=10000000:=by omega) (hn : -9223372036854775808<=n/\n<9223372036854775808:=by omega) :
  Go.Ev.Fn CX 280 [v,.int .i64 n] (rv (q/(n:Rat))):=by
 have r:=rat_Int n hn;have d:=rat_Div hv (RatA_rv (int_szR (n:=n))) hL;generalize decide ((n:Rat)≠0)=b at *
 obtain⟨s,y,d',rfl,-⟩:=hv;refine fni Tryz.f280 ?_;unfold Tryz.f280;repeat (first|simp only[go_sem]|simp (disch:=first|exact omg|fail) only[AX]|refine wki ?_|refine vpd 1 [] ?_|refine vfa ?_)
theorem stat_Sum {cs:List SV} {l:List Rat} {L:Nat} (h:RowC cs l L) (hL:1<=L:=by omega) (hL2:L<=100000:=by omega) (hl:l.length<=12:=by omega) :
  Go.Ev.Fn CX 228 [.sl l.length cs] (rv (sumR l)):=by
 have r0:=rat_Int 0;have hlen:=row_len h;have hz:=row_sz hL h;refine fni Tryz.f228 ?_;unfold Tryz.f228;repeat (first|simp only[go_sem]|simp (disch:=first|exact omg|fail) only[AX]|refine wki ?_|refine vfa ?_)
 refine vp_loop_inv (fun s=>s.tmp 7 = .sv (.sl l.length cs)/\s.tmp 8 = .sv (.int .i64 (l.length:Int))/\s.tmp 2 = .ptr 2 0 0/\s.obj 2 0=some [.bool false,.sl 0 [],.sl 0 []]/\s.tmp 3 = .ptr 3 0 0 /\
   ∃i:Nat,s.tmp 9 = .sv (.int .i64 (i:Int))/\i<=l.length/\s.obj 3 0=some (rvC (sumR (l.take i))))
  (fun s=>match s.tmp 9 with | .sv (.int _ i)=>l.length-i.toNat|_=>0) ⟨rfl,rfl,rfl,rfl,rfl,0,rfl,by omega,rfl⟩ ?_
 rintro s2 ⟨i7,i8,i2,iO,i3,i,i9,hi,iP⟩
 by_cases hend:i=l.length
 ·subst hend;rw[yV]at iP;repeat (first|simp only[go_sem,i7,i8,i2,iO,i3,i9,iP,rvC]|simp (disch:=first|exact omg|fail) only[AX,i7,i8,i2,iO,i3,i9,iP,rvC]|refine wki ?_)
 ·obtain⟨s,n,d,rest,hat,hA⟩:=row_at (i:=i) h (by omega);have hS:=sumR_take l (i:=i);have z:=sz_take12 hL hz hl i;have a:=rat_Add (RatA_rv z) hA (by omega) hL;rw[<- hS]at a;clear hz z h hS hA;repeat (first|simp only[go_sem,i7,i8,i2,iO,i3,i9,iP,rvC,hat,hlen]|simp (disch:=first|exact omg|fail) only[AX,i7,i8,i2,iO,i3,i9,iP,rvC,hat,hlen]|refine wki ?_|refine vfa ?_)
  exact⟨⟨i+1,rfl,by omega,rfl⟩,by omega⟩
abbrev numE (q:Rat) (e:Int):SV := .tup [rv q,.int .i64 e]
theorem stat_Mean {cs:List SV} {l:List Rat} {L:Nat} (h:RowC cs l L) (hL:1<=L) (hL2:L<=100000) (hl:l.length<=12) :
  Go.Ev.Fn CX 223 [.sl l.length cs] (if l.length=0 then numE 0 5 else numE (meanR l) 0):=by
 have r0:=rat_Int 0;by_cases h0:l.length=0
 ·rw[if_pos h0];refine fni Tryz.f223 ?_;unfold Tryz.f223;repeat (first|simp only[go_sem]|simp (disch:=first|exact omg|fail) only[AX]|refine wki ?_|refine vfa ?_)
  rfl
 ·rw[if_neg h0];have s1:=stat_Sum h hL hL2 hl;have b1:=stat_by (n:=(l.length:Int)) (RatA_rv (sz_sum12 hL (row_sz hL h) hl));rw[show sumR l/((l.length:Int):Rat)=meanR l from rfl]at b1;clear h;refine fni Tryz.f223 ?_;unfold Tryz.f223;repeat (first|simp only[go_sem]|simp (disch:=first|exact omg|fail) only[AX]|refine wki ?_|refine vfa ?_)
theorem rvs_snoc {l:List Rat} {i:Nat} (h:i<l.length:=by omega):rvsC (l.take i)++rvC (l.getD i 0)=rvsC (l.take (i+1)):=by rw[take_snoc l h,rvsC_snoc]
theorem stat_off {cs:List SV} {l:List Rat} {L:Nat} (h:RowC cs l L) (hL:1<=L) (hL2:L<=100000) (hl:l.length<=12) (h0:1<=l.length:=by omega) :
  Go.Ev.Fn CX 306 [.sl l.length cs] (.sl l.length (rvsC (offR l))):=by
 have m1:=stat_Mean h hL hL2 hl;rw[if_neg (by omega)]at m1;have hz:=row_sz hL h;have zm:=sz_mean hL hz hl;have hlen:=row_len h;have hol:(offR l).length=l.length:=by unfold offR;rw[xd]
 refine fni Tryz.f306 ?_;unfold Tryz.f306;repeat (first|simp only[go_sem]|simp (disch:=first|exact omg|fail) only[AX]|refine wki ?_|refine vfa ?_)
 refine vp_loop_inv (fun s=>s.tmp 13 = .sv (.sl l.length cs)/\s.tmp 14 = .sv (.int .i64 (l.length:Int))/\s.tmp 3 = .ptr 3 0 0/\s.obj 3 0=some (rvC (meanR l)) /\
   ∃i:Nat,s.tmp 15 = .sv (.int .i64 (i:Int))/\i<=l.length/\((i=0/\s.tmp 5 = .nil/\s.gen 24=0)\/(0<i/\s.tmp 5 = .ref 24 0 3 0 i/\s.obj 24 0=some (rvsC ((offR l).take i)))))
  (fun s=>match s.tmp 15 with | .sv (.int _ i)=>l.length-i.toNat|_=>0) ⟨rfl,rfl,rfl,rfl,0,rfl,by omega,.inl ⟨rfl,rfl,rfl⟩⟩ ?_
 rintro s2 ⟨i13,i14,i3,iO,i,i15,hi,hc⟩
 by_cases hend:i=l.length
 ·subst hend;rcases hc with⟨h00,_⟩|⟨_,i5,iP⟩
  ·omega
  ·rw[xH (by omega)]at iP;have hrl:=rvsC_len (offR l);repeat (first|simp only[go_sem,i13,i14,i3,iO,i15,i5,iP,rvC]|simp (disch:=first|exact omg|fail) only[AX,i13,i14,i3,iO,i15,i5,iP,rvC]|refine wki ?_)
   refine ro_ref (cs:=rvsC (offR l)) (by decide) ?_ ?_
   ·simp only[go_sem,i5,iP]
   ·rw[xf,xH (by omega)]
 ·obtain⟨s,n,d,rest,hat,hA⟩:=row_at (i:=i) h (by omega);have a:=rat_Sub hA (RatA_rv zm) hL;have hd:(offR l).getD i 0=l.getD i 0-meanR l:=by unfold offR;rw[getD_map l _]
  have hsn:=rvs_snoc (l:=offR l) (i:=i);rw[hd]at hsn;have hrl:=rvsC_len ((offR l).take i);rw[xo,hol,yO (by omega)]at hrl;clear hz zm h hd hA;rcases hc with⟨h00,i5,ig⟩|⟨h00,i5,iP⟩
  ·subst h00;rw[yz,rvsC_nil,ze]at hsn;rw[zM,xf]at hat;subst hat;repeat (first|simp only[go_sem,i13,i14,i3,iO,i15,i5,ig,rvC,N0]|simp (disch:=first|exact omg|fail) only[AX,i13,i14,i3,iO,i15,i5,ig,rvC,N0]|refine wki ?_|refine vfa ?_)
   exact⟨⟨1,rfl,by omega,.inr ⟨by omega,rfl,by first|(rw[<- hsn];rfl)|rw[<- hsn]⟩⟩,by omega⟩
  ·unfold rvC at hsn;repeat (first|simp only[go_sem,i13,i14,i3,iO,i15,i5,iP,hat,hlen,rvC,N0,hsn,hrl]|simp (disch:=first|exact omg|fail) only[AX,i13,i14,i3,iO,i15,i5,iP,hat,hlen,rvC,N0,hsn,hrl]|refine wki ?_|refine vfa ?_)
   exact⟨⟨i+1,rfl,by omega,.inr ⟨by omega,rfl,by first|(rw[<- hsn];rfl)|rw[<- hsn]⟩⟩,by omega⟩
theorem stat_products {l:List Rat} {L:Nat} (hz : ∀x∈l,szR x L) (hL:1<=L) (hL2:L<=1000000) (hl:l.length<=12) :
  Go.Ev.Fn CX 305 [.sl l.length (rvsC l),.sl l.length (rvsC l)] (rv (sumR (l.map fun x=>x*x))):=by
 have r0:=rat_Int 0;have hlen:=rvsC_len l;have hz2:=sz_map (f:=fun x=>x*x) hz (fun x hx=>szR_mul hx hx hL);generalize hcs:rvsC l=cs at *
 refine fni Tryz.f305 ?_;unfold Tryz.f305;repeat (first|simp only[go_sem]|simp (disch:=first|exact omg|fail) only[AX]|refine wki ?_|refine vpd 5 [] ?_|refine vfa ?_)
 refine vp_loop_inv (fun s=>s.tmp 9 = .sv (.sl l.length cs)/\s.tmp 1 = .sv (.sl l.length cs)/\s.tmp 10 = .sv (.int .i64 (l.length:Int))/\s.tmp 4 = .ptr 4 0 0/\s.obj 4 0=some [.bool false,.sl 0 [],.sl 0 []]/\s.tmp 5 = .ptr 5 0 0 /\
   ∃i:Nat,s.tmp 11 = .sv (.int .i64 (i:Int))/\i<=l.length/\s.obj 5 0=some (rvC (sumR ((l.map fun x=>x*x).take i))))
  (fun s=>match s.tmp 11 with | .sv (.int _ i)=>l.length-i.toNat|_=>0) ⟨rfl,rfl,rfl,rfl,rfl,rfl,0,rfl,by omega,rfl⟩ ?_
 rintro s2 ⟨i9,i1,i10,i4,iO,i5,i,i11,hi,iP⟩
 by_cases hend:i=l.length
 ·subst hend;rw[xH (by rw[xd];omega)]at iP;repeat (first|simp only[go_sem,i9,i1,i10,i4,iO,i5,i11,iP,rvC]|simp (disch:=first|exact omg|fail) only[AX,i9,i1,i10,i4,iO,i5,i11,iP,rvC]|refine wki ?_|refine vpd 5 [] ?_)
 ·obtain⟨rest,hat⟩:=rvsC_at (l:=l) (i:=i);rw[hcs]at hat;have hm:=hz _ (getD_mem (l:=l) (i:=i));have m1:=rat_Mul (RatA_rv hm) (RatA_rv hm) hL hL;have hS:=sumR_take (l.map fun x=>x*x) (i:=i) (by rw[xd];omega);rw[getD_map l _]at hS;have a:=rat_Add (RatA_rv (sz_take12 (by omega) hz2 (by rw[xd];omega) i)) (RatA_rv (szR_mul hm hm hL));rw[<- hS]at a;generalize l.getD i 0=x at *
  clear hz hz2 hm hS;repeat (first|simp only[go_sem,i9,i1,i10,i4,iO,i5,i11,iP,rvC,hat,hlen,List.cons_append,ze]|simp (disch:=first|exact omg|fail) only[AX,i9,i1,i10,i4,iO,i5,i11,iP,rvC,hat,hlen,List.cons_append,ze]|refine wki ?_|refine vpd 5 [] ?_|refine vfa ?_)
  exact⟨⟨i+1,rfl,by omega,rfl⟩,by omega⟩
theorem stat_Covariance {cs:List SV} {l:List Rat} {L:Nat} (h:RowC cs l L) (hL:1<=L) (hL2:L<=10000) (hl:l.length<=12) :
  Go.Ev.Fn CX 281 [.sl l.length cs,.sl l.length cs] (if l.length<2 then numE 0 5 else numE (varR l) 0):=by
 have r0:=rat_Int 0;by_cases h0:l.length<2
 ·rw[if_pos h0];refine fni Tryz.f281 ?_;unfold Tryz.f281;repeat (first|simp only[go_sem]|simp (disch:=first|exact omg|fail) only[AX]|refine wki ?_|refine vfa ?_)
  rfl
 ·rw[if_neg h0];have s1:=stat_off h hL (by omega) hl;have hz:=row_sz hL h;have zo:=sz_off hL hz hl;have p1:=stat_products zo (by omega) (by omega) (by unfold offR;rw[xd];exact hl);rw[show (offR l).length=l.length by unfold offR;rw[xd],show sumR ((offR l).map fun x=>x*x)=sqR l from rfl]at p1;have b1:=stat_by (n:=(l.length:Int)-1) (RatA_rv (sz_sq hL hz hl));rw[show sqR l/(((l.length:Int)-1:Int):Rat)=varR l from rfl,show (l.length:Int)-1=((l.length-1:Nat):Int) by omega]at b1;clear h zo hz;refine fni Tryz.f281 ?_;unfold Tryz.f281
  repeat (first|simp only[go_sem]|simp (disch:=first|exact omg|fail) only[AX]|refine wki ?_|refine vfa ?_)
theorem stat_Variance {cs:List SV} {l:List Rat} {L:Nat} (h:RowC cs l L) (hL:1<=L) (hL2:L<=10000) (hl:l.length<=12) :
  Go.Ev.Fn CX 225 [.sl l.length cs] (if l.length<2 then numE 0 5 else numE (varR l) 0):=by
 have c1:=stat_Covariance h hL hL2 hl;by_cases h0:l.length<2
 ·rw[if_pos h0]at c1 ⊢;refine fni Tryz.f225 ?_;unfold Tryz.f225;repeat (first|simp only[go_sem]|simp (disch:=first|exact omg|fail) only[AX]|refine wki ?_|refine vfa ?_)
 ·rw[if_neg h0]at c1 ⊢;refine fni Tryz.f225 ?_;unfold Tryz.f225;repeat (first|simp only[go_sem]|simp (disch:=first|exact omg|fail) only[AX]|refine wki ?_|refine vfa ?_)
theorem stat_Central {cs:List SV} {l:List Rat} {L:Nat} (h:RowC cs l L) (hL:1<=L) (hL2:L<=10000) (hl:l.length<=12) (h0:1<=l.length) :
  Go.Ev.Fn CX 282 [.int .i64 2,.sl l.length cs] (numE (sqR l/((l.length:Int):Rat)) 0):=by
 have r0:=rat_Int 0;have r1:=rat_Int 1;have s1:=stat_off h hL (by omega) hl;have hz:=row_sz hL h;have zo:=sz_off hL hz hl;have hol:(offR l).length=l.length:=by unfold offR;rw[xd]
 have b1:=stat_by (n:=(l.length:Int)) (RatA_rv (sz_sq hL hz hl));have zs:=fun i=>sz_take12 (by omega) (sz_map (f:=fun x=>x*x) zo (fun x hx=>szR_mul hx hx)) (by rw[xd];omega) i
 have hst:=fun {i:Nat} (hi:i<l.length)=>sumR_take ((offR l).map fun x=>x*x) (i:=i) (by rw[xd];omega)
 have hgd:=fun {i:Nat} (hi:i<l.length)=>getD_map (offR l) (fun x=>x*x) (i:=i)
 have hall:sumR (((offR l).map fun x=>x*x).take l.length)=sqR l:=by rw[xH (by rw[xd];omega)];rfl
 have hat:=fun {i:Nat} (hi:i<l.length)=>rvsC_at (l:=offR l) (i:=i)
 have hlen:=rvsC_len (offR l);have hzm:=fun {i:Nat} (hi:i<l.length)=>zo _ (getD_mem (l:=offR l) (i:=i))
 have hsum0:sumR (((offR l).map fun x=>x*x).take 0)=0:=rfl;rw[hol]at hlen;generalize hS:(fun i=>sumR (((offR l).map fun x=>x*x).take i))=S at *
 have hSi : ∀i,sumR (((offR l).map fun x=>x*x).take i)=S i:=fun i=>by rw[<- hS]
 simp only[hSi]at zs hst hall hsum0;generalize sqR l=q at *
 generalize hcs:rvsC (offR l)=ds at *
 clear h hz zo;refine fni Tryz.f282 ?_;unfold Tryz.f282;repeat (first|simp only[go_sem]|simp (disch:=first|exact omg|fail) only[AX]|refine wki ?_|refine vfa ?_)
 refine vp_loop_inv (fun s=>s.tmp 0 = .sv (.int .i64 2)/\s.tmp 1 = .sv (.sl l.length cs)/\s.tmp 4 = .ptr 4 0 0/\s.obj 4 0=some [.bool false,.sl 0 [],.sl 0 []]/\s.tmp 6 = .ptr 6 0 0/\s.tmp 25 = .sv (.sl l.length ds)/\s.tmp 26 = .sv (.int .i64 (l.length:Int)) /\
   ∃i:Nat,s.tmp 27 = .sv (.int .i64 (i:Int))/\i<=l.length/\s.obj 6 0=some (rvC (S i)))
  (fun s=>match s.tmp 27 with | .sv (.int _ i)=>l.length-i.toNat|_=>0) ⟨rfl,rfl,rfl,rfl,rfl,rfl,rfl,0,rfl,by omega,by rw[hsum0];rfl⟩ ?_
 rintro s2 ⟨i0,i1,i4,iO,i6,i25,i26,i,i27,hi,iP⟩
 by_cases hend:i=l.length
 ·subst hend;rw[hall]at iP;repeat (first|simp only[go_sem,i0,i1,i4,iO,i6,i25,i26,i27,iP,rvC]|simp (disch:=first|exact omg|fail) only[AX,i0,i1,i4,iO,i6,i25,i26,i27,iP,rvC]|refine wki ?_|refine vfa ?_)
 ·obtain⟨rest,g1⟩:=hat (i:=i) (by omega);have z1:=hzm (i:=i) (by omega);have e1:=hst (i:=i) (by omega);rw[hgd (by omega)]at e1;have m1:=rat_Mul (RatA_rv (int_szR (n:=1))) (RatA_rv z1);generalize (offR l).getD i 0=x at *
  rw[show ((1:Int):Rat)*x=x by show (1:Rat)*x=x;exact yK x]at m1;have m2:=rat_Mul (RatA_rv z1) (RatA_rv z1);have a1:=rat_Add (RatA_rv (zs i)) (RatA_rv (szR_mul z1 z1));rw[<- e1]at a1;clear hat hzm hst hgd hall hsum0 e1 z1;repeat (first|simp only[go_sem,i0,i1,i4,iO,i6,i25,i26,i27,iP,g1,hlen,List.cons_append,ze,rvC]|simp (disch:=first|exact omg|fail) only[AX,i0,i1,i4,iO,i6,i25,i26,i27,iP,g1,hlen,List.cons_append,ze,rvC]|refine wki ?_|refine vfa ?_)
  refine vp_loop_inv (fun s=>s.tmp 0 = .sv (.int .i64 2)/\s.tmp 1 = .sv (.sl l.length cs)/\s.tmp 4 = .ptr 4 0 0/\s.obj 4 0=some [.bool false,.sl 0 [],.sl 0 []]/\s.tmp 6 = .ptr 6 0 0/\s.tmp 25 = .sv (.sl l.length ds)/\s.tmp 26 = .sv (.int .i64 (l.length:Int)) /\
    s.tmp 27 = .sv (.int .i64 (i:Int))/\s.obj 6 0=some (rvC (S i))/\s.tmp 32 = .sv (.int .i64 2) /\
    ∃g8 g9,s.tmp 8 = .ptr 8 g8 0/\s.tmp 9 = .ptr 9 g9 0/\s.obj 8 g8=some (rvC x)/\((s.tmp 33 = .sv (.int .i64 0)/\s.obj 9 g9=some (rvC ((1:Int):Rat)))\/(s.tmp 33 = .sv (.int .i64 1)/\s.obj 9 g9=some (rvC x))\/(s.tmp 33 = .sv (.int .i64 2)/\s.obj 9 g9=some (rvC (x*x)))))
   (fun s=>match s.tmp 33 with | .sv (.int _ i)=>2-i.toNat|_=>0) ⟨i0,i1,i4,iO,i6,i25,i26,i27,iP,rfl,_,_,rfl,rfl,?_,.inl ⟨rfl,?_⟩⟩ ?_
  ·simp only[go_sem,rvC]
  ·simp only[go_sem,rvC]
  rintro s3 ⟨k0,k1,k4,kO,k6,k25,k26,k27,kP,k32,g8,g9,k8,k9,o8,h33⟩
  rcases h33 with⟨k33,o9⟩|⟨k33,o9⟩|⟨k33,o9⟩
  ·repeat (first|simp only[go_sem,k0,k1,k4,kO,k6,k25,k26,k27,kP,k32,k8,k9,o8,k33,o9,rvC]|simp (disch:=first|exact omg|fail) only[AX,k0,k1,k4,kO,k6,k25,k26,k27,kP,k32,k8,k9,o8,k33,o9,rvC]|refine wki ?_)
   refine vfa ?_;repeat (first|simp only[go_sem,k0,k1,k4,kO,k6,k25,k26,k27,kP,k32,k8,k9,o8,k33,o9,rvC]|simp (disch:=first|exact omg|fail) only[AX,k0,k1,k4,kO,k6,k25,k26,k27,kP,k32,k8,k9,o8,k33,o9,rvC]|refine wki ?_)
   exact⟨⟨_,_,rfl,rfl,o8,.inr (.inl ⟨rfl,if_pos rfl⟩)⟩,by omega⟩
  ·repeat (first|simp only[go_sem,k0,k1,k4,kO,k6,k25,k26,k27,kP,k32,k8,k9,o8,k33,o9,rvC]|simp (disch:=first|exact omg|fail) only[AX,k0,k1,k4,kO,k6,k25,k26,k27,kP,k32,k8,k9,o8,k33,o9,rvC]|refine wki ?_)
   refine vfa ?_;repeat (first|simp only[go_sem,k0,k1,k4,kO,k6,k25,k26,k27,kP,k32,k8,k9,o8,k33,o9,rvC]|simp (disch:=first|exact omg|fail) only[AX,k0,k1,k4,kO,k6,k25,k26,k27,kP,k32,k8,k9,o8,k33,o9,rvC]|refine wki ?_)
   exact⟨⟨_,_,rfl,rfl,o8,.inr (.inr ⟨rfl,if_pos rfl⟩)⟩,by omega⟩
  ·repeat (first|simp only[go_sem,k0,k1,k4,kO,k6,k25,k26,k27,kP,k32,k8,k9,o8,k33,o9,rvC]|simp (disch:=first|exact omg|fail) only[AX,k0,k1,k4,kO,k6,k25,k26,k27,kP,k32,k8,k9,o8,k33,o9,rvC]|refine wki ?_)
   refine vfa ?_;repeat (first|simp only[go_sem,k0,k1,k4,kO,k6,k25,k26,k27,kP,k32,k8,k9,o8,k33,o9,rvC]|simp (disch:=first|exact omg|fail) only[AX,k0,k1,k4,kO,k6,k25,k26,k27,kP,k32,k8,k9,o8,k33,o9,rvC]|refine wki ?_)
   exact⟨⟨i+1,rfl,by omega,rfl⟩,by omega⟩
end Go.Proofs.YtfknkoeagjonbaaGreat
namespace Go.Proofs.YtfknkoeagjonbaaGreat
open Go.Ev
abbrev lenR (l:List Rat):Rat:=((l.length:Int):Rat)
theorem lenR_cons (x:Rat) (l:List Rat):lenR (x::l)=lenR l+1:=by
 show (((l.length+1:Nat):Int):Rat)=_;rw[Int.natCast_add,Rat.intCast_add];rfl
theorem lenR_ne {l:List Rat} (h:l≠[]):lenR l≠0:=by
 intro h2;have:(l.length:Int)=0:=Rat.intCast_inj.1 h2;exact h (List.length_eq_zero_iff.1 (by omega))
theorem sumR_scale (c:Rat) (l:List Rat):sumR (l.map fun x=>c*x)=c*sumR l:=by
 induction l with
 |nil=>rw[wg,sumR_nil];grind
 |cons x l ih=>rw[zD,sumR_cons,sumR_cons,ih];grind
theorem div_cancel' {x n:Rat} (h:n≠0):x/n*n=x:=yD h
theorem div_uniq {x y n:Rat} (h:n≠0) (e:y*n=x):x/n=y:=by
 rw[<- e];exact Rat.mul_div_cancel h
abbrev Res:=Rat×List Int×Int
def stuR (l:List Rat) (mu:Rat):Res:=
 if l.length<2 then (0,[],5) else if varR l=0 then (0,[],5) else (lenR l*((meanR l-mu)*(meanR l-mu))/varR l,[(l.length:Int)-1],0)
def poolR (a b:List Rat):Res:=
 if a.length=0\/b.length=0\/a.length+b.length<3 then (0,[],5) else
 if (sqR a+sqR b)/(((a.length:Int)+(b.length:Int)-2:Int):Rat)=0 then (0,[],5) else
 ((meanR a-meanR b)*(meanR a-meanR b)/((sqR a+sqR b)/(((a.length:Int)+(b.length:Int)-2:Int):Rat)*((((a.length:Int)+(b.length:Int):Int):Rat)/(((a.length:Int)*(b.length:Int):Int):Rat))),[(a.length:Int)+(b.length:Int)-2],0)
def fisR (a b:List Rat):Res:=
 if a.length<2\/b.length<2 then (0,[],5) else if varR a=0\/varR b=0 then (0,[],5) else (varR a/varR b,[(a.length:Int)-1,(b.length:Int)-1],0)
end Go.Proofs.YtfknkoeagjonbaaGreat
namespace Go.Proofs.YtfknkoeagjonbaaGreat
open Go.Ev
theorem rat_Zero {v:SV} {q:Rat} {L:Nat} (hv:RatA v q L) (hL:1<=L:=by omega) (hL2:L<=16777216:=by omega):Go.Ev.Fn CX 108 [v] (.bool (decide (q=0))):=by
 have hN:=rat_Norm hv;obtain⟨s,n,d,rfl,-⟩:=hv;by_cases h:q=0
 ·subst h;rw[decide_eq_true rfl];rw[rv_zero]at hN;refine fni Tryz.f108 ?_;unfold Tryz.f108;repeat (first|simp only[go_sem]|simp (disch:=first|exact omg|fail) only[AX]|refine wki ?_|refine vfa ?_)
 ·have hp:=lim_pos (N:=q.num.natAbs) (fun e=>h (num_zero.1 (by omega)));rw[decide_eq_false h];refine fni Tryz.f108 ?_;unfold Tryz.f108;repeat (first|simp only[go_sem]|simp (disch:=first|exact omg|fail) only[AX]|refine wki ?_|refine vfa ?_)
theorem ref2_Zero {v:SV} {q:Rat} {L:Nat} (hv:RatA v q L) (hL:1<=L:=by omega) (hL2:L<=16777216:=by omega):Go.Ev.Fn CX 117 [v] (.bool (decide (q=0))):=by
 have hN:=ref2_Norm hv;obtain⟨s,n,d,rfl,-⟩:=hv;by_cases h:q=0
 ·subst h;rw[decide_eq_true rfl];rw[rv_zero]at hN;refine fni Tryz.f117 ?_;unfold Tryz.f117;repeat (first|simp only[go_sem]|simp (disch:=first|exact omg|fail) only[AX]|refine wki ?_|refine vfa ?_)
 ·have hp:=lim_pos (N:=q.num.natAbs) (fun e=>h (num_zero.1 (by omega)));rw[decide_eq_false h];refine fni Tryz.f117 ?_;unfold Tryz.f117;repeat (first|simp only[go_sem]|simp (disch:=first|exact omg|fail) only[AX]|refine wki ?_|refine vfa ?_)
theorem test_over {v w:SV} {q r:Rat} {L M:Nat} (hv:RatA v q L) (hw:RatA w r M) (hL:1<=L:=by omega) (hM:1<=M:=by omega) (h:L+M<=1000000:=by omega):Go.Ev.Fn CX 52 [v,w] (rv (q/r)):=by
 have d:=rat_Div hv hw hL hM;generalize decide (r≠0)=b at *
 obtain⟨s,n,d',rfl,-⟩:=hv;obtain⟨s',n',d'',rfl,-⟩:=hw;refine fni Tryz.f52 ?_;unfold Tryz.f52;repeat (first|simp only[go_sem]|simp (disch:=first|exact omg|fail) only[AX]|refine wki ?_|refine vfa ?_)
theorem test_square {v:SV} {q:Rat} {L:Nat} (hv:RatA v q L) (hL:1<=L:=by omega) (h:L<=1000000:=by omega):Go.Ev.Fn CX 224 [v] (rv (q*q)):=by
 have d:=rat_Mul hv hv hL hL;obtain⟨s,n,d',rfl,-⟩:=hv;refine fni Tryz.f224 ?_;unfold Tryz.f224;repeat (first|simp only[go_sem]|simp (disch:=first|exact omg|fail) only[AX]|refine wki ?_|refine vfa ?_)
abbrev resV (r:Res):SV := .tup [rv r.1,.sl r.2.1.length (r.2.1.map fun i => .int .i64 i),.int .i64 r.2.2]
theorem test_student {cs:List SV} {l:List Rat} {v:SV} {mu:Rat} {L M:Nat} (h:RowC cs l L) (hm:RatA v mu M) (hL:1<=L:=by omega) (hL2:L<=100:=by omega) (hM:1<=M:=by omega) (hM2:M<=100:=by omega) (hl:l.length<=12:=by omega) :
  Go.Ev.Fn CX 154 [.sl l.length cs,v] (resV (stuR l mu)):=by
 have r0:=rat_Int 0;have v1:=stat_Variance h hL (by omega) hl;have hz:=row_sz hL h;have zv:=sz_var hL hz hl;have zm:=sz_mean hL hz hl;unfold stuR;by_cases h0:l.length<2
 ·rw[if_pos h0]at v1 ⊢;clear hz zv zm;obtain⟨s,n,d,rfl,-⟩:=hm;refine fni Tryz.f154 ?_;unfold Tryz.f154;repeat (first|simp only[go_sem]|simp (disch:=first|exact omg|fail) only[AX]|refine wki ?_|refine vpd 7 [] ?_|refine vfa ?_)
  rfl
 ·rw[if_neg h0]at v1 ⊢;have zz:=rat_Zero (RatA_rv zv);by_cases hv:varR l=0
  ·rw[if_pos hv];rw[decide_eq_true hv]at zz;clear hz zv zm;obtain⟨s,n,d,rfl,-⟩:=hm;refine fni Tryz.f154 ?_;unfold Tryz.f154;repeat (first|simp only[go_sem]|simp (disch:=first|exact omg|fail) only[AX]|refine wki ?_|refine vpd 7 [] ?_|refine vfa ?_)
   rfl
  ·rw[if_neg hv];rw[decide_eq_false hv]at zz;have m1:=stat_Mean h hL (by omega) hl;rw[if_neg (by omega)]at m1;have i1:=rat_Int (l.length:Int);have zi:=int_szR (n:=(l.length:Int));have d1:=rat_Sub (RatA_rv zm) hm;have zd:=szR_sub zm (szR_of hm hM);have s1:=test_square (RatA_rv zd);have zs:=szR_mul zd zd;have p1:=rat_Mul (RatA_rv zi) (RatA_rv zs);have o1:=test_over (RatA_rv (szR_mul zi zs)) (RatA_rv zv);clear hz zv zm zi zd zs h;obtain⟨s,n,d,rfl,-⟩:=hm;generalize meanR l=m at *
   generalize varR l=w at *
   refine fni Tryz.f154 ?_;unfold Tryz.f154;repeat (first|simp only[go_sem]|simp (disch:=first|exact omg|fail) only[AX]|refine wki ?_|refine vpd 7 [] ?_|refine vfa ?_)
theorem test_paired {cs ds:List SV} {l m:List Rat} (h:RowC cs l 1) (h2:RowC ds m 1) (hl:l.length<=12) (hm:m.length<=12) :
  Go.Ev.Fn CX 155 [.sl l.length cs,.sl m.length ds] (resV (if l.length≠m.length then (0,[],1) else stuR (List.zipWith (fun a b=>a-b) l m) 0)):=by
 have r0:=rat_Int 0;by_cases hlm:l.length=m.length
 ·rw[if_neg (not_not_intro hlm)];have hzl:(List.zipWith (fun a b=>a-b) l m).length=l.length:=by rw[zG];omega
  have hzg : ∀i,i<l.length->(List.zipWith (fun a b=>a-b) l m).getD i 0=l.getD i 0-m.getD i 0:=by
   intro i hi;rw[xC,xC,xC,xD (by omega),xD hi,xD (by omega),zO];rfl
  have hlen:=row_len h;have hlen2:=row_len h2;have hzz : ∀x∈List.zipWith (fun a b=>a-b) l m,szR x 3:=by
   intro x hx;obtain⟨i,hi,rfl⟩:=zC hx;rw[zO];exact szR_sub (row_sz (by omega) h _ (yQ _)) (row_sz (by omega) h2 _ (yQ _))
  generalize hZ:List.zipWith (fun a b=>a-b) l m=z at *
  have t1:=test_student (rvsC_row z hzz) (RatA_rv (int_szR (n:=0)));have e0:((0:Int):Rat)=0:=rfl;rw[e0]at t1 r0;rw[hzl]at t1;have hrl:=rvsC_len z;rw[hzl]at hrl;refine fni Tryz.f155 ?_;unfold Tryz.f155;repeat (first|simp only[go_sem]|simp (disch:=first|exact omg|fail) only[AX]|refine wki ?_|refine vpd 7 [] ?_)
  refine vp_loop_inv (fun s=>s.tmp 4 = .ptr 4 0 0/\s.obj 4 0=some [.bool false,.sl 0 [],.sl 0 []]/\s.tmp 1 = .sv (.sl m.length ds)/\s.tmp 16 = .sv (.sl l.length cs)/\s.tmp 17 = .sv (.int .i64 (l.length:Int)) /\
    ∃i:Nat,s.tmp 18 = .sv (.int .i64 (i:Int))/\i<=l.length/\((i=0/\s.tmp 7 = .nil/\s.gen 31=0)\/(0<i/\s.tmp 7 = .ref 31 0 3 0 i/\s.obj 31 0=some (rvsC (z.take i)))))
   (fun s=>match s.tmp 18 with | .sv (.int _ i)=>l.length-i.toNat|_=>0) ⟨rfl,rfl,rfl,rfl,rfl,0,rfl,by omega,.inl ⟨rfl,rfl,rfl⟩⟩ ?_
  rintro s2 ⟨i4,iO,i1,i16,i17,i,i18,hi,hc⟩
  by_cases hend:i=l.length
  ·subst hend;rcases hc with⟨h00,i7,_⟩|⟨_,i7,iP⟩
   ·rw[h00]at t1 hzl;have hz0:z=[]:=List.length_eq_zero_iff.1 hzl;subst hz0;rw[rvsC_nil]at t1;repeat (first|simp only[go_sem,i4,iO,i1,i16,i17,i18,i7]|simp (disch:=first|exact omg|fail) only[AX,i4,iO,i1,i16,i17,i18,i7]|refine wki ?_|refine vpd 7 [] ?_|refine vfa ?_)
   ·rw[xH (by omega)]at iP;have htk:(rvsC z).take (l.length*3)=rvsC z:=xH (by omega);repeat (first|simp only[go_sem,i4,iO,i1,i16,i17,i18,i7,iP,rvC,htk,xf]|simp (disch:=first|exact omg|fail) only[AX,i4,iO,i1,i16,i17,i18,i7,iP,rvC,htk,xf]|refine wki ?_|refine vpd 7 [] ?_|refine vfa ?_)
  ·obtain⟨s,n,d,rest,hat,hA⟩:=row_at (i:=i) h (by omega);obtain⟨s',n',d',rest2,hat2,hA2⟩:=row_at (i:=i) h2 (by omega);have a:=rat_Sub hA hA2;have hsn:=rvs_snoc (l:=z) (i:=i);rw[<- hzg i (by omega)]at a;have hrl2:=rvsC_len (z.take i);rw[xo,hzl,yO (by omega)]at hrl2;clear hzz h h2 hA hA2 t1 r0 hzg;rcases hc with⟨h00,i7,ig⟩|⟨h00,i7,iP⟩
   ·subst h00;rw[yz,rvsC_nil,ze]at hsn;rw[zM,xf]at hat hat2;subst hat hat2;repeat (first|simp only[go_sem,i4,iO,i1,i16,i17,i18,i7,ig,N0]|simp (disch:=first|exact omg|fail) only[AX,i4,iO,i1,i16,i17,i18,i7,ig,N0]|refine wki ?_|refine vpd 7 [] ?_|refine vfa ?_)
    exact⟨⟨1,rfl,by omega,.inr ⟨by omega,rfl,by first|(rw[<- hsn];rfl)|rw[<- hsn]⟩⟩,by omega⟩
   ·unfold rvC at hsn;repeat (first|simp only[go_sem,i4,iO,i1,i16,i17,i18,i7,iP,hat,hat2,hlen,hlen2,rvC,N0,hsn,hrl2]|simp (disch:=first|exact omg|fail) only[AX,i4,iO,i1,i16,i17,i18,i7,iP,hat,hat2,hlen,hlen2,rvC,N0,hsn,hrl2]|refine wki ?_|refine vpd 7 [] ?_|refine vfa ?_)
    exact⟨⟨i+1,rfl,by omega,.inr ⟨by omega,rfl,by first|(rw[<- hsn];rfl)|rw[<- hsn]⟩⟩,by omega⟩
 ·rw[if_pos hlm];clear h h2;refine fni Tryz.f155 ?_;unfold Tryz.f155;repeat (first|simp only[go_sem]|simp (disch:=first|exact omg|fail) only[AX]|refine wki ?_|refine vpd 7 [] ?_|refine vfa ?_)
  rfl
theorem test_spread {cs:List SV} {l:List Rat} (h:RowC cs l 1) (hl:l.length<=12) (h0:1<=l.length:=by omega):Go.Ev.Fn CX 226 [.sl l.length cs] (rv (sqR l)):=by
 have c1:=stat_Central h (by omega) (by omega) hl h0;have z:=sz_sq (by omega) (row_sz (by omega) h) hl;have i1:=rat_Int (l.length:Int);have zi:=int_szR (n:=(l.length:Int));have m1:=rat_Mul (RatA_rv (szR_div z zi)) (RatA_rv zi);rw[div_cancel' (lenR_ne (l:=l) (by rintro rfl;simp at h0))]at m1;clear h z;refine fni Tryz.f226 ?_;unfold Tryz.f226;repeat (first|simp only[go_sem]|simp (disch:=first|exact omg|fail) only[AX]|refine wki ?_|refine vpd 2 [] ?_|refine vfa ?_)
theorem test_pooled {cs ds:List SV} {l m:List Rat} (h:RowC cs l 1) (h2:RowC ds m 1) (hl:l.length<=12) (hm:m.length<=12) :
  Go.Ev.Fn CX 156 [.sl l.length cs,.sl m.length ds] (resV (poolR l m)):=by
 have r0:=rat_Int 0;unfold poolR;by_cases c1:l.length=0
 ·rw[if_pos (.inl c1)];clear h h2;refine fni Tryz.f156 ?_;unfold Tryz.f156;repeat (first|simp only[go_sem]|simp (disch:=first|exact omg|fail) only[AX]|refine wki ?_|refine vpd 10 [] ?_|refine vfa ?_)
  rfl
 by_cases c2:m.length=0
 ·rw[if_pos (.inr (.inl c2))];clear h h2;refine fni Tryz.f156 ?_;unfold Tryz.f156;repeat (first|simp only[go_sem]|simp (disch:=first|exact omg|fail) only[AX]|refine wki ?_|refine vpd 10 [] ?_|refine vfa ?_)
  rfl
 by_cases c3:l.length+m.length<3
 ·rw[if_pos (.inr (.inr c3))];clear h h2;refine fni Tryz.f156 ?_;unfold Tryz.f156;repeat (first|simp only[go_sem]|simp (disch:=first|exact omg|fail) only[AX]|refine wki ?_|refine vpd 10 [] ?_|refine vfa ?_)
  rfl
 rw[if_neg (by omega)];have s1:=test_spread h hl;have s2:=test_spread h2 hm;have z1:=sz_sq (by omega) (row_sz (by omega) h) hl;have z2:=sz_sq (by omega) (row_sz (by omega) h2) hm;have y1:=sz_mean (by omega) (row_sz (by omega) h) hl;have y2:=sz_mean (by omega) (row_sz (by omega) h2) hm;have m1:=stat_Mean h (by omega) (by omega) hl;have m2:=stat_Mean h2 (by omega) (by omega) hm;rw[if_neg c1]at m1;rw[if_neg c2]at m2;have a1:=rat_Add (RatA_rv z1) (RatA_rv z2);have za:=szR_add z1 z2;have i1:=rat_Int ((l.length:Int)+(m.length:Int)-2);have zi1:=int_szR (n:=(l.length:Int)+(m.length:Int)-2)
 have o1:=test_over (RatA_rv za) (RatA_rv zi1);have zo:=szR_div za zi1;have zz:=rat_Zero (RatA_rv zo);clear z1 z2 za zi1 h h2;by_cases hv:(sqR l+sqR m)/(((l.length:Int)+(m.length:Int)-2:Int):Rat)=0
 ·rw[if_pos hv];rw[decide_eq_true hv]at zz;clear hv;refine fni Tryz.f156 ?_;unfold Tryz.f156;repeat (first|simp only[go_sem]|simp (disch:=first|exact omg|fail) only[AX]|refine wki ?_|refine vpd 10 [] ?_|refine vfa ?_)
  rfl
 ·rw[if_neg hv];rw[decide_eq_false hv]at zz;have lm:1<=l.length*m.length/\l.length*m.length<=144:=⟨zI (by omega) (by omega),xJ hl hm⟩
  have elm:(l.length:Int)*(m.length:Int)=((l.length*m.length:Nat):Int):=(xw _ _).symm;have i2:=rat_Int ((l.length:Int)+(m.length:Int));have zi2:=int_szR (n:=(l.length:Int)+(m.length:Int));have i3:=rat_Int ((l.length:Int)*(m.length:Int)) (by rw[elm];omega);have zi3:=int_szR (n:=(l.length:Int)*(m.length:Int)) (by rw[elm];omega);have o2:=test_over (RatA_rv zi2) (RatA_rv zi3);have zo2:=szR_div zi2 zi3;have d1:=rat_Sub (RatA_rv y1) (RatA_rv y2);have zd:=szR_sub y1 y2;have q1:=test_square (RatA_rv zd);have zq:=szR_mul zd zd;have p1:=rat_Mul (RatA_rv zo) (RatA_rv zo2)
  have o3:=test_over (RatA_rv zq) (RatA_rv (szR_mul zo zo2));clear zi2 zi3 zo zo2 zd zq y1 y2 hv;generalize meanR l=x at *
  generalize meanR m=y at *
  generalize (sqR l+sqR m)/(((l.length:Int)+(m.length:Int)-2:Int):Rat)=v at *
  generalize sqR l+sqR m=v2 at *
  generalize (((l.length:Int)+(m.length:Int):Int):Rat)/(((l.length:Int)*(m.length:Int):Int):Rat)=w at *
  rw[elm]at i3 o2;generalize hpr:l.length*m.length=pr at *
  have hmul:IntKind.i64.wrap ((l.length:Int)*(m.length:Int))=(pr:Int):=by rw[elm];exact wI64
  clear elm;refine fni Tryz.f156 ?_;unfold Tryz.f156;repeat (first|simp only[go_sem,hmul]|simp (disch:=first|exact omg|fail) only[AX,hmul]|refine wki ?_|refine vpd 10 [] ?_|refine vfa ?_)
theorem test_fisher {cs ds:List SV} {l m:List Rat} (h:RowC cs l 1) (h2:RowC ds m 1) (hl:l.length<=12) (hm:m.length<=12) :
  Go.Ev.Fn CX 157 [.sl l.length cs,.sl m.length ds] (resV (fisR l m)):=by
 have r0:=rat_Int 0;have v1:=stat_Variance h (by omega) (by omega) hl;have v2:=stat_Variance h2 (by omega) (by omega) hm;have z1:=sz_var (by omega) (row_sz (by omega) h) hl;have z2:=sz_var (by omega) (row_sz (by omega) h2) hm;have q1:=rat_Zero (RatA_rv z1);have q2:=rat_Zero (RatA_rv z2);have o1:=test_over (RatA_rv z1) (RatA_rv z2);unfold fisR;clear h h2 z1 z2;by_cases c1:l.length<2
 ·rw[if_pos (.inl c1)];rw[if_pos c1]at v1;refine fni Tryz.f157 ?_;unfold Tryz.f157;repeat (first|simp only[go_sem]|simp (disch:=first|exact omg|fail) only[AX]|refine wki ?_|refine vfa ?_)
  rfl
 rw[if_neg c1]at v1;by_cases c2:m.length<2
 ·rw[if_pos (.inr c2)];rw[if_pos c2]at v2;refine fni Tryz.f157 ?_;unfold Tryz.f157;repeat (first|simp only[go_sem]|simp (disch:=first|exact omg|fail) only[AX]|refine wki ?_|refine vfa ?_)
  rfl
 rw[if_neg c2]at v2;rw[if_neg (by omega)];generalize varR l=a at *
 generalize varR m=b at *
 by_cases c3:a=0
 ·rw[if_pos (.inl c3)];rw[decide_eq_true c3]at q1;refine fni Tryz.f157 ?_;unfold Tryz.f157;repeat (first|simp only[go_sem]|simp (disch:=first|exact omg|fail) only[AX]|refine wki ?_|refine vfa ?_)
  rfl
 rw[decide_eq_false c3]at q1;by_cases c4:b=0
 ·rw[if_pos (.inr c4)];rw[decide_eq_true c4]at q2;refine fni Tryz.f157 ?_;unfold Tryz.f157;repeat (first|simp only[go_sem]|simp (disch:=first|exact omg|fail) only[AX]|refine wki ?_|refine vfa ?_)
  rfl
 rw[decide_eq_false c4]at q2;rw[if_neg (fun h=>h.elim c3 c4)];refine fni Tryz.f157 ?_;unfold Tryz.f157;repeat (first|simp only[go_sem]|simp (disch:=first|exact omg|fail) only[AX]|refine wki ?_|refine vfa ?_)
 refine ro_ref (cs:=[.int .i64 ((l.length-1:Nat):Int),.int .i64 ((m.length-1:Nat):Int)]) (by decide) ?_ rfl;simp only[go_sem]
end Go.Proofs.YtfknkoeagjonbaaGreat
namespace Go.Proofs.YtfknkoeagjonbaaGreat
open Go.Ev
abbrev ballR (a b:Rat):SV := .agg [.bool (decide (a.num<0)),natV (lim a.num.natAbs),natV (lim a.den),.bool (decide (b.num<0)),natV (lim b.num.natAbs),natV (lim b.den)]
theorem ball_Of {v:SV} {q:Rat} {L:Nat} (hv:RatA v q L) (hL:L<=1000000:=by omega):Go.Ev.Fn CX 32 [v] (ballR q q):=by
 have n1:=rat_Norm hv;obtain⟨s,n,d,rfl,-⟩:=hv;refine fni Tryz.f32 ?_;unfold Tryz.f32;repeat (first|simp only[go_sem]|simp (disch:=first|exact omg|fail) only[AX]|refine wki ?_|refine vpd 1 [] ?_|refine vfa ?_)
theorem ball_Sub {a b c d:Rat} {L:Nat} (ha:szR a L) (hb:szR b L) (hc:szR c L) (hd:szR d L) (hL:1<=L:=by omega) (hL2:L<=1000000:=by omega):Go.Ev.Fn CX 104 [ballR a b,ballR c d] (ballR (a-d) (b-c)):=by
 have s1:=rat_Sub (RatA_rv ha) (RatA_rv hd) hL hL;have s2:=rat_Sub (RatA_rv hb) (RatA_rv hc) hL hL;refine fni Tryz.f104 ?_;unfold Tryz.f104;repeat (first|simp only[go_sem]|simp (disch:=first|exact omg|fail) only[AX]|refine wki ?_|refine vpd 1 [] ?_|refine vfa ?_)
end Go.Proofs.YtfknkoeagjonbaaGreat
namespace Go.Proofs.YtfknkoeagjonbaaGreat
open Go.Ev
theorem mul_denE (D:Rat):D*(D.den:Rat)=(D.num:Rat):=by
 have dn:(0:Rat)<(D.den:Rat):=by exact_mod_cast Rat.den_pos (self:=D)
 have:=(Rat.mkRat_eq_div D.num D.den).symm.trans (wh D);have e:=yD (a:=(D.num:Rat)) (b:=(D.den:Rat)) (by grind);rwa [this]at e
theorem fix_Rat {q:Rat} {w L:Nat} (hz:szR q L) (hL:L<=1000:=by omega) (hw:w<=10000:=by omega):Go.Ev.Fn CX 171 [rv q,.int .i64 (w:Int)] (spanV (q.num.natAbs*2^w/q.den) (q.num.natAbs*2^w/q.den+1)):=by
 obtain⟨z1,z2⟩:=hz;have o:=fix_Of (n:=q.num.natAbs) (d:=q.den) (w:=w) (by omega) (by omega) q.den_nz;generalize q.num.natAbs*2^w/q.den=x at *
 refine fni Tryz.f171 ?_;unfold Tryz.f171;repeat (first|simp only[go_sem]|simp (disch:=first|exact omg|fail) only[AX]|refine wki ?_|refine vfa ?_)
theorem fix_Unit {w:Nat} (hw:w<=1000000000000:=by omega):Go.Ev.Fn CX 234 [.int .i64 (w:Int)] (spanV (2^w) (2^w+1)):=by
 have o:=fix_One;have l1:=lim_len1;have s:=fix_shl (a:=1) (m:=w);have l:=lim_len_shl (a:=1) (n:=w);rw[xe]at s l;have n1:=fix_Next (a:=2^w);generalize 2^w=P at *
 refine fni Tryz.f234 ?_;unfold Tryz.f234;repeat (first|simp only[go_sem]|simp (disch:=first|exact omg|fail) only[AX]|refine wki ?_|refine vfa ?_)
theorem fix_Told {a b w p:Nat} (ha:(lim a).length<=10000:=by omega) (hb:(lim b).length<=10000:=by omega) (hp:p<w:=by omega) (hw:w<=10000:=by omega):Go.Ev.Fn CX 110 [spanV a b,.int .i64 (w:Int),.int .i64 (p:Int)] (ballR (mkRat ((a/2^(w-p):Nat):Int) (2^p)) (mkRat ((b/2^(w-p)+1:Nat):Int) (2^p))):=by
 have o:=fix_One;have l1:=lim_len1;have sh:=fix_shl (a:=1) (m:=p);have lp:=lim_len_shl (a:=1) (n:=p);rw[xe]at sh lp;have e0:(p:Int)-(w:Int) = -((w-p:Nat):Int):=by omega
 have s1:=fix_shr (a:=a) (m:=w-p);have s2:=fix_shr (a:=b) (m:=w-p);have l3:=lim_len_mono (xt a (2^(w-p)));have l4:=lim_len_mono (xt b (2^(w-p)));have n1:=fix_Next (a:=b/2^(w-p));have l5:=lim_len_add (a:=b/2^(w-p)) (b:=1) (L:=10000);have r1:=rat_OfL (s:=false) (n:=a/2^(w-p)) (d:=2^p);have r2:=rat_OfL (s:=false) (n:=b/2^(w-p)+1) (d:=2^p);rw[show sgn false (a/2^(w-p))=((a/2^(w-p):Nat):Int) from rfl]at r1;rw[show sgn false (b/2^(w-p)+1)=((b/2^(w-p)+1:Nat):Int) from rfl]at r2;generalize mkRat ((a/2^(w-p):Nat):Int) (2^p)=q1 at *
 generalize mkRat ((b/2^(w-p)+1:Nat):Int) (2^p)=q2 at *
 generalize b/2^(w-p)+1=y' at *
 generalize a/2^(w-p)=x at *
 generalize b/2^(w-p)=y at *
 generalize 2^p=P at *
 generalize hk:w-p=k at *
 refine fni Tryz.f110 ?_;unfold Tryz.f110;repeat (first|simp only[go_sem,e0]|simp (disch:=first|exact omg|fail) only[AX,e0]|refine wki ?_|refine vpd 2 [12,16,7,20,24,25,7] ?_|refine vfa ?_)
abbrev unN (q:Rat) (w:Nat):Nat:=q.num.natAbs*2^w/q.den
theorem fix_Ball {lo hi:Rat} {w L:Nat} (h1:szR lo L) (h2:szR hi L) (hL:L<=1000:=by omega) (hw:w<=10000:=by omega):Go.Ev.Fn CX 166 [ballR lo hi,.int .i64 (w:Int)] (spanV (unN lo w) (unN hi w+1)):=by
 have r1:Go.Ev.Fn CX 171 [rv lo,.int .i64 (w:Int)] (spanV (unN lo w) (unN lo w+1)):=fix_Rat h1 hL hw;have r2:Go.Ev.Fn CX 171 [rv hi,.int .i64 (w:Int)] (spanV (unN hi w) (unN hi w+1)):=fix_Rat h2 hL hw;generalize unN lo w=x at *
 generalize unN hi w=y at *
 refine fni Tryz.f166 ?_;unfold Tryz.f166;repeat (first|simp only[go_sem]|simp (disch:=first|exact omg|fail) only[AX]|refine wki ?_|refine vpd 1 [] ?_|refine vfa ?_)
theorem fix_Inverse {a b w:Nat} (h1:(lim a).length<=30000000000:=by omega) (h2:(lim b).length<=30000000000:=by omega) (ha:0<a:=by omega) (hb:0<b:=by omega) (hw:w<=900000000000:=by omega):Go.Ev.Fn CX 239 [spanV a b,.int .i64 (w:Int)] (spanV (2^(2*w)/b) (2^(2*w)/a+1)):=by
 have o:=fix_One;have l1:=lim_len1;have s:=fix_shl (a:=1) (m:=2*w);have l:=lim_len_shl (a:=1) (n:=2*w);rw[xe]at s l;have o1:=fix_Over' (N:=2^(2*w)) (D:=b);have o2:=fix_Over' (N:=2^(2*w)) (D:=a);have l2:=lim_len_mono (xt (2^(2*w)) a);have n1:=fix_Next (a:=2^(2*w)/a);rw[show ((2*w:Nat):Int)=2*(w:Int) by omega]at s;generalize 2^(2*w)/b=x at *
 generalize 2^(2*w)/a+1=y' at *
 generalize 2^(2*w)/a=y at *
 generalize 2^(2*w)=P at *
 refine fni Tryz.f239 ?_;unfold Tryz.f239;repeat (first|simp only[go_sem]|simp (disch:=first|exact omg|fail) only[AX]|refine wki ?_|refine vpd 2 [5,12,5,16,17] ?_|refine vfa ?_)
theorem enc_inv {a b w:Nat} {q:Rat} (ha:0<a) (h:Enc w a b q):Enc w (2^(2*w)/b) (2^(2*w)/a+1) (1/q)/\0<q:=by
 obtain⟨h1,h2⟩:=h;have P:=p2_pos w;have aR:(0:Rat)<(a:Rat):=by exact_mod_cast ha
 have qP:0<q*p2 w:=by grind
 have q0:0<q:=by
  rcases zV (a:=q) (b:=0) with g|g
  ·have:=xA g (show 0<=p2 w by grind);grind
  ·by_cases e:q=0
   ·rw[e]at qP;grind
   ·grind
 have bR:(0:Rat)<(b:Rat):=by grind
 have hb:0<b:=by exact_mod_cast bR
 have e0:((2^(2*w):Nat):Rat)=p2 w*p2 w:=by
  show _=((2^w:Nat):Rat)*((2^w:Nat):Rat)
  have:((2^w:Nat):Rat)*((2^w:Nat):Rat)=((2^w*2^w:Nat):Rat):=by exact_mod_cast rfl
  rw[this,<- xN];congr 2;omega
 have f:=floor_le (a:=2^(2*w)) (d:=b);have g:=le_floor (a:=2^(2*w)) (d:=a) ha;rw[e0]at f g;have iq:1/q*q=1:=yD (by grind);have i0:0<=1/q:=by
  rcases zV (a:=0) (b:=1/q) with k|k
  ·exact k
  ·have:=xA k (show 0<=q by grind);grind
 generalize 1/q=i at *
 refine⟨⟨le_by bR ?_,le_by aR ?_⟩,q0⟩
 ·-- x * b <= P * P = i * q * P * P <= i P * b
  have k1:=xI h2 (show 0<=i*p2 w from xL i0 (by grind));have k2:i*p2 w*(q*p2 w)=p2 w*p2 w:=by
   have:i*p2 w*(q*p2 w)=i*q*(p2 w*p2 w):=by grind
   rw[this,iq,yK]
  grind
 ·have k1:=xI h1 (show 0<=i*p2 w from xL i0 (by grind));have k2:i*p2 w*(q*p2 w)=p2 w*p2 w:=by
   have:i*p2 w*(q*p2 w)=i*q*(p2 w*p2 w):=by grind
   rw[this,iq,yK]
  grind
theorem unN_le {q:Rat} (h0:0<=q) (w:Nat):((unN q w:Nat):Rat)<=q*p2 w/\q*p2 w<=((unN q w+1:Nat):Rat):=by
 have D:(0:Rat)<(q.den:Rat):=by exact_mod_cast q.den_pos
 have f:=floor_le (a:=q.num.natAbs*2^w) (d:=q.den);have g:=le_floor (a:=q.num.natAbs*2^w) (d:=q.den) q.den_pos;have e:((q.num.natAbs*2^w:Nat):Rat)=q*p2 w*(q.den:Rat):=by
  have c1:((q.num.natAbs*2^w:Nat):Rat)=((q.num.natAbs:Nat):Rat)*p2 w:=by exact_mod_cast rfl
  have h:=mul_denE q;have h2:((q.num.natAbs:Nat):Rat)=(q.num:Rat):=by
   have:(q.num.natAbs:Int)=q.num:=wb (zP.2 h0);rw[<- this];rfl
  rw[c1,h2,<- h];grind
 rw[e]at f g;exact⟨le_by D f,le_by D g⟩
theorem ball_enc {lo hi q:Rat} (h0:0<=lo) (h1:lo<=q) (h2:q<=hi) (w:Nat):Enc w (unN lo w) (unN hi w+1) q:=by
 have P:=p2_pos w;have a:=(unN_le h0 w).1;have b:=(unN_le (show 0<=hi by grind) w).2;have c:=xA h1 (show 0<=p2 w by grind);have d:=xA h2 (show 0<=p2 w by grind);exact⟨xO a c,xO d b⟩
end Go.Proofs.YtfknkoeagjonbaaGreat
namespace Go.Proofs.YtfknkoeagjonbaaGreat
open Go.Ev
set_option maxHeartbeats 1000000 in
theorem fix_Power {a1 a2 n w F:Nat} (hn:n<2^F) (hF:F<=4) (h1:(lim a1).length<=50) (h2:(lim a2).length<=50) (hw:w<=1000:=by omega) (hw0:0<w:=by omega) :
  Go.Ev.Fn CX 288 [spanV a1 a2,.int .i64 (n:Int),.int .i64 (w:Int)] (spanV (powGo w F n (2^w) (2^w+1) a1 a2).1 (powGo w F n (2^w) (2^w+1) a1 a2).2):=by
 have un:=fix_Unit (w:=w);have l1:=lim_len1;have lp:=lim_len_shl (a:=1) (n:=w);rw[xe]at lp;have lp2:=lim_len_add (a:=2^w) (b:=1) (L:=40);obtain⟨R,hR⟩ : ∃R,R=powGo w F n (2^w) (2^w+1) a1 a2:=⟨_,rfl⟩
 rw[<- hR];have hF16:(2:Nat)^F<=16:=xE (n:=2) (by omega) hF;have hF4:100*2^F<=1600:=by omega
 refine fni Tryz.f288 ?_;unfold Tryz.f288;repeat (first|simp only[go_sem]|simp (disch:=first|exact omg|fail) only[AX]|refine wki ?_|refine vfa ?_)
 refine vp_loop_inv (fun s=>s.tmp 2 = .sv (.int .i64 (w:Int))/\s.tmp 3 = .ptr 3 0 0/\s.tmp 6 = .ptr 6 0 0/\s.obj 6 0=some [.sl 0 [],.sl 0 []]/\s.tmp 7 = .ptr 7 0 0 /\
   ∃f m c1 c2 d1 d2 e g:Nat,s.tmp 1 = .sv (.int .i64 (m:Int))/\m<2^f/\f<=F/\s.obj 7 0=some [natV (lim c1),natV (lim c2)]/\s.obj 3 0=some [natV (lim d1),natV (lim d2)]/\powGo w f m c1 c2 d1 d2=R /\
    (lim c1).length<=e/\(lim c2).length<=e/\(lim d1).length<=g/\(lim d2).length<=g/\(g+1)*2^f<=1600/\e+1601*f<=7000/\1<=e)
  (fun s=>match s.tmp 1 with | .sv (.int _ i)=>i.toNat|_=>0) ⟨rfl,rfl,rfl,rfl,rfl,F,n,2^w,2^w+1,a1,a2,41,50,rfl,hn,xU _,rfl,rfl,hR.symm,by omega,by omega,by omega,by omega,by omega,by omega,by omega⟩ ?_
 rintro s ⟨i2,i3,i6,o6,i7,f,m,c1,c2,d1,d2,e,g,i1,hm,hf,o7,o3,hp,x1,x2,x3,x4,x5,x6,x7⟩
 cases f with
 |zero=>
  obtain rfl:m=0:=by omega
  rw[powGo_zero]at hp;subst hp;repeat (first|simp only[go_sem,i2,i3,i6,o6,i7,i1,o7,o3]|simp (disch:=first|exact omg|fail) only[AX,i2,i3,i6,o6,i7,i1,o7,o3]|refine wki ?_)
 |succ f=>
  rw[powGo]at hp;by_cases h0:m=0
  ·subst h0;rw[if_pos rfl]at hp;subst hp;repeat (first|simp only[go_sem,i2,i3,i6,o6,i7,i1,o7,o3]|simp (disch:=first|exact omg|fail) only[AX,i2,i3,i6,o6,i7,i1,o7,o3]|refine wki ?_)
  ·rw[if_neg h0]at hp;rw[xW]at hm x5;have hp1:1<=2^f:=xM (by omega);have hg:g+1<=1600:=by
    have:=yg (g+1) (show 0<2^f*2 by omega);omega
   have hm16:m<16:=by
    have:2^f*2<=16:=by rw[<- xW];exact xG (xE (n:=2) (by omega) hf) hF16
    omega
   have an:=and_one64 (a:=m);have y1:=lim_len_mul (a:=c1) (b:=d1);have y2:=lim_len_mul (a:=c2) (b:=d2);have y3:=lim_len_mul (a:=d1) (b:=d1);have y4:=lim_len_mul (a:=d2) (b:=d2);have w1:=lim_len_mono (xt (c1*d1) (2^w));have w2:=lim_len_add (a:=c2*d2/2^w) (b:=1) (L:=e+g) (xG (lim_len_mono (xt (c2*d2) (2^w))) (by omega));have w3:=lim_len_mono (xt (d1*d1) (2^w));have hge:(g+g+1+1)*2^f<=1600:=by
    have:(g+g+1+1)*2^f=(g+1)*(2^f*2):=by
     rw[xV (2^f) 2,<- xP];congr 1;omega
    omega
   have mm:=fix_Mul (a:=c1) (b:=c2) (c:=d1) (d:=d2) (w:=w) (by omega) (by omega) (by omega) (by omega) (by omega) hw0;have sq:=fix_Mul (a:=d1) (b:=d2) (c:=d1) (d:=d2) (w:=w) (by omega) (by omega) (by omega) (by omega) (by omega) hw0;have w4:(lim (d2*d2/2^w+1)).length<=g+g+1:=by
    rcases xl g with hg0|hg0
    ·have:d2=0:=by
      have:(lim d2).length=0:=by omega
      rw[List.length_eq_zero_iff]at this;exact lim_eq_nil.1 this
     subst this;rw[zM,Nat.zero_div];show (lim 1).length<=_;omega
    ·exact lim_len_add (a:=d2*d2/2^w) (b:=1) (L:=g+g) (xG (lim_len_mono (xt (d2*d2) (2^w))) (by omega))
   generalize c1*d1/2^w=u1 at *
   generalize c2*d2/2^w+1=u2 at *
   generalize d1*d1/2^w=v1 at *
   generalize d2*d2/2^w+1=v2 at *
   by_cases hod:m%2=1
   ·rw[if_pos hod]at hp;rw[hod]at an;repeat (first|simp only[go_sem,i2,i3,i6,o6,i7,i1,o7,o3,an]|simp (disch:=first|exact omg|fail) only[AX,i2,i3,i6,o6,i7,i1,o7,o3,an]|refine wki ?_|refine vfa ?_)
    exact⟨⟨f,m/2,u1,u2,v1,v2,e+g+1,g+g+1,rfl,by omega,by omega,rfl,rfl,hp,by omega,by omega,by omega,by omega,hge,by omega,by omega⟩,by omega⟩
   ·rw[if_neg hod]at hp;rw[show m%2=0 by omega]at an;repeat (first|simp only[go_sem,i2,i3,i6,o6,i7,i1,o7,o3,an]|simp (disch:=first|exact omg|fail) only[AX,i2,i3,i6,o6,i7,i1,o7,o3,an]|refine wki ?_|refine vfa ?_)
    exact⟨⟨f,m/2,c1,c2,v1,v2,e,g+g+1,rfl,by omega,by omega,rfl,rfl,hp,by omega,by omega,by omega,by omega,hge,by omega,by omega⟩,by omega⟩
end Go.Proofs.YtfknkoeagjonbaaGreat
namespace Go.Proofs.YtfknkoeagjonbaaGreat
open Go.Ev
theorem gam_run (a b c:Nat) (to:Int) (ha:1<=a:=by omega) (hb:1<=b:=by omega) (h1:c=0\/((a+(c-1)*b:Nat):Int)<=to:=by omega) (h2:to<((a+c*b:Nat):Int):=by omega) (hto:to<=1073741824:=by omega) (hto0 : -9223372036854775808<=to:=by omega) (hc:c<=1048576:=by omega) (hab:a<=1073741824:=by omega) (hbb:b<=1073741824:=by omega) :
  Go.Ev.Fn CX 310 [.int .i64 (a:Int),.int .i64 (b:Int),.int .i64 to] (natV (lim (prodN a b c))):=by
 have hle : ∀i,i<c->((a+i*b:Nat):Int)<=to:=by
  intro i hi;rcases h1 with h|h
  ·omega
  ·have:i*b<=(c-1)*b:=xB _ (by omega);omega
 have hlen : ∀i,i<=c->(lim (prodN a b i)).length<=i+1:=fun i hi=>prodN_len fun j hj=>by have:=hle j (by omega);omega
 have o1:=nat_Of 1;refine fni Tryz.f310 ?_;unfold Tryz.f310;repeat (first|simp only[go_sem]|simp (disch:=first|exact omg|fail) only[AX]|refine wki ?_|refine vfa ?_)
 refine vp_loop_inv (fun s=>s.tmp 1 = .sv (.int .i64 (b:Int))/\s.tmp 2 = .sv (.int .i64 to) /\ ∃i:Nat,s.tmp 8 = .sv (.int .i64 ((a+i*b:Nat):Int))/\s.tmp 7 = .sv (natV (lim (prodN a b i)))/\i<=c)
  (fun s=>match s.tmp 8 with | .sv (.int _ n)=>(to+1-n).toNat|_=>0) ⟨rfl,rfl,0,by rw[zM,yJ];rfl,rfl,by omega⟩ ?_
 rintro s ⟨i1,i2,i,i8,i7,hi⟩
 by_cases hend:i=c
 ·subst hend;have hlt : ¬((a+i*b:Nat):Int)<=to:=by omega
  repeat (first|simp only[go_sem,i1,i2,i8,i7]|simp (disch:=first|exact omg|fail) only[AX,i1,i2,i8,i7]|refine wki ?_)
 ·have h3:=hle i (by omega);have hl:=hlen i hi;have oN:=nat_Of (a+i*b);have hl2:=lim_len_one (a:=a+i*b);have hn:a+(i+1)*b=a+i*b+b:=by rw[xY,xe,zX]
  have hnew:prodN a b (i+1)=prodN a b i*(a+i*b):=rfl;generalize hv:a+i*b=v at *
  repeat (first|simp only[go_sem,i1,i2,i8,i7]|simp (disch:=first|exact omg|fail) only[AX,i1,i2,i8,i7]|refine wki ?_|refine vfa ?_)
  refine vf_of (nat_MulL) ?_;repeat (first|simp only[go_sem,i1,i2,i8,i7]|simp (disch:=first|exact omg|fail) only[AX,i1,i2,i8,i7]|refine wki ?_)
  refine⟨⟨i+1,by rw[hn],by rw[hnew],by omega⟩,by omega⟩
theorem gam_whole (n:Nat) (hn:(lim n).length<=68719476736:=by omega):Go.Ev.Fn CX 309 [natV (lim n)] (rv (n:Rat)):=by
 have o1:=nat_Of 1;have h1:=lim_len1;have hOf:=rat_OfL (s:=false) (n:=n) (d:=1) hn;rw[show mkRat (sgn false n) 1=(n:Rat) from Rat.mkRat_one _]at hOf;refine fni Tryz.f309 ?_;unfold Tryz.f309;repeat (first|simp only[go_sem]|simp (disch:=first|exact omg|fail) only[AX]|refine wki ?_|refine vfa ?_)
theorem pow_len (m:Nat):(lim (2^m)).length<=m+1:=
 lim_len_lt (xr (wa (by omega) (Nat.lt_succ_self m)) (zj (by decide) (m+1)))
theorem gam2_size {n:Nat} (h:n<=1024:=by omega):szR (gam2 n) 1024:=by
 unfold gam2;split
 ·have h1:=prodN_len (a:=2) (b:=1) (c:=n/2-2) (fun i hi=>by omega);refine⟨?_,?_⟩
  ·show (lim ((prodN 2 1 (n/2-2):Nat):Int).natAbs).length<=_;rw[xK];omega
  ·show (lim 1).length<=_;have:=lim_len1;omega
 ·have h1:=prodN_len (a:=3) (b:=2) (c:=(n-3)/2) (fun i hi=>by omega);have h2:=pow_len (n/2);exact szR_mk (s:=false)
theorem gam_half (n:Nat) (h1:1<=n:=by omega) (h:n<=1024:=by omega):Go.Ev.Fn CX 289 [.int .i64 (n:Int)] (rv (gam2 n)):=by
 have ha:=and_one64 (a:=n);have hd:((n:Int)).tdiv 2=((n/2:Nat):Int):=rfl;by_cases h0:n%2=0
 ·have hr:=gam_run 2 1 (n/2-2) ((n/2-1:Nat):Int);have hl:=prodN_len (a:=2) (b:=1) (c:=n/2-2) (fun i hi=>by omega);have hw:=gam_whole (prodN 2 1 (n/2-2));rw[show gam2 n=((prodN 2 1 (n/2-2):Nat):Rat) from if_pos h0];rw[h0]at ha;refine fni Tryz.f289 ?_;unfold Tryz.f289;repeat (first|simp only[go_sem,ha,hd]|simp (disch:=first|exact omg|fail) only[AX,ha,hd]|refine wki ?_|refine vfa ?_)
 ·have hr:=gam_run 3 2 ((n-3)/2) ((n:Int)-2);have hl:=prodN_len (a:=3) (b:=2) (c:=(n-3)/2) (fun i hi=>by omega);have o1:=nat_Of 1;have l1:=lim_len1;have hS:=shift_up (lim 1) (n/2) (okL_lim _) (by omega) ((n/2:Nat):Int) rfl;rw[wth_lim,xe]at hS;have hp:=pow_len (n/2);have hOf:=rat_OfL (s:=false) (n:=prodN 3 2 ((n-3)/2)) (d:=2^(n/2));rw[show gam2 n=mkRat (prodN 3 2 ((n-3)/2):Nat) (2^(n/2)) from if_neg h0];have h01:n%2=1:=by omega
  rw[h01]at ha;refine fni Tryz.f289 ?_;unfold Tryz.f289;repeat (first|simp only[go_sem,ha,hd]|simp (disch:=first|exact omg|fail) only[AX,ha,hd]|refine wki ?_|refine vfa ?_)
  rfl
end Go.Proofs.YtfknkoeagjonbaaGreat
namespace Go.Proofs.YtfknkoeagjonbaaGreat
open Go.Ev
end Go.Proofs.YtfknkoeagjonbaaGreat
namespace Go.Proofs.YtfknkoeagjonbaaGreat
open Go.Ev
def RowL (s:St) (t d v:Nat):Prop:=s.tmp t = .sv (natV (lim v))\/(v=1/\s.tmp t = .ref d 0 1 0 1/\s.obj d 0=some [.int .u32 1])
theorem cc_len {m k:Nat} (h:m+k<=1048576:=by omega):(lim (cc m k)).length<=k+1:=
 xG (lim_len_mono cc_le) (prodN_len fun i hi=>by omega)
theorem cc_quot (m k:Nat):cc m k*(m+(k+1))/(k+1)=cc m (k+1):=by
 rw[<- cc_step,Nat.mul_div_cancel _ (by omega)]
theorem ref9_Choose (n k:Int) (hn : -9223372036854775808<=n/\n<9223372036854775808:=by omega) (hk : -9223372036854775808<=k/\k<9223372036854775808:=by omega):Go.Ev.Fn CX 128 [.int .i64 n,.int .i64 k] (rv (chR n k:Rat)):=by
 have h0:=ref2_Int 0;refine fni Tryz.f128 ?_;unfold Tryz.f128;by_cases hc:0<=n/\n<=512/\0<=k/\k<=n
 ·obtain⟨c1,c2,c3,c4⟩:=hc;obtain⟨K,rfl⟩ : ∃K:Nat,k=(K:Int):=⟨k.toNat,by omega⟩
  obtain⟨M,hM⟩ : ∃M:Nat,n-K=(M:Int):=⟨(n-K).toNat,by omega⟩
  have hn':n=((M+K:Nat):Int):=by omega
  subst hn';have e:chR ((M+K:Nat):Int) (K:Int)=cc M K:=by
   unfold chR;rw[if_pos ⟨by omega,by omega,by omega,by omega⟩,show (((M+K:Nat):Int)-(K:Int)).toNat=M by omega,wH]
  rw[e];have lc:=cc_len (m:=M) (k:=K);have hOf:=ref2_OfL (s:=false) (n:=cc M K) (d:=1) (by omega) (by have:=lim_len1;omega);rw[show mkRat (sgn false (cc M K)) 1=(cc M K:Rat) from Rat.mkRat_one _,lim_one]at hOf;have e1:((M+K:Nat):Int)-(K:Int)=(M:Int):=by omega
  repeat (first|simp only[go_sem]|simp (disch:=first|exact omg|fail) only[AX]|refine wki ?_)
  refine vp_loop_inv (fun s=>s.tmp 4 = .ptr 4 0 0/\s.obj 4 0=some [.bool false,.sl 0 [],.sl 0 []]/\s.tmp 0 = .sv (.int .i64 ((M+K:Nat):Int))/\s.tmp 1 = .sv (.int .i64 (K:Int)) /\ ∃i:Nat,s.tmp 6 = .sv (.int .i64 ((i+1:Nat):Int))/\RowL s 5 23 (cc M i)/\i<=K)
   (fun s=>match s.tmp 6 with | .sv (.int _ n)=>((K:Int)+1-n).toNat|_=>0) ⟨rfl,rfl,rfl,rfl,0,rfl,.inr ⟨cc_zero _,rfl,rfl⟩,by omega⟩ ?_
  rintro s ⟨i4,iP,i0,i1,i,i6,hR,hi⟩
  by_cases hend:i=K
  ·subst hend;rcases hR with i5|⟨hv,i5,iO⟩
   ·repeat (first|simp only[go_sem,i4,iP,i0,i1,i6,i5]|simp (disch:=first|exact omg|fail) only[AX,i4,iP,i0,i1,i6,i5]|refine wki ?_)
    refine vfa ?_;repeat (first|simp only[go_sem,i4,iP,i0,i1,i6,i5]|simp (disch:=first|exact omg|fail) only[AX,i4,iP,i0,i1,i6,i5]|refine wki ?_)
   ·rw[hv,lim_one]at hOf;rw[hv];repeat (first|simp only[go_sem,i4,iP,i0,i1,i6,i5,iO]|simp (disch:=first|exact omg|fail) only[AX,i4,iP,i0,i1,i6,i5,iO]|refine wki ?_|refine vfa ?_)
  ·have l1:=cc_len (m:=M) (k:=i);have oN:=ref1_Of (M+(i+1));have oI:=ref1_Of (i+1);have l2:=lim_len_one (a:=M+(i+1));have l3:=lim_len_one (a:=i+1);have hM2:=ref1_MulL (N:=cc M i) (D:=M+(i+1));have l4:=lim_len_mul (a:=cc M i) (b:=M+(i+1));have hD:=ref1_DivL (N:=cc M i*(M+(i+1))) (D:=i+1);rw[cc_quot]at hD;rcases hR with i5|⟨hv,i5,iO⟩
   ·repeat (first|simp only[go_sem,i4,iP,i0,i1,i6,i5,e1]|simp (disch:=first|exact omg|fail) only[AX,i4,iP,i0,i1,i6,i5,e1]|refine wki ?_)
    repeat (first|simp only[go_sem,i4,iP,i0,i1,i6,i5,e1]|simp (disch:=first|exact omg|fail) only[AX,i4,iP,i0,i1,i6,i5,e1]|refine wki ?_|refine vfa ?_)
    refine⟨⟨i+1,rfl,.inl rfl,by omega⟩,by omega⟩
   ·rw[hv,lim_one]at hM2;rw[hv]at hD;repeat (first|simp only[go_sem,i4,iP,i0,i1,i6,i5,iO,e1,N0]|simp (disch:=first|exact omg|fail) only[AX,i4,iP,i0,i1,i6,i5,iO,e1,N0]|refine wki ?_|refine vfa ?_)
    refine⟨⟨i+1,rfl,.inl rfl,by omega⟩,by omega⟩
 ·have e:chR n k=0:=if_neg hc;rw[e];by_cases c1:n<0
  ·repeat (first|simp only[go_sem]|simp (disch:=first|exact omg|fail) only[AX]|refine wki ?_)
   refine vfa ?_;repeat (first|simp only[go_sem]|simp (disch:=first|exact omg|fail) only[AX]|refine wki ?_)
   rfl
  ·by_cases c2:512<n
   ·repeat (first|simp only[go_sem]|simp (disch:=first|exact omg|fail) only[AX]|refine wki ?_)
    refine vfa ?_;repeat (first|simp only[go_sem]|simp (disch:=first|exact omg|fail) only[AX]|refine wki ?_)
    rfl
   ·by_cases c3:k<0
    ·repeat (first|simp only[go_sem]|simp (disch:=first|exact omg|fail) only[AX]|refine wki ?_)
     refine vfa ?_;repeat (first|simp only[go_sem]|simp (disch:=first|exact omg|fail) only[AX]|refine wki ?_)
     rfl
    ·have c4:n<k:=by omega
     repeat (first|simp only[go_sem]|simp (disch:=first|exact omg|fail) only[AX]|refine wki ?_|refine vfa ?_)
     rfl
end Go.Proofs.YtfknkoeagjonbaaGreat
namespace Go.Proofs.YtfknkoeagjonbaaGreat
open Go.Ev
theorem and_two (a b:Nat):(a &&& b)%2=a%2*(b%2):=by
 have h:=Nat.and_mod_two_pow (a:=a) (b:=b) (n:=1);rw[Nat.pow_one]at h;rw[h];rcases wB a with ha|ha<;>rcases wB b with hb|hb<;>rw[ha,hb]<;>rfl
theorem beta2_size {a b:Nat} (ha:a<=512:=by omega) (hb:b<=512:=by omega):szR (beta2 a b) 3072:=by
 have z1:=gam2_size (n:=a);have z2:=gam2_size (n:=b);have z3:=gam2_size (n:=a+b);exact szR_div (szR_mul z1 z2) z3
theorem gam_Beta (a b:Nat) (ha:1<=a) (ha2:a<=256) (hb:1<=b) (hb2:b<=256:=by omega):Go.Ev.Fn CX 238 [.int .i64 (a:Int),.int .i64 (b:Int)] (.tup [rv (beta2 a b),.int .i64 (a%2*(b%2):Nat),.bool true]):=by
 have g1:=gam_half a ha;have g2:=gam_half b hb;have g3:=gam_half (a+b);have z1:=gam2_size (n:=a);have z2:=gam2_size (n:=b);have z3:=gam2_size (n:=a+b);have m1:=rat_Mul (RatA_rv z1) (RatA_rv z2);have d1:=rat_Div (RatA_rv (szR_mul z1 z2)) (RatA_rv z3);rw[decide_eq_true (gam2_pos (n:=a+b)),show gam2 a*gam2 b/gam2 (a+b)=beta2 a b from rfl]at d1;have hb1:=b_and64i (a:=a) (b:=b);have hle:a &&& b<=a:=Nat.and_le_left;have hb2:=and_one64 (a:=a &&& b);rw[and_two]at hb2;refine fni Tryz.f238 ?_;unfold Tryz.f238
 repeat (first|simp only[go_sem,hb1,hb2]|simp (disch:=first|exact omg|fail) only[AX,hb1,hb2]|refine wki ?_|refine vfa ?_)
end Go.Proofs.YtfknkoeagjonbaaGreat
namespace Go.Proofs.YtfknkoeagjonbaaGreat
open Go.Ev
abbrev intV (z:Int):SV := .agg [.bool (decide (z<0)),natV (lim z.natAbs)]
abbrev ivV (a b:Int):SV := .agg [.bool (decide (a<0)),natV (lim a.natAbs),.bool (decide (b<0)),natV (lim b.natAbs)]
theorem lim_ne {n:Nat}:decide (0<(lim n).length)=decide (n≠0):=by
 by_cases h:n=0
 ·subst h;rw[lim_zero];rfl
 ·rw[decide_eq_true (lim_pos h),decide_eq_true h]
theorem ref4_Whole (n:Int) (h : -9223372036854775808<n/\n<9223372036854775808:=by omega):Go.Ev.Fn CX 261 [.int .i64 n] (intV n):=by
 by_cases h0:n<0
 ·obtain⟨m,rfl⟩ : ∃m:Nat,n = -(m:Int):=⟨n.natAbs,by omega⟩
  have o:=ref1_Of m;rw[show intV (-(m:Int)) = .agg [.bool true,natV (lim m)] by show SV.agg [.bool (decide (-(m:Int)<0)),natV (lim (-(m:Int)).natAbs)]=_;rw[decide_eq_true h0,yb,xK]];have e0:0 - -(m:Int)=(m:Int):=by omega
  refine fni Tryz.f261 ?_;unfold Tryz.f261;repeat (first|simp only[go_sem,e0]|simp (disch:=first|exact omg|fail) only[AX,e0]|refine wki ?_|refine vfa ?_)
 ·obtain⟨m,rfl⟩ : ∃m:Nat,n=(m:Int):=⟨n.natAbs,by omega⟩
  have o:=ref1_Of m;rw[show intV (m:Int) = .agg [.bool false,natV (lim m)] by show SV.agg [.bool (decide ((m:Int)<0)),natV (lim (m:Int).natAbs)]=_;rw[decide_eq_false h0,xK]];refine fni Tryz.f261 ?_;unfold Tryz.f261;repeat (first|simp only[go_sem]|simp (disch:=first|exact omg|fail) only[AX]|refine wki ?_|refine vfa ?_)
theorem ref4_Opp (z:Int) (h:(lim z.natAbs).length<=1000000:=by omega):Go.Ev.Fn CX 199 [intV z] (intV (-z)):=by
 have e:intV (-z) = .agg [.bool (!decide (z<0)&&decide (0<(lim z.natAbs).length)),natV (lim z.natAbs)]:=by
  show SV.agg [.bool (decide (-z<0)),natV (lim (-z).natAbs)]=_;rw[lim_ne,yb];by_cases h1:z<0
  ·rw[decide_eq_true h1,decide_eq_false (by omega)];rfl
  ·by_cases h2:z=0
   ·rw[decide_eq_false h1,decide_eq_false (by omega),decide_eq_false (by omega)];rfl
   ·rw[decide_eq_false h1,decide_eq_true (by omega),decide_eq_true (by omega)];rfl
 rw[e];by_cases h1:z<0
 ·rw[decide_eq_true h1];refine fni Tryz.f199 ?_;unfold Tryz.f199;repeat (first|simp only[go_sem,xQ,xn,yS,yL]|simp (disch:=first|exact omg|fail) only[AX,xQ,xn,yS,yL]|refine wki ?_)
 ·rw[decide_eq_false h1];refine fni Tryz.f199 ?_;unfold Tryz.f199;repeat (first|simp only[go_sem,xQ,xn,yS,yL]|simp (disch:=first|exact omg|fail) only[AX,xQ,xn,yS,yL]|refine wki ?_)
  rw[show decide (((lim z.natAbs).length:Int)>0)=decide (0<(lim z.natAbs).length) from decide_eq_decide.2 (by omega)]
end Go.Proofs.YtfknkoeagjonbaaGreat
namespace Go.Proofs.YtfknkoeagjonbaaGreat
open Go.Ev
theorem iv_eq {z:Int} {s:Bool} {n:Nat} (h1:z.natAbs=n) (h2:decide (z<0)=s):intV z = .agg [.bool s,natV (lim n)]:=by subst h1 h2;rfl
theorem lenpos {n:Nat}:decide (((lim n).length:Int)>0)=decide (n≠0):=by
 rw[<- lim_ne];exact decide_eq_decide.2 (by omega)
theorem ref4_Plus (a b:Int) (ha:(lim a.natAbs).length<=1000000:=by omega) (hb:(lim b.natAbs).length<=1000000:=by omega):Go.Ev.Fn CX 198 [intV a,intV b] (intV (a+b)):=by
 have s1:=ref1_AddL (N:=a.natAbs) (D:=b.natAbs);have c1:=ref1_CmpL (N:=a.natAbs) (D:=b.natAbs);have s2:=ref1_SubL (N:=a.natAbs) (D:=b.natAbs);have s3:=ref1_SubL (N:=b.natAbs) (D:=a.natAbs);have hbb:=beq_bool (decide (a<0)) (decide (b<0));have l2:=lim_len_mono (zY a.natAbs b.natAbs);have l3:=lim_len_mono (zY b.natAbs a.natAbs);have hl:=fun (n:Nat)=>lenpos (n:=n)
 have hbt:(true==false)=false:=rfl;have hbf:(false==true)=false:=rfl;by_cases hs:decide (a<0)=decide (b<0)
 ·rw[decide_eq_true hs]at hbb;have hs':=decide_eq_decide.1 hs;rw[iv_eq (z:=a+b) (s:=decide (a<0)) (n:=a.natAbs+b.natAbs) (by omega) (decide_eq_decide.2 (by omega))];clear hs;refine fni Tryz.f198 ?_;unfold Tryz.f198;repeat (first|simp only[go_sem,hbb]|simp (disch:=first|exact omg|fail) only[AX,hbb]|refine wki ?_|refine vpd 2 [17,19] ?_|refine vfa ?_)
 ·rw[decide_eq_false hs]at hbb;have hs' : ¬((a<0)↔(b<0)):=fun h=>hs (decide_eq_decide.2 h)
  by_cases h2:b.natAbs<=a.natAbs
  ·have e:decide (cmpN a.natAbs b.natAbs>=0)=true:=decide_eq_true (by unfold cmpN;split<;>(try split)<;>omega);rw[iv_eq (z:=a+b) (s:=decide (a<0)&&decide (a.natAbs-b.natAbs≠0)) (n:=a.natAbs-b.natAbs) (by omega) (by rw[<- Bool.decide_and];exact decide_eq_decide.2 (by omega))];generalize cmpN a.natAbs b.natAbs=c at *
   generalize a.natAbs-b.natAbs=x at *
   clear hs s3 s1;by_cases h3:a<0
   ·rw[decide_eq_true h3];rw[decide_eq_true h3]at hbb;refine fni Tryz.f198 ?_;unfold Tryz.f198;repeat (first|simp only[go_sem,hbt,hbf,hbb,e,hl,yL]|simp (disch:=first|exact omg|fail) only[AX,hbt,hbf,hbb,e,hl,yL]|refine wki ?_|refine vpd 2 [17,19] ?_|refine vfa ?_)
   ·rw[decide_eq_false h3];rw[decide_eq_false h3]at hbb;refine fni Tryz.f198 ?_;unfold Tryz.f198;repeat (first|simp only[go_sem,hbt,hbf,hbb,e,hl,yS]|simp (disch:=first|exact omg|fail) only[AX,hbt,hbf,hbb,e,hl,yS]|refine wki ?_|refine vpd 2 [17,19] ?_|refine vfa ?_)
  ·have e:decide (cmpN a.natAbs b.natAbs>=0)=false:=decide_eq_false (by unfold cmpN;split<;>(try split)<;>omega);rw[iv_eq (z:=a+b) (s:=decide (b<0)&&decide (b.natAbs-a.natAbs≠0)) (n:=b.natAbs-a.natAbs) (by omega) (by rw[<- Bool.decide_and];exact decide_eq_decide.2 (by omega))];generalize cmpN a.natAbs b.natAbs=c at *
   generalize b.natAbs-a.natAbs=x at *
   clear hs s2 s1;by_cases h3:b<0
   ·rw[decide_eq_true h3];rw[decide_eq_true h3]at hbb;refine fni Tryz.f198 ?_;unfold Tryz.f198;repeat (first|simp only[go_sem,hbt,hbf,hbb,e,hl,yL]|simp (disch:=first|exact omg|fail) only[AX,hbt,hbf,hbb,e,hl,yL]|refine wki ?_|refine vpd 2 [17,19] ?_|refine vfa ?_)
   ·rw[decide_eq_false h3];rw[decide_eq_false h3]at hbb;refine fni Tryz.f198 ?_;unfold Tryz.f198;repeat (first|simp only[go_sem,hbt,hbf,hbb,e,hl,yS]|simp (disch:=first|exact omg|fail) only[AX,hbt,hbf,hbb,e,hl,yS]|refine wki ?_|refine vpd 2 [17,19] ?_|refine vfa ?_)
theorem ref4_Times (a b:Int) (ha:(lim a.natAbs).length<=100000:=by omega) (hb:(lim b.natAbs).length<=100000:=by omega):Go.Ev.Fn CX 251 [intV a,intV b] (intV (a*b)):=by
 have m:=ref1_MulL (N:=a.natAbs) (D:=b.natAbs);have l:=lim_len_mul (a:=a.natAbs) (b:=b.natAbs);have hl:=fun (n:Nat)=>lenpos (n:=n)
 rw[iv_eq (z:=a*b) (s:=(!(decide (a<0)==decide (b<0)))&&decide (a.natAbs*b.natAbs≠0)) (n:=a.natAbs*b.natAbs) (Int.natAbs_mul a b) ?_]
 ·generalize a.natAbs*b.natAbs=x at *
  cases h1:(!(decide (a<0)==decide (b<0)))
  ·refine fni Tryz.f251 ?_;unfold Tryz.f251;repeat (first|simp only[go_sem,h1,hl,yS]|simp (disch:=first|exact omg|fail) only[AX,h1,hl,yS]|refine wki ?_|refine vfa ?_)
  ·refine fni Tryz.f251 ?_;unfold Tryz.f251;repeat (first|simp only[go_sem,h1,hl,yL]|simp (disch:=first|exact omg|fail) only[AX,h1,hl,yL]|refine wki ?_|refine vfa ?_)
 ·by_cases h0:a.natAbs*b.natAbs=0
  ·have:a*b=0:=by
    have:=Int.natAbs_mul a b;omega
   rw[this,h0];simp
  ·rw[decide_eq_true h0,Bool.and_true];have h:=sgn_mul a b;rw[<- h];exact sgn_neg _ h0
def cmpZ (a b:Int):Int:=if a<b then -1 else if a=b then 0 else 1
theorem ref4_Cmp (a b:Int) (ha:(lim a.natAbs).length<=100000) (hb:(lim b.natAbs).length<=100000):Go.Ev.Fn CX 252 [intV a,intV b] (.int .i64 (cmpZ a b)):=by
 have o:=ref4_Opp b;have s:=ref4_Plus a (-b) (by omega) (by rw[yb];omega);have l:(lim (a + -b).natAbs).length<=100001:=xG (lim_len_mono (show (a + -b).natAbs<=a.natAbs+b.natAbs by omega)) (lim_len_add (L:=100000) ha hb);by_cases h0:a + -b=0
 ·rw[show cmpZ a b=0 by unfold cmpZ;rw[if_neg (by omega),if_pos (by omega)]];have e:(lim (a + -b).natAbs).length=0:=by rw[h0];simp[lim_zero]
  refine fni Tryz.f252 ?_;unfold Tryz.f252;repeat (first|simp only[go_sem,e]|simp (disch:=first|exact omg|fail) only[AX,e]|refine wki ?_|refine vpd 1 [] ?_|refine vfa ?_)
 ·have e:=lim_pos (N:=(a + -b).natAbs);by_cases h1:a + -b<0
  ·rw[show cmpZ a b = -1 by unfold cmpZ;rw[if_pos (by omega)]];have e2:decide (a + -b<0)=true:=decide_eq_true h1;refine fni Tryz.f252 ?_;unfold Tryz.f252;repeat (first|simp only[go_sem,e2]|simp (disch:=first|exact omg|fail) only[AX,e2]|refine wki ?_|refine vpd 1 [] ?_|refine vfa ?_)
  ·rw[show cmpZ a b=1 by unfold cmpZ;rw[if_neg (by omega),if_neg (by omega)]];have e2:decide (a + -b<0)=false:=decide_eq_false h1;refine fni Tryz.f252 ?_;unfold Tryz.f252;repeat (first|simp only[go_sem,e2]|simp (disch:=first|exact omg|fail) only[AX,e2]|refine wki ?_|refine vpd 1 [] ?_|refine vfa ?_)
def cdZ (a:Int) (d:Nat):Int := -(-a/(d:Int))
theorem fall_eq {a:Int} {d:Nat} (hd:d≠0:=by omega):a/(d:Int)=if a<0/\a.natAbs%d≠0 then -((a.natAbs/d+1:Nat):Int) else sgn (decide (a<0)) (a.natAbs/d):=by
 by_cases h:a<0
 ·obtain⟨m,rfl⟩ : ∃m:Nat,a = -(m:Int):=⟨a.natAbs,by omega⟩
  rw[yb,xK];have hm:=ym m d;have hlt:=yG m (Nat.pos_of_ne_zero hd);by_cases h2:m%d=0
  ·rw[if_neg (fun g=>g.2 h2),decide_eq_true h];unfold sgn;rw[if_pos rfl];have : -(m:Int)=(d:Int) * -((m/d:Nat):Int):=by
    rw[wt,<- xw];omega
   rw[this,Int.mul_ediv_cancel_left _ (by omega)]
  ·rw[if_pos ⟨h,h2⟩];have e : -(m:Int)=((d-m%d:Nat):Int)+(d:Int) * -((m/d+1:Nat):Int):=by
    rw[wt,<- xw,xZ,xu];omega
   rw[e,Int.add_mul_ediv_left _ _ (by omega),Int.ediv_eq_zero_of_lt (by omega) (by omega)];omega
 ·obtain⟨m,rfl⟩ : ∃m:Nat,a=(m:Int):=⟨a.natAbs,by omega⟩
  rw[if_neg (fun g=>h g.1),decide_eq_false h,xK];unfold sgn;rw[if_neg (by simp),wc]
theorem sgn_iv (s:Bool) (n:Nat):intV (sgn s n) = .agg [.bool (s&&decide (n≠0)),natV (lim n)]:=by
 refine iv_eq (sgn_abs s n) ?_;by_cases h:n=0
 ·subst h;rw[sgn_zero];simp
 ·rw[sgn_neg s h,decide_eq_true h,Bool.and_true]
theorem ref4_Fall (a:Int) (d:Nat) (hd:d≠0:=by omega) (ha:(lim a.natAbs).length<=1000000:=by omega) (hb:(lim d).length<=1000000:=by omega):Go.Ev.Fn CX 196 [intV a,natV (lim d)] (intV (a/(d:Int))):=by
 have s1:=ref1_DivL (N:=a.natAbs) (D:=d) hd;have l:=lim_len_mono (xt a.natAbs d);have l1:=lim_len1;have s2:=ref1_AddL (N:=a.natAbs/d) (D:=1);rw[lim_one]at s2;have hl:=fun (n:Nat)=>lenpos (n:=n)
 have l4:=lim_len_mono (wR (yG a.natAbs (Nat.pos_of_ne_zero hd)));have l5:=lim_len_add (a:=a.natAbs/d) (b:=1) (L:=1000000);have e:=fall_eq (a:=a) hd;by_cases h:a<0
 ·by_cases h2:a.natAbs%d=0
  ·rw[if_neg (fun g=>g.2 h2)]at e;rw[e,sgn_iv,decide_eq_true h];rw[h2]at s1;have h0:decide ((0:Nat)≠0)=false:=rfl;generalize a.natAbs/d=x at *
   refine fni Tryz.f196 ?_;unfold Tryz.f196;repeat (first|simp only[go_sem,hl,h0,yL]|simp (disch:=first|exact omg|fail) only[AX,hl,h0,yL]|refine wki ?_|refine vfa ?_)
  ·rw[if_pos ⟨h,h2⟩]at e;rw[e,show -((a.natAbs/d+1:Nat):Int)=sgn true (a.natAbs/d+1) from rfl,sgn_iv];have h0:decide (a.natAbs%d≠0)=true:=decide_eq_true h2;generalize a.natAbs/d+1=y at *
   generalize a.natAbs/d=x at *
   generalize a.natAbs%d=r at *
   refine fni Tryz.f196 ?_;unfold Tryz.f196;repeat (first|simp only[go_sem,hl,h0,yL]|simp (disch:=first|exact omg|fail) only[AX,hl,h0,yL]|refine wki ?_|refine vfa ?_)
 ·rw[if_neg (fun g=>h g.1)]at e;rw[e,sgn_iv,decide_eq_false h];generalize a.natAbs/d=x at *
  refine fni Tryz.f196 ?_;unfold Tryz.f196;repeat (first|simp only[go_sem,hl,yS]|simp (disch:=first|exact omg|fail) only[AX,hl,yS]|refine wki ?_|refine vfa ?_)
theorem abs_div_le (a:Int) {d:Nat} (hd:d≠0):(a/(d:Int)).natAbs<=a.natAbs:=by
 rw[fall_eq hd];have h1:=xt a.natAbs d;split
 ·rename_i h;rw[yb,xK];have hm:=ym a.natAbs d;have:a.natAbs/d<=d*(a.natAbs/d):=zL _ (Nat.pos_of_ne_zero hd);omega
 ·rw[sgn_abs];exact h1
theorem ref4_Rise (a:Int) (d:Nat) (hd:d≠0:=by omega) (ha:(lim a.natAbs).length<=1000000:=by omega) (hb:(lim d).length<=1000000:=by omega):Go.Ev.Fn CX 197 [intV a,natV (lim d)] (intV (cdZ a d)):=by
 have o:=ref4_Opp a ha;have f:=ref4_Fall (-a) d hd (by rw[yb];exact ha) hb;have l:=lim_len_mono (abs_div_le (-a) hd);rw[yb a]at l;have o2:=ref4_Opp (-a/(d:Int));unfold cdZ;generalize -a/(d:Int)=y at *
 refine fni Tryz.f197 ?_;unfold Tryz.f197;repeat (first|simp only[go_sem]|simp (disch:=first|exact omg|fail) only[AX]|refine wki ?_|refine vfa ?_)
theorem ref4_pow2 {n:Nat} (h:n<=4096:=by omega):Go.Ev.Fn CX 249 [.int .i64 (n:Int)] (natV (lim (2^n))):=by
 have s:=ref1_shift_up (lim 1) n (okL_lim _) (by rw[lim_one];simp) _ rfl h;rw[wth_lim,xe,lim_one]at s;refine fni Tryz.f249 ?_;unfold Tryz.f249;repeat (first|simp only[go_sem]|simp (disch:=first|exact omg|fail) only[AX]|refine wki ?_|refine vfa ?_)
end Go.Proofs.YtfknkoeagjonbaaGreat
namespace Go.Proofs.YtfknkoeagjonbaaGreat
open Go.Ev
theorem wth_drop1 (b:List Nat) (i:Nat):wth (b.drop i)=b.getD i 0+4294967296*wth (b.drop (i+1)):=by
 by_cases h:i<b.length
 ·rw[List.drop_eq_getElem_cons h,xC,xD h];rfl
 ·rw[zK (by omega),zK (by omega),getD_ge];simp[wth]
theorem wth_shr_drop {a:List Nat} (ha:okL a) (m:Nat):wth a/2^m=wth (a.drop (m/32))/2^(m%32):=by
 have hpow:2^m=4294967296^(m/32)*2^(m%32):=pow_32 m;rw[hpow,<- wN];congr 1;conv=>lhs;rw[<- wQ (m/32) a,wth_append]
 have h1:=wth_lt (okL_take ha (m/32));rw[xo]at h1 ⊢;rcases xk a.length (m/32) with h2|h2
 ·rw[zK (by omega)];simp only[wth,yY,yJ];refine yo (xr h1 (xE (by omega) (Nat.min_le_left _ _)))
 ·rw[yO h2]at h1 ⊢;rw[wK,ww (xM (by omega)),yo h1,yJ]
theorem ref1_shift_down (xs:List Nat) (m:Nat) (hx:okL xs) (hl:xs.length<=1073741824) (s:Int) (hs:s = -(m:Int)) (hm:m<=4096) (hm0:0<m) :
  Go.Ev.Fn CX 73 [natV xs,.int .i64 s] (natV (lim (wth xs/2^m))):=by
 refine fni Tryz.f73 ?_;unfold Tryz.f73;have lx:=lim_length_le hx;have e1:(if (-4096:Int)>s then (-4096:Int) else s)=s:=if_neg (by omega);have e2:(if (4096:Int)<s then (4096:Int) else s)=s:=if_neg (by omega);have e3:IntKind.i64.wrap (0-s)=(m:Int):=by rw[wI64];omega
 have hs0:decide (s<0)=true:=by simp;omega
 repeat (first|simp only[go_sem,e1,e2,e3]|simp (disch:=first|exact omg|fail) only[AX,e1,e2,e3]|refine wki ?_|refine vpx [] ?_)
 have ha:=okL_lim (wth xs);refine vf_of (ref1_Trim xs hx) ?_;repeat (first|simp only[go_sem,e1,e2,e3,tdiv32,tmod32,hs0]|simp (disch:=first|exact omg|fail) only[AX,e1,e2,e3,tdiv32,tmod32,hs0]|refine wki ?_)
 have va:=wth_lim (wth xs);generalize lim (wth xs)=a at *
 have hk:m%32<32:=yG _ (by omega);rw[<- va,wth_shr_drop ha];by_cases hlen:a.length<=m/32
 ·rw[zK hlen];have e0:lim (wth []/2^(m%32))=[]:=by simp[wth,lim_zero]
  rw[e0];repeat (first|simp only[go_sem,e3,tdiv32,tmod32]|simp (disch:=first|exact omg|fail) only[AX,e3,tdiv32,tmod32]|refine wki ?_)
  rfl
 ·repeat (first|simp only[go_sem,e3,tdiv32,tmod32]|simp (disch:=first|exact omg|fail) only[AX,e3,tdiv32,tmod32]|refine wki ?_)
  have hbl:(a.drop (m/32)).length=a.length-m/32:=wo ..;have hb:=okL_drop ha (m/32);have hnl:a.length-m/32<=1073741824:=by omega
  have hpos:0<a.length-m/32:=by omega
  generalize a.drop (m/32)=b at *
  generalize a.length-m/32=n at *
  subst hbl;generalize m%32=k at *
  clear e1 e2 e3 hs0 va lx hx hl;refine vp_loop_inv (fun s'=>s'.tmp 5 = .sv (natV b)/\s'.tmp 7 = .sv (.int .u64 k) /\
    ∃c:List Nat,∃i:Nat,s'.tmp 9 = .sv (.int .i64 i)/\c.length=i/\okL c/\i<=b.length/\wth c+4294967296^i*(wth (b.drop i)/2^k)=wth b/2^k /\
     ((i=0/\s'.tmp 8 = .nil/\s'.gen 56=0)\/(0<i/\s'.tmp 8 = .ref 56 0 1 0 i/\s'.obj 56 0=some (c.map limb))))
   (fun s=>match s.tmp 9 with | .sv (.int _ i)=>b.length-i.toNat|_=>0) ⟨rfl,rfl,[],0,rfl,rfl,okL_nil,by omega,by simp[wth],.inl ⟨rfl,rfl,rfl⟩⟩ ?_
  rintro s' ⟨i5,i7,c,i,i9,hcl,hc,hi,hv,hcase⟩
  by_cases hend:i=b.length
  ·subst hend;rw[zK (xU _),show wth []/2^k=0 by simp[wth],yY,yJ]at hv;rcases hcase with⟨h0,i8,-⟩|⟨h0,i8,iO⟩
   ·omega
   ·repeat (first|simp only[go_sem,i5,i7,i9,i8,iO]|simp (disch:=first|exact omg|fail) only[AX,i5,i7,i9,i8,iO]|refine wki ?_|refine vpx [] ?_)
    refine vf_of (fn_natV (ref1_Trim c hc) hcl) ?_;repeat (first|simp only[go_sem,i5,i7,i9,i8,iO]|simp (disch:=first|exact omg|fail) only[AX,i5,i7,i9,i8,iO]|refine wki ?_|refine vpx [] ?_)
    rw[hv]
  ·have h1:=getD_lt hb i;have h2:=getD_lt hb (i+1);have a1:=ref1_at b i hb;have a2:=ref1_at b (i+1) hb;rw[show ((i+1:Nat):Int)=(i:Int)+1 from rfl]at a2;have d1:=wth_drop1 b i;have d2:=wth_drop1 b (i+1);obtain⟨g1,g2⟩:=(shr_limb hk (d1.trans (by rw[d2]))).resolve_right (not_not_intro h1);rw[<- d2]at g2;generalize hxx:b.getD i 0=x at *
   generalize hyy:b.getD (i+1) 0=y at *
   have hsplit:=wU (wth (b.drop i)/2^k) 4294967296;rw[g1,g2]at hsplit;have hv2 : ∀v,v=(x+4294967296*y)/2^k%4294967296->wth (c++[v])+4294967296^(i+1)*(wth (b.drop (i+1))/2^k)=wth b/2^k:=by
    rintro v rfl
    rw[wth_snoc,hcl,<- hv,<- hsplit,xW,xZ,xP,zX]
   have hj:bitsSV .or .u64 ((x:Nat):Int) ((y*4294967296:Nat):Int)=some (.int .u64 ((x+4294967296*y:Nat):Int)):=by
    rw[b_or64,or_high h1]
   have hw64:y*4294967296%18446744073709551616=y*4294967296:=xz (by omega);have hk64:min k 64=k:=by omega
   have hz:(x+4294967296*y)/2^k%4294967296<4294967296:=yG _ (by omega);clear hsplit g1 g2 d1 d2 hv;rcases hcase with⟨h0,i8,ig⟩|⟨h0,i8,iO⟩
   ·repeat (first|simp only[go_sem,i5,i7,i9,i8,ig]|simp (disch:=first|exact omg|fail) only[AX,i5,i7,i9,i8,ig]|refine wki ?_|refine vpx [] ?_)
    repeat (first|simp only[go_sem,i5,i7,i9,i8,ig,hj,hw64,hk64,N0]|simp (disch:=first|exact omg|fail) only[AX,i5,i7,i9,i8,ig,hj,hw64,hk64,N0]|refine wki ?_|refine vpx [] ?_|refine vfa ?_)
    subst h0;obtain rfl:=List.length_eq_zero_iff.1 hcl;exact⟨⟨[]++[(x+4294967296*y)/2^k%4294967296],1,rfl,rfl,okL_append.2 ⟨hc,okL_cons.2 ⟨hz,okL_nil⟩⟩,by omega,hv2 _ rfl,.inr ⟨by omega,rfl,rfl⟩⟩,by omega⟩
   ·repeat (first|simp only[go_sem,i5,i7,i9,i8,iO]|simp (disch:=first|exact omg|fail) only[AX,i5,i7,i9,i8,iO]|refine wki ?_|refine vpx [] ?_)
    repeat (first|simp only[go_sem,i5,i7,i9,i8,iO,hj,hw64,hk64,N0]|simp (disch:=first|exact omg|fail) only[AX,i5,i7,i9,i8,iO,hj,hw64,hk64,N0]|refine wki ?_|refine vpx [] ?_|refine vfa ?_)
    exact⟨⟨c++[(x+4294967296*y)/2^k%4294967296],i+1,rfl,by rw[xq,hcl];rfl,okL_append.2 ⟨hc,okL_cons.2 ⟨hz,okL_nil⟩⟩,by omega,hv2 _ rfl,.inr ⟨by omega,rfl,by rw[wl];rfl⟩⟩,by omega⟩
theorem ref1_shl {N m:Nat} (h:(lim N).length<=1073741824:=by omega) (hm:m<=4096:=by omega):Go.Ev.Fn CX 73 [natV (lim N),.int .i64 (m:Int)] (natV (lim (N*2^m))):=by
 have:=ref1_shift_up (lim N) m (okL_lim _) h _ rfl hm;rwa [wth_lim]at this
theorem ref1_shr {N m:Nat} (h:(lim N).length<=1073741824) (hm:m<=4096) (h0:0<m):Go.Ev.Fn CX 73 [natV (lim N),.int .i64 (-(m:Int))] (natV (lim (N/2^m))):=by
 have:=ref1_shift_down (lim N) m (okL_lim _) h _ rfl hm h0;rwa [wth_lim]at this
end Go.Proofs.YtfknkoeagjonbaaGreat
namespace Go.Proofs.YtfknkoeagjonbaaGreat
open Go.Ev
theorem bne_dec (z:Int):(z != 0)=decide (z≠0):=by by_cases h:z=0<;>simp[h]
theorem cmpN_ne {a b:Nat}:(cmpN a b != 0)=decide (a≠b):=by
 rw[bne_dec];exact decide_eq_decide.2 (by unfold cmpN;split<;>(try split)<;>omega)
theorem ref4_Less (a:Int) (n:Nat) (ha:(lim a.natAbs).length<=100000) (hn:n<=4096) (h0:0<n):Go.Ev.Fn CX 253 [intV a,.int .i64 (n:Int)] (intV (a/((2^n:Nat):Int))):=by
 have hd:2^n≠0:=Nat.ne_of_gt (xM (by omega));have s1:=ref1_shr (N:=a.natAbs) (m:=n) (by omega) hn h0;have l:=lim_len_mono (xt a.natAbs (2^n));have l1:=lim_len1;have s2:=ref1_AddL (N:=a.natAbs/2^n) (D:=1);rw[lim_one]at s2;have s3:=ref1_shl (N:=a.natAbs/2^n) (m:=n) (by omega) hn;have l3:=lim_len_shl (a:=a.natAbs/2^n) (n:=n);have c:=ref1_CmpL (N:=a.natAbs/2^n*2^n) (D:=a.natAbs);have e2:(cmpN (a.natAbs/2^n*2^n) a.natAbs != 0)=decide (a.natAbs%2^n≠0):=by
  rw[cmpN_ne];refine decide_eq_decide.2 ?_;have:=ym a.natAbs (2^n);rw[xV (2^n)]at this;omega
 have hl:=fun (n:Nat)=>lenpos (n:=n)
 have l5:=lim_len_add (a:=a.natAbs/2^n) (b:=1) (L:=100000);have e:=fall_eq (a:=a) hd;have e0:(0:Int)-(n:Int) = -(n:Int):=by omega
 generalize 2^n=D at *
 by_cases h:a<0
 ·by_cases h2:a.natAbs%D=0
  ·rw[if_neg (fun g=>g.2 h2)]at e;rw[e,sgn_iv,decide_eq_true h];rw[h2]at e2;have h0':decide ((0:Nat)≠0)=false:=rfl;rw[h0']at e2;generalize cmpN (a.natAbs/D*D) a.natAbs=z at *
   generalize a.natAbs/D*D=y at *
   generalize a.natAbs/D=x at *
   refine fni Tryz.f253 ?_;unfold Tryz.f253;repeat (first|simp only[go_sem,hl,e0,yL,e2]|simp (disch:=first|exact omg|fail) only[AX,hl,e0,yL,e2]|refine wki ?_|refine vpd 2 [5,16,18] ?_|refine vfa ?_)
  ·rw[if_pos ⟨h,h2⟩]at e;rw[e,show -((a.natAbs/D+1:Nat):Int)=sgn true (a.natAbs/D+1) from rfl,sgn_iv];rw[decide_eq_true h2]at e2;generalize cmpN (a.natAbs/D*D) a.natAbs=z at *
   generalize a.natAbs/D*D=y at *
   generalize a.natAbs/D+1=x' at *
   generalize a.natAbs/D=x at *
   refine fni Tryz.f253 ?_;unfold Tryz.f253;repeat (first|simp only[go_sem,hl,e0,yL,e2]|simp (disch:=first|exact omg|fail) only[AX,hl,e0,yL,e2]|refine wki ?_|refine vpd 2 [5,16,18] ?_|refine vfa ?_)
 ·rw[if_neg (fun g=>h g.1)]at e;rw[e,sgn_iv,decide_eq_false h];generalize a.natAbs/D=x at *
  refine fni Tryz.f253 ?_;unfold Tryz.f253;repeat (first|simp only[go_sem,hl,e0,yS]|simp (disch:=first|exact omg|fail) only[AX,hl,e0,yS]|refine wki ?_|refine vpd 2 [5,16,18] ?_|refine vfa ?_)
theorem ref4_More (a:Int) (n:Nat) (ha:(lim a.natAbs).length<=100000) (hn:n<=4096) (h0:0<n):Go.Ev.Fn CX 254 [intV a,.int .i64 (n:Int)] (intV (cdZ a (2^n))):=by
 have hd:2^n≠0:=Nat.ne_of_gt (xM (by omega));have o:=ref4_Opp a;have f:=ref4_Less (-a) n (by rw[yb];exact ha) hn h0;have l:=lim_len_mono (abs_div_le (-a) hd);rw[yb a]at l;have o2:=ref4_Opp (-a/((2^n:Nat):Int));unfold cdZ;generalize -a/((2^n:Nat):Int)=y at *
 refine fni Tryz.f254 ?_;unfold Tryz.f254;repeat (first|simp only[go_sem]|simp (disch:=first|exact omg|fail) only[AX]|refine wki ?_|refine vfa ?_)
theorem mul_p2_abs (z:Int) (w:Nat):(z*((2^w:Nat):Int)).natAbs=z.natAbs*2^w:=by rw[Int.natAbs_mul,xK]
theorem ref4_Num {v:SV} {q:Rat} {L w:Nat} (hv:RatA v q L) (hL1:1<=L) (hL:L<=100000) (hw:w<=4096):Go.Ev.Fn CX 121 [v,.int .i64 (w:Int)] (ivV (q.num*((2^w:Nat):Int)/(q.den:Int)) (cdZ (q.num*((2^w:Nat):Int)) q.den)):=by
 have n1:=ref2_Norm hv;obtain⟨z1,z2⟩:=szR_of hv hL1;have s1:=ref1_shl (N:=q.num.natAbs) (m:=w) (by omega) hw;have l1:=lim_len_shl (a:=q.num.natAbs) (n:=w);have hP:0<2^w:=xM (by omega);have ea:=mul_p2_abs q.num w;have en:decide (q.num*((2^w:Nat):Int)<0)=decide (q.num<0):=decide_eq_decide.2 ⟨fun h=>by
   rcases Int.lt_or_le q.num 0 with g|g
   ·exact g
   ·have:=Int.mul_nonneg g (Int.natCast_nonneg (2^w));omega,fun h=>Int.mul_neg_of_neg_of_pos h (by omega)⟩
 have f:=ref4_Fall (q.num*((2^w:Nat):Int)) q.den q.den_nz (by rw[ea];omega);have r:=ref4_Rise (q.num*((2^w:Nat):Int)) q.den q.den_nz (by rw[ea];omega);unfold intV at f r;rw[ea,en]at f r;obtain⟨s,n,d,rfl,-⟩:=hv;generalize q.num*((2^w:Nat):Int)/(q.den:Int)=x at *
 generalize cdZ (q.num*((2^w:Nat):Int)) q.den=y at *
 generalize q.num.natAbs*2^w=u at *
 refine fni Tryz.f121 ?_;unfold Tryz.f121;repeat (first|simp only[go_sem]|simp (disch:=first|exact omg|fail) only[AX]|refine wki ?_|refine vpd 2 [12] ?_|refine vpd 3 [18,22] ?_|refine vfa ?_)
section
variable {a b c d:Int} (ha:(lim a.natAbs).length<=100000) (hb:(lim b.natAbs).length<=100000) (hc:(lim c.natAbs).length<=100000) (hd:(lim d.natAbs).length<=100000)
include ha hb
theorem ref4_Sum (hc:(lim c.natAbs).length<=100000) (hd:(lim d.natAbs).length<=100000):Go.Ev.Fn CX 143 [ivV a b,ivV c d] (ivV (a+c) (b+d)):=by
 have s1:=ref4_Plus a c;have s2:=ref4_Plus b d;generalize a+c=x at *
 generalize b+d=y at *
 refine fni Tryz.f143 ?_;unfold Tryz.f143;repeat (first|simp only[go_sem]|simp (disch:=first|exact omg|fail) only[AX]|refine wki ?_|refine vpd 1 [] ?_|refine vfa ?_)
theorem ref4_Minus (hc:(lim c.natAbs).length<=100000) (hd:(lim d.natAbs).length<=100000):Go.Ev.Fn CX 122 [ivV a b,ivV c d] (ivV (a-d) (b-c)):=by
 have o1:=ref4_Opp d;have o2:=ref4_Opp c;have s1:=ref4_Plus a (-d) (by omega) (by rw[yb];omega);have s2:=ref4_Plus b (-c) (by omega) (by rw[yb];omega);rw[<- Int.sub_eq_add_neg]at s1 s2;generalize a-d=x at *
 generalize b-c=y at *
 refine fni Tryz.f122 ?_;unfold Tryz.f122;repeat (first|simp only[go_sem]|simp (disch:=first|exact omg|fail) only[AX]|refine wki ?_|refine vpd 1 [] ?_|refine vfa ?_)
theorem ref4_Often (n:Int) (hn : -4294967296<n/\n<4294967296):Go.Ev.Fn CX 258 [ivV a b,.int .i64 n] (ivV (a*n) (b*n)):=by
 have w:=ref4_Whole n;have l:(lim n.natAbs).length<=1:=lim_len_one;have s1:=ref4_Times a n;have s2:=ref4_Times b n;generalize a*n=x at *
 generalize b*n=y at *
 refine fni Tryz.f258 ?_;unfold Tryz.f258;repeat (first|simp only[go_sem]|simp (disch:=first|exact omg|fail) only[AX]|refine wki ?_|refine vpd 1 [] ?_|refine vfa ?_)
theorem ref4_By (n:Nat) (h0:0<n) (hn:n<9223372036854775808):Go.Ev.Fn CX 259 [ivV a b,.int .i64 (n:Int)] (ivV (a/(n:Int)) (cdZ b n)):=by
 have o:=ref1_Of n;have l:(lim n).length<=2:=lim_len_lt;have f:=ref4_Fall a n;have r:=ref4_Rise b n;generalize a/(n:Int)=x at *
 generalize cdZ b n=y at *
 refine fni Tryz.f259 ?_;unfold Tryz.f259;repeat (first|simp only[go_sem]|simp (disch:=first|exact omg|fail) only[AX]|refine wki ?_|refine vpd 2 [5,5] ?_|refine vfa ?_)
theorem ref4_Wide (n:Int) (hn : -4294967296<n/\n<4294967296):Go.Ev.Fn CX 262 [ivV a b,.int .i64 n] (ivV (a-n) (b+n)):=by
 have w1:=ref4_Whole (-n);have w2:=ref4_Whole n;have l:(lim n.natAbs).length<=1:=lim_len_one;have s1:=ref4_Plus a (-n) (by omega) (by rw[yb];omega);have s2:=ref4_Plus b n;rw[<- Int.sub_eq_add_neg]at s1;have e0:0-n = -n:=by omega
 generalize a-n=x at *
 generalize b+n=y at *
 refine fni Tryz.f262 ?_;unfold Tryz.f262;repeat (first|simp only[go_sem,e0]|simp (disch:=first|exact omg|fail) only[AX,e0]|refine wki ?_|refine vpd 1 [] ?_|refine vfa ?_)
theorem ref4_Most:Go.Ev.Fn CX 260 [ivV a b] (intV ((max a.natAbs b.natAbs:Nat):Int)):=by
 have c:=ref4_Cmp (a.natAbs:Int) (b.natAbs:Int) (by rw[xK];exact ha) (by rw[xK];exact hb);have q : ∀n:Nat,intV (n:Int) = .agg [.bool false,natV (lim n)]:=fun n=>iv_eq (xK n) (decide_eq_false (by omega))
 rw[q,q]at c;rw[q];by_cases h:b.natAbs<a.natAbs
 ·have e:decide (cmpZ (a.natAbs:Int) (b.natAbs:Int)>0)=true:=decide_eq_true (by unfold cmpZ;rw[if_neg (by omega),if_neg (by omega)];omega);rw[Nat.max_eq_left (by omega)];generalize cmpZ (a.natAbs:Int) (b.natAbs:Int)=z at *
  refine fni Tryz.f260 ?_;unfold Tryz.f260;repeat (first|simp only[go_sem,e]|simp (disch:=first|exact omg|fail) only[AX,e]|refine wki ?_|refine vpd 1 [] ?_|refine vfa ?_)
 ·have e:decide (cmpZ (a.natAbs:Int) (b.natAbs:Int)>0)=false:=decide_eq_false (by unfold cmpZ;split<;>(try split)<;>omega);rw[Nat.max_eq_right (by omega)];generalize cmpZ (a.natAbs:Int) (b.natAbs:Int)=z at *
  refine fni Tryz.f260 ?_;unfold Tryz.f260;repeat (first|simp only[go_sem,e]|simp (disch:=first|exact omg|fail) only[AX,e]|refine wki ?_|refine vpd 1 [] ?_|refine vfa ?_)
theorem ref4_Back (n:Nat) (hn:n<=4096) (h0:0<n):Go.Ev.Fn CX 194 [ivV a b,.int .i64 (n:Int)] (ivV (a/((2^n:Nat):Int)) (cdZ b (2^n))):=by
 have s1:=ref4_Less a n ha hn h0;have s2:=ref4_More b n hb hn h0;generalize a/((2^n:Nat):Int)=x at *
 generalize cdZ b (2^n)=y at *
 refine fni Tryz.f194 ?_;unfold Tryz.f194;repeat (first|simp only[go_sem]|simp (disch:=first|exact omg|fail) only[AX]|refine wki ?_|refine vpd 1 [] ?_|refine vfa ?_)
omit hb in
theorem ref4_Rat (w:Nat) (hw:w<=4096):Go.Ev.Fn CX 188 [intV a,.int .i64 (w:Int)] (rv (mkRat a (2^w))):=by
 have p:=ref4_pow2 (n:=w) hw;have l:=lim_len_shl (a:=1) (n:=w);have l1:=lim_len1;rw[xe]at l;have o:=ref2_OfL (s:=decide (a<0)) (n:=a.natAbs) (d:=2^w);rw[sgn_self]at o;generalize 2^w=D at *
 refine fni Tryz.f188 ?_;unfold Tryz.f188;repeat (first|simp only[go_sem]|simp (disch:=first|exact omg|fail) only[AX]|refine wki ?_|refine vpd 1 [8,10] ?_|refine vfa ?_)
theorem ref4_Ball (w:Nat) (hw:w<=4096):Go.Ev.Fn CX 119 [ivV a b,.int .i64 (w:Int)] (ballR (mkRat a (2^w)) (mkRat b (2^w))):=by
 have s1:=ref4_Rat ha w hw;have s2:=ref4_Rat hb w hw;generalize mkRat a (2^w)=x at *
 generalize mkRat b (2^w)=y at *
 refine fni Tryz.f119 ?_;unfold Tryz.f119;repeat (first|simp only[go_sem]|simp (disch:=first|exact omg|fail) only[AX]|refine wki ?_|refine vpd 1 [] ?_|refine vfa ?_)
end
end Go.Proofs.YtfknkoeagjonbaaGreat
namespace Go.Proofs.YtfknkoeagjonbaaGreat
open Go.Ev
theorem blen_iff {x k:Nat}:blen x<=k↔x<2^k:=by
 unfold blen;by_cases h:x=0
 ·rw[if_pos h,h];have:0<2^k:=xM (by omega);omega
 ·rw[if_neg h];have:=Nat.log2_lt (n:=x) (k:=k) h;omega
theorem blen_lims (N:Nat) (h:N≠0):blen N=32*((lim N).length-1)+blen ((lim N).getD ((lim N).length-1) 0):=by
 have h0:=lim_pos h;have ht:=trimL_getD (trimL_lim N) h0;have hw:=wth_lim N;have hok:=okL_lim N;generalize lim N=a at *
 have h1:=wth_at a (w:=a.length-1);rw[zK (by omega),show wth []=0 from rfl,yY,yJ,hw]at h1;have h2:=wth_lt (okL_take hok (a.length-1));rw[xo,yO (by omega)]at h2;rw[show (4294967296:Nat)=2^32 from rfl,<- zJ]at h1 h2;have hp:0<2^(32*(a.length-1)):=xM (by omega);have h3:N/2^(32*(a.length-1))=a.getD (a.length-1) 0:=by
  rw[h1,wu _ _ hp,yo h2,yf]
 have h4:2^(32*(a.length-1))<=N:=by
  have:=xF (2^(32*(a.length-1))) (show 1<=a.getD (a.length-1) 0 by omega);omega
 rw[blen_shift h4,h3]
theorem nat_Bits {N:Nat} (h:(lim N).length<=60000000000:=by omega):Go.Ev.Fn CX 241 [natV (lim N)] (.int .i64 (blen N:Nat)):=by
 have t:=nat_trim (lim N) (okL_lim N);rw[wth_lim]at t;by_cases h0:N=0
 ·subst h0;have e:(lim 0).length=0:=by rw[lim_zero];rfl
  have e2:blen 0=0:=rfl;rw[e2];refine fni Tryz.f241 ?_;unfold Tryz.f241;repeat (first|simp only[go_sem]|simp (disch:=first|exact omg|fail) only[AX]|refine wki ?_|refine vfa ?_)
  rfl
 ·have e:=blen_lims N h0;have hl:=lim_pos h0;have hg:=getD_lt (okL_lim N) ((lim N).length-1);have b:=bits_Len32 _ hg;have hb:blen ((lim N).getD ((lim N).length-1) 0)<=32:=blen_iff.2 hg;rw[e];generalize hgx:(lim N).getD ((lim N).length-1) 0=x at *
  generalize hcs:lim N=cs at *
  have hi:(cs.map limb).length=cs.length:=xd _;have hat:((cs.map limb).drop (cs.length-1)).head?=some (limb x):=by
   rw[List.head?_drop,yN,xD (by omega)];rw[xC,xD (by omega)]at hgx;rw[<- hgx];rfl
  generalize blen x=y at *
  refine fni Tryz.f241 ?_;unfold Tryz.f241;repeat (first|simp only[go_sem,hgx]|simp (disch:=first|exact omg|fail) only[AX,hgx]|refine wki ?_|refine vfa ?_)
  congr 1
theorem fix_Small {a b:Nat} (h:(lim b).length<=60000000000:=by omega) {k:Nat} (hk:k<=1000:=by omega):Go.Ev.Fn CX 173 [spanV a b,.int .i64 (k:Int)] (.bool (decide (b<2^k))):=by
 have s:=nat_Bits h;rw[show decide (b<2^k)=decide (((blen b:Nat):Int)<=(k:Int)) from decide_eq_decide.2 (by rw[<- blen_iff];omega)];generalize blen b=x at *
 refine fni Tryz.f173 ?_;unfold Tryz.f173;repeat (first|simp only[go_sem]|simp (disch:=first|exact omg|fail) only[AX]|refine wki ?_|refine vfa ?_)
end Go.Proofs.YtfknkoeagjonbaaGreat
namespace Go.Proofs.YtfknkoeagjonbaaGreat
open Go.Ev
abbrev pwN (q:Rat) (A w:Nat):Nat×Nat:=powGo w 4 A (2^w) (2^w+1) (unN q w) (unN q w+1)
theorem unN_len1 {q:Rat} {w:Nat} (h0:0<=q) (h1:q<=1) (hw:w<=900):(lim (unN q w)).length<=49/\(lim (unN q w+1)).length<=50:=by
 have h2:q.num.natAbs<=q.den:=(unit_num h0 h1).1;have h3:unN q w<=2^w:=(yR q.den_pos).2 (by
  have:=xB (2^w) h2;have:=q.den_pos;rw[xV (2^w)];omega)
 have l1:=lim_len1;have l:=lim_len_p2 (w:=w) h3;have h4:=lim_len_add (a:=unN q w) (b:=1) (L:=49);exact⟨by omega,by omega⟩
theorem incb_power {q:Rat} {A w L:Nat} (hA:A<=15) (hz:szR q L) (hL:L<=300) (hu:(lim (unN q w)).length<=49/\(lim (unN q w+1)).length<=50) (hw:w<=900:=by omega) (hw0:0<w:=by omega):Go.Ev.Fn CX 237 [.int .i64 (2*(A:Int)),rv q,.int .i64 (w:Int)] (spanV (pwN q A w).1 (pwN q A w).2):=by
 have r:Go.Ev.Fn CX 171 [rv q,.int .i64 (w:Int)] (spanV (unN q w) (unN q w+1)):=fix_Rat hz (w:=w);obtain⟨l1,l2⟩:=hu;have p:=fix_Power (a1:=unN q w) (a2:=unN q w+1) (n:=A) (w:=w) (F:=4) (by omega) (by omega) (by omega) l2 (by omega) hw0;have an:=and_one64 (a:=2*A);rw[show 2*A%2=0 by omega,show ((2*A:Nat):Int)=2*(A:Int) by omega]at an;have td:(2*(A:Int)).tdiv 2=(A:Int):=by
  rw[Int.mul_comm];exact Int.mul_tdiv_cancel _ (by omega)
 have td2:((2*A:Nat):Int).tdiv 2=(A:Int):=td;generalize (pwN q A w).1=x at *
 generalize (pwN q A w).2=y at *
 generalize unN q w=u at *
 refine fni Tryz.f237 ?_;unfold Tryz.f237;repeat (first|simp only[go_sem,an,td,td2]|simp (disch:=first|exact omg|fail) only[AX,an,td,td2]|refine wki ?_|refine vpd 4 [] ?_|refine vfa ?_)
theorem okS_un {q:Rat} {w:Nat} (h0:0<=q) (h1:q<=1):okS (2^w) (unN q w) (unN q w+1) 1:=by
 refine⟨by omega,by omega,?_⟩;have h2:q.num.natAbs<=q.den:=(unit_num h0 h1).1;have:unN q w<=2^w:=(yR q.den_pos).2 (by
  have:=xB (2^w) h2;have:=q.den_pos;rw[xV (2^w)];omega)
 omega
theorem okS_pw {q:Rat} {A w:Nat} (h0:0<=q) (h1:q<=1) (hw:20<=w:=by omega):okS (2^w) (pwN q A w).1 (pwN q A w).2 511:=by
 have hP:1000000<=2^w:=xG (by decide) (xE (n:=2) (by omega) hw);exact powGo_ok hP 4 A _ _ _ _ 1 (by decide) ⟨by omega,by omega,by omega⟩ (okS_un h0 h1)
theorem okS_len {a b e w:Nat} (h:okS (2^w) a b e) (he:e<=100000) (hw:w<=900) (hw0:20<=w:=by omega):(lim a).length<=40/\(lim b).length<=40:=by
 have hP:1000000<=2^w:=xG (by decide) (xE (n:=2) (by omega) hw0);have h2:2^(w+1)=2^w*2:=xW _ _;exact⟨lim_len_p2 (w:=w+1) (by have:=h.1;have:=h.2.2;omega),lim_len_p2 (w:=w+1) (by have:=h.2.2;omega)⟩
end Go.Proofs.YtfknkoeagjonbaaGreat
