/- Part 9 of the proof: the evaluator, contracts of functions and their plain laws (joined by program). No condition. -/
import Derived.Test.YtfknkoeagjonbaaGreatPart8
set_option linter.unusedVariables false
set_option linter.unusedSimpArgs false
set_option maxRecDepth 100000
namespace Go.Proofs.YtfknkoeagjonbaaGreat
open Go.Ev
def fRow (w Y1 Y2:Nat):Nat->Nat->Nat->Nat->Nat×Nat
 |0,_,a,b=>(a,b)
 |f+1,k,a,b=>fRow w Y1 Y2 f (k+2) (a*Y1/2^w/k*2) (cdv (cdv (b*Y2) (2^w)) k*2)
theorem fRow_enc {w Y1 Y2 k0:Nat} {x c:Rat} (hk0:1<=k0) (hx:Enc w Y1 Y2 x) : ∀ (f i a b:Nat),Enc w a b (c*tk (x*2) k0 i)->Enc w (fRow w Y1 Y2 f (k0+2*i) a b).1 (fRow w Y1 Y2 f (k0+2*i) a b).2 (c*tk (x*2) k0 (i+f))
 |0,i,a,b,h=>h
 |f+1,i,a,b,h=>by
  have e1:=enc_oftenN (enc_byN (n:=1) (m:=k0+2*i) (by omega) (enc_prodN h hx));rw[xu,xu]at e1;have e2:c*tk (x*2) k0 i*x*((1:Nat):Rat)/((k0+2*i:Nat):Rat)*2=c*tk (x*2) k0 (i+1):=by
   show _=c*(tk (x*2) k0 i*(x*2)*((1:Nat):Rat)/((k0+2*i:Nat):Rat))
   rw[xv,xv];grind
  rw[e2]at e1;have ih:=fRow_enc hk0 hx f (i+1) _ _ e1;rw[show i+1+f=i+(f+1) by omega]at ih;exact ih
section
variable {v:SV} {x:Rat} {w n:Nat}
theorem front_step (hx:0<=x) (hw0:8<=w) (hw:w<=1000) (lY:(lim (upN x w)).length<=40) : ∀ (k a b:Nat),0<k->k<1000->a<=b->(lim b).length<=3000->Go.Ev.Fn CX 190 [ivN a b,ivN (unN x w) (upN x w),.int .i64 (w:Int)] (ivN (a*unN x w/2^w) (cdv (b*upN x w) (2^w))) /\
  Go.Ev.Fn CX 259 [ivN (a*unN x w/2^w) (cdv (b*upN x w) (2^w)),.int .i64 (k:Int)] (ivN (a*unN x w/2^w/k) (cdv (cdv (b*upN x w) (2^w)) k)) /\
  Go.Ev.Fn CX 258 [ivN (a*unN x w/2^w/k) (cdv (cdv (b*upN x w) (2^w)) k),.int .i64 2] (ivN (a*unN x w/2^w/k*2) (cdv (cdv (b*upN x w) (2^w)) k*2)) /\
  a*unN x w/2^w/k*2<=cdv (cdv (b*upN x w) (2^w)) k*2/\(lim (cdv (cdv (b*upN x w) (2^w)) k*2)).length<=(lim b).length+41:=by
 intro k a b hk hk2 hab lb;have P:0<2^w:=xM (by omega);have y12:=un_up (q:=x) w;have z:=lim_len_mul (a:=b) (b:=upN x w);have z2:=lim_len_mono (cdv_self (b*upN x w) P);have v12:a*unN x w/2^w<=cdv (b*upN x w) (2^w):=div_le_cdv P (xJ hab y12);have z3:=lim_len_mono v12;have w12:a*unN x w/2^w/k<=cdv (cdv (b*upN x w) (2^w)) k:=div_le_cdv hk v12;have z4:=lim_len_mono (cdv_self (cdv (b*upN x w) (2^w)) hk);have z5:=lim_len_mono w12;have z6:=lim_len_mul (a:=cdv (cdv (b*upN x w) (2^w)) k) (b:=2);have l2:(lim 2).length<=1:=lim_len_one (by decide)
 exact⟨ref4_ProdN hab y12,ref4_ByN (by omega) (by omega) hk,ref4_OftenN (n:=2),xB _ w12,by omega⟩
set_option maxHeartbeats 1000000 in
theorem ref11_front (hv:RatA v x 240) (h0:0<=x) (h64:x<=64) (hn:1<=n) (hn2:n<=30) (hw0:64<=w:=by omega) (hw:w<=400:=by omega) :
  ∃A B:Nat,∃lo hi:Rat,Go.Ev.Fn CX 221 [.int .i64 (n:Int),v,.int .i64 (w:Int)] (ivN A B)/\A<=B/\(lim B).length<=1000/\0<=lo/\0<=hi/\lo*lo<=x/\x<=hi*hi /\ ∀s,lo<=s->s<=hi->Enc w A B (igC n s*tk (x*2) (2+n%2) (n/2)):=by
 have nb:=ref4_NumN (w:=w) hv (by omega) (by omega) (by omega) h0;have n1:=ref4_NumN (w:=w) (RatA_rv (one_szR')) (by omega) (by omega) (by omega) (show (0:Rat)<=1 by decide);have u1:unN 1 w=2^w:=by show 1*2^w/1=_;rw[xe,wI]
 have u2:upN 1 w=2^w:=by show cdv (1*2^w) 1=_;unfold cdv;rw[xe,wI];omega
 rw[u1,u2]at n1;have i1:=ref2_Int 1;rw[show ((1:Int):Rat)=1 from rfl]at i1;have en:=num_enc h0 w;have y12:=un_up (q:=x) w;have yT:upN x w<=2^w*64:=upN_le (n:=64) (m:=1) h0 (by
  rw[show ((64:Nat):Rat)=64 from rfl,show ((1:Nat):Rat)=1 from rfl];grind)
 have e6:2^(w+6)=2^w*64:=xN _ _ _;have e3:2^(w+3)=2^w*8:=xN _ _ _;have P:2^8<=2^w:=xE (by omega) (by omega);have lY:=lim_len_p2 (n:=upN x w) (w:=w+6);have step:=front_step h0 (show 8<=w by omega) (by omega) lY;have rem:(n:Int).tmod 2=((n%2:Nat):Int):=_root_.id rfl;have l2:(lim 2).length<=1:=lim_len_one (by decide);obtain⟨s1,s2,a0,a1,a2,a3,es⟩:=sqrt_pts h0 en;by_cases hod:n%2=1
 ·obtain⟨PL,PH,hpi,p1,p2',p3,p4,p5⟩:=iv_piB (W:=w);have fp:=ref8_PiIv (w:=w) (by omega) hpi;have lPH:=lim_len_p2 (n:=PH) p5;have lPL:=lim_len_mono p4;have sq1:=ref4_SqrtN (a:=unN x w) (b:=upN x w) (w:=w) (xG (lim_len_mono y12) (by omega));have sq2:=ref4_SqrtN (a:=PL) (b:=PH) (w:=w);have q12:rtN (unN x w*2^w)<=rtN (upN x w*2^w)+1:=yZ (rtN_mono (xB _ y12));have r12:rtN (PL*2^w)<=rtN (PH*2^w)+1:=yZ (rtN_mono (xB _ p4));have rl:2^w<=rtN (PL*2^w):=by
   have h:=rtN_mono (xB (2^w) p3);rw[<- rtN_eq (a:=2^w*2^w) (r:=2^w) (xU _) (Nat.mul_lt_mul'' (by omega) (by omega))]at h;exact h
  have big : ∀m,m<=2^(w+6)->(lim (rtN (m*2^w)+1)).length<=40:=by
   intro m hm;have a:m*2^w<=2^(w+6+w):=by rw[xN _ (w+6) w];exact xB _ hm
   have b:=rtN_self (m*2^w);refine lim_len_p2 (w:=w+6+w+1) ?_;rw[xW];have:0<2^(w+6+w):=xM (by omega);omega
  have lq:=big _ (show upN x w<=2^(w+6) by omega);have lr:=big PH (xG p5 (xE (by omega) (by omega)));have lq1:=lim_len_mono q12;have lr1:=lim_len_mono r12;have rp:0<rtN (PL*2^w):=by omega
  have of1:=ref4_OftenN (a:=rtN (unN x w*2^w)) (b:=rtN (upN x w*2^w)+1) (n:=2);have iv:=ref4_InvN (a:=rtN (PL*2^w)) (b:=rtN (PH*2^w)+1) (w:=w) rp r12;have i12:2^(2*w)/(rtN (PH*2^w)+1)<=cdv (2^(2*w)) (rtN (PL*2^w)):=xG (Nat.div_le_div_left r12 rp) (div_le_cdv rp (xU _));have li:=lim_len_p2 (n:=cdv (2^(2*w)) (rtN (PL*2^w))) (w:=2*w) (cdv_self _ rp);have lo:=lim_len_mul (a:=rtN (upN x w*2^w)+1) (b:=2);have pr:=ref4_ProdN (a:=rtN (unN x w*2^w)*2) (b:=(rtN (upN x w*2^w)+1)*2) (c:=2^(2*w)/(rtN (PH*2^w)+1)) (d:=cdv (2^(2*w)) (rtN (PL*2^w))) (w:=w) (xB _ q12) i12
  have S12:rtN (unN x w*2^w)*2*(2^(2*w)/(rtN (PH*2^w)+1))/2^w<=cdv ((rtN (upN x w*2^w)+1)*2*cdv (2^(2*w)) (rtN (PL*2^w))) (2^w):=div_le_cdv (by omega) (xJ (xB _ q12) i12);have lS:=xG (lim_len_mono (cdv_self ((rtN (upN x w*2^w)+1)*2*cdv (2^(2*w)) (rtN (PL*2^w))) (show 0<2^w by omega))) lim_len_mul;have st : ∀s,s1<=s->s<=s2->Enc w (rtN (unN x w*2^w)*2*(2^(2*w)/(rtN (PH*2^w)+1))/2^w) (cdv ((rtN (upN x w*2^w)+1)*2*cdv (2^(2*w)) (rtN (PL*2^w))) (2^w)) (igC n s*tk (x*2) 3 0):=by
   intro s g1 g2;have e:=enc_prodN (enc_oftenN (es s g1 g2)) (enc_invN rp (rt_encB p1 p2'));rw[show igC n s=s*(1/SQ)*2 from if_pos hod];show Enc w _ _ (_*1);rw[yr,show s*(1/SQ)*2=s*2*(1/SQ) by grind];exact e
  clear es p1 p2' p3 p4 p5 big rl e3 e6 en;generalize 2^(2*w)/(rtN (PH*2^w)+1)=I1 at *
  generalize cdv (2^(2*w)) (rtN (PL*2^w))=I2 at *
  generalize rtN (PH*2^w)+1=r2 at *
  generalize rtN (PL*2^w)=r1 at *
  generalize rtN (unN x w*2^w)=q1 at *
  generalize rtN (upN x w*2^w)+1=q2 at *
  generalize q1*2*I1/2^w=S1 at *
  generalize cdv (q2*2*I2) (2^w)=S2 at *
  have pe : ∀s,s1<=s->s<=s2->Enc w (fRow w (unN x w) (upN x w) (n/2) 3 S1 S2).1 (fRow w (unN x w) (upN x w) (n/2) 3 S1 S2).2 (igC n s*tk (x*2) (2+n%2) (n/2)):=by
   intro s g1 g2;have h:=fRow_enc (c:=igC n s) (k0:=3) (by omega) (num_enc h0 w) (n/2) 0 _ _ (st s g1 g2);rw[yf]at h;rw[show 2+n%2=3 by omega];exact h
  have fin : ∀ (f k a b:Nat),0<k->k+2*f<1000->a<=b->(lim b).length+41*f<=3000->(fRow w (unN x w) (upN x w) f k a b).1<=(fRow w (unN x w) (upN x w) f k a b).2/\(lim (fRow w (unN x w) (upN x w) f k a b).2).length<=(lim b).length+41*f:=by
   intro f;induction f with
   |zero=>intro k a b h1 h2 h3 h4;exact⟨h3,wZ _ _⟩
   |succ f ih=>
    intro k a b h1 h2 h3 h4;obtain⟨-,-,-,t1,t2⟩:=step k a b h1 (by omega) h3 (by omega);obtain⟨r1,r2⟩:=ih (k+2) _ _ (by omega) (by omega) t1 (by omega);exact⟨r1,xG r2 (by omega)⟩
  obtain⟨F1,F2⟩:=fin (n/2) 3 S1 S2 (by omega) (by omega) S12 (by omega);obtain⟨A,B,hAB⟩ : ∃A B:Nat,fRow w (unN x w) (upN x w) (n/2) 3 S1 S2=(A,B):=⟨_,_,rfl⟩
  rw[hAB]at F1 F2 pe;refine⟨A,B,s1,s2,?_,F1,xG F2 (by omega),a0,a2,a1,a3,pe⟩;rw[hod]at rem;clear pe st fin F1 F2 a0 a1 a2 a3 yT;have lS2:(lim S2).length<=200:=by omega
  clear lS;generalize unN x w=y1 at *
  generalize upN x w=y2 at *
  obtain⟨W1,hW1⟩ : ∃W1:Nat,W1=2^w:=⟨_,rfl⟩
  rw[<- hW1]at n1;obtain⟨s0,n0,d0,rfl,-⟩:=hv;refine fni Tryz.f221 ?_;unfold Tryz.f221;repeat (first|simp only[go_sem,rem]|simp (disch:=first|exact omg|fail) only[AX,rem]|refine wki ?_|refine vpd 5 [] ?_|refine vfa ?_)
  refine vp_loop_inv (fun s=>s.tmp 0 = .sv (.int .i64 (n:Int))/\s.tmp 2 = .sv (.int .i64 (w:Int))/\s.tmp 6 = .ptr 6 0 0/\s.obj 6 0=some [.bool false,.sl 0 [],.bool false,.sl 0 []]/\s.tmp 7 = .ptr 7 0 0/\s.obj 7 0=some [.bool false,natV (lim y1),.bool false,natV (lim y2)]/\s.tmp 8 = .ptr 8 0 0 /\
    ∃f i a b:Nat,s.tmp 9 = .sv (.int .i64 ((3+2*i:Nat):Int))/\f+i=n/2/\fRow w y1 y2 f (3+2*i) a b=(A,B)/\s.obj 8 0=some [.bool false,natV (lim a),.bool false,natV (lim b)]/\a<=b/\(lim b).length<=200+41*i)
   (fun s=>match s.tmp 9 with | .sv (.int _ i)=>1000-i.toNat|_=>0) ⟨rfl,rfl,rfl,rfl,rfl,rfl,rfl,n/2,0,S1,S2,rfl,by omega,hAB,rfl,S12,by omega⟩ ?_
  rintro s ⟨i0,i2,i6,o6,i7,o7,i8,f,i,a,b,i9,hfi,hgo,o8,hab,hlb⟩
  cases f with
  |zero=>
   have hgo':(a,b)=(A,B):=hgo;simp only[Prod.mk.injEq]at hgo';obtain⟨rfl,rfl⟩:=hgo';clear step hAB;repeat (first|simp only[go_sem,i0,i2,i6,o6,i7,o7,i8,i9,o8]|simp (disch:=first|exact omg|fail) only[AX,i0,i2,i6,o6,i7,o7,i8,i9,o8]|refine wki ?_|refine vpd 5 [] ?_)
  |succ f=>
   obtain⟨pr2,by2,of2,t1,t2⟩:=step (3+2*i) a b (by omega) (by omega) hab (by omega);have hgo':fRow w y1 y2 f (3+2*i+2) (a*y1/2^w/(3+2*i)*2) (cdv (cdv (b*y2) (2^w)) (3+2*i)*2)=(A,B):=hgo;clear step hAB hgo;generalize a*y1/2^w=v1 at *
   generalize cdv (b*y2) (2^w)=v2' at *
   generalize v1/(3+2*i)=w1 at *
   generalize cdv v2' (3+2*i)=w2 at *
   generalize w1*2=x1 at *
   generalize w2*2=x2 at *
   repeat (first|simp only[go_sem,i0,i2,i6,o6,i7,o7,i8,i9,o8]|simp (disch:=first|exact omg|fail) only[AX,i0,i2,i6,o6,i7,o7,i8,i9,o8]|refine wki ?_|refine vpd 5 [] ?_|refine vfa ?_)
   exact⟨⟨f,i+1,x1,x2,by first|rfl|(congr 2;omega),by omega,hgo',rfl,t1,by omega⟩,by omega⟩
 ·have pe : ∀s,s1<=s->s<=s2->Enc w (fRow w (unN x w) (upN x w) (n/2) 2 (2^w) (2^w)).1 (fRow w (unN x w) (upN x w) (n/2) 2 (2^w) (2^w)).2 (igC n s*tk (x*2) (2+n%2) (n/2)):=by
   intro s g1 g2;have h:=fRow_enc (c:=igC n s) (k0:=2) (by omega) (num_enc h0 w) (n/2) 0 _ _ (by
    rw[show igC n s=1 from if_neg hod];show Enc w _ _ (1*1);rw[yr];exact sq_one)
   rw[yf]at h;rw[show 2+n%2=2 by omega];exact h
  have fin : ∀ (f k a b:Nat),0<k->k+2*f<1000->a<=b->(lim b).length+41*f<=3000->(fRow w (unN x w) (upN x w) f k a b).1<=(fRow w (unN x w) (upN x w) f k a b).2/\(lim (fRow w (unN x w) (upN x w) f k a b).2).length<=(lim b).length+41*f:=by
   intro f;induction f with
   |zero=>intro k a b h1 h2 h3 h4;exact⟨h3,wZ _ _⟩
   |succ f ih=>
    intro k a b h1 h2 h3 h4;obtain⟨-,-,-,t1,t2⟩:=step k a b h1 (by omega) h3 (by omega);obtain⟨r1,r2⟩:=ih (k+2) _ _ (by omega) (by omega) t1 (by omega);exact⟨r1,xG r2 (by omega)⟩
  have lS2:=lim_len_p2 (n:=2^w) (w:=w) (xU _);obtain⟨F1,F2⟩:=fin (n/2) 2 (2^w) (2^w) (by omega) (by omega) (by omega) (by omega);obtain⟨A,B,hAB⟩ : ∃A B:Nat,fRow w (unN x w) (upN x w) (n/2) 2 (2^w) (2^w)=(A,B):=⟨_,_,rfl⟩
  rw[hAB]at F1 F2 pe;refine⟨A,B,s1,s2,?_,F1,xG F2 (by omega),a0,a2,a1,a3,pe⟩;rw[show n%2=0 by omega]at rem;clear pe fin F1 F2 a0 a1 a2 a3 yT es en;generalize unN x w=y1 at *
  generalize upN x w=y2 at *
  obtain⟨W1,hW1⟩ : ∃W1:Nat,W1=2^w:=⟨_,rfl⟩
  rw[<- hW1]at n1 hAB lS2;obtain⟨s0,n0,d0,rfl,-⟩:=hv;refine fni Tryz.f221 ?_;unfold Tryz.f221;repeat (first|simp only[go_sem,rem]|simp (disch:=first|exact omg|fail) only[AX,rem]|refine wki ?_|refine vpd 5 [] ?_|refine vfa ?_)
  refine vp_loop_inv (fun s=>s.tmp 0 = .sv (.int .i64 (n:Int))/\s.tmp 2 = .sv (.int .i64 (w:Int))/\s.tmp 6 = .ptr 6 0 0/\s.obj 6 0=some [.bool false,.sl 0 [],.bool false,.sl 0 []]/\s.tmp 7 = .ptr 7 0 0/\s.obj 7 0=some [.bool false,natV (lim y1),.bool false,natV (lim y2)]/\s.tmp 8 = .ptr 8 0 0 /\
    ∃f i a b:Nat,s.tmp 9 = .sv (.int .i64 ((2+2*i:Nat):Int))/\f+i=n/2/\fRow w y1 y2 f (2+2*i) a b=(A,B)/\s.obj 8 0=some [.bool false,natV (lim a),.bool false,natV (lim b)]/\a<=b/\(lim b).length<=200+41*i)
   (fun s=>match s.tmp 9 with | .sv (.int _ i)=>1000-i.toNat|_=>0) ⟨rfl,rfl,rfl,rfl,rfl,rfl,rfl,n/2,0,W1,W1,rfl,by omega,hAB,rfl,by omega,by omega⟩ ?_
  rintro s ⟨i0,i2,i6,o6,i7,o7,i8,f,i,a,b,i9,hfi,hgo,o8,hab,hlb⟩
  cases f with
  |zero=>
   have hgo':(a,b)=(A,B):=hgo;simp only[Prod.mk.injEq]at hgo';obtain⟨rfl,rfl⟩:=hgo';clear step hAB;repeat (first|simp only[go_sem,i0,i2,i6,o6,i7,o7,i8,i9,o8]|simp (disch:=first|exact omg|fail) only[AX,i0,i2,i6,o6,i7,o7,i8,i9,o8]|refine wki ?_|refine vpd 5 [] ?_)
  |succ f=>
   obtain⟨pr2,by2,of2,t1,t2⟩:=step (2+2*i) a b (by omega) (by omega) hab (by omega);have hgo':fRow w y1 y2 f (2+2*i+2) (a*y1/2^w/(2+2*i)*2) (cdv (cdv (b*y2) (2^w)) (2+2*i)*2)=(A,B):=hgo;clear step hAB hgo;generalize a*y1/2^w=v1 at *
   generalize cdv (b*y2) (2^w)=v2' at *
   generalize v1/(2+2*i)=w1 at *
   generalize cdv v2' (2+2*i)=w2 at *
   generalize w1*2=x1 at *
   generalize w2*2=x2 at *
   repeat (first|simp only[go_sem,i0,i2,i6,o6,i7,o7,i8,i9,o8]|simp (disch:=first|exact omg|fail) only[AX,i0,i2,i6,o6,i7,o7,i8,i9,o8]|refine wki ?_|refine vpd 5 [] ?_|refine vfa ?_)
   exact⟨⟨f,i+1,x1,x2,by first|rfl|(congr 2;omega),by omega,hgo',rfl,t1,by omega⟩,by omega⟩
end
end Go.Proofs.YtfknkoeagjonbaaGreat
namespace Go.Proofs.YtfknkoeagjonbaaGreat
open Go.Ev
theorem ref4_AddE {a b c d:Rat} {L M:Nat} (ha:szR a L) (hb:szR b L) (hc:szR c M) (hd:szR d M) (hL1:1<=L) (hM1:1<=M) (hL:L+M<=100000):Go.Ev.Fn CX 186 [ballR a b,ballR c d] (ballR (a+c) (b+d)):=by
 have s1:=ref2_Add (RatA_rv ha) (RatA_rv hc) hL1 hM1;have s2:=ref2_Add (RatA_rv hb) (RatA_rv hd) hL1 hM1;generalize a+c=x at *
 generalize b+d=y at *
 refine fni Tryz.f186 ?_;unfold Tryz.f186;repeat (first|simp only[go_sem]|simp (disch:=first|exact omg|fail) only[AX]|refine wki ?_|refine vpd 1 [] ?_|refine vfa ?_)
section
variable {z:Rat} {p:Int} {s:Bool} {n d:List Nat}
end
end Go.Proofs.YtfknkoeagjonbaaGreat
namespace Go.Proofs.YtfknkoeagjonbaaGreat
open Go.Ev
theorem mk_in {w A B:Nat} {V:Rat} (h:Enc w A B V):mkRat (A:Int) (2^w)<=V/\V<=mkRat (B:Int) (2^w):=by
 have P:=p2_pos w;exact⟨le_by P (by rw[mk_p2];exact h.1),le_by P (by rw[mk_p2];exact h.2)⟩
theorem lim_len_p2k {n w:Nat} (h:n<=2^w):(lim n).length<=w/32+2:=by
 have:=lim_len_pw (n:=n) (w:=w+1) (yX h (wa (by omega) (by omega)));omega
section
variable {v:SV} {x:Rat} {w n p:Nat}
set_option maxHeartbeats 1000000 in
theorem ref11_iv (hv:RatA v x 240) (h0:0<=x) (h64:x<=64) (hn:1<=n) (hn2:n<=30) (hw0:20<=w:=by omega) (hw:w<=170:=by omega) :
  ∃A B:Nat,∃lo hi:Rat,Go.Ev.Fn CX 152 [.int .i64 (n:Int),v,.int .i64 (w:Int)] (ivN A B)/\A<=B/\(lim B).length<=1200/\0<=lo/\0<=hi/\lo*lo<=x/\x<=hi*hi /\ ∀s,lo<=s->s<=hi -> ∃L0,∀L,L0<=L->Enc w A B (igV n s x L):=by
 obtain⟨W,hW,hw1,hw2,hwi⟩ : ∃W:Nat,(∀Q:Nat->Prop,Q W->Q (w+230))/\250<=W/\W<=400/\(w:Int)+230=(W:Int):=⟨w+230,fun Q h=>h,by omega,by omega,rfl⟩
 have zx:=szR_of hv;have ng:=ref2_Neg hv;have nx0 : -x<=0:=by grind
 have nx64 : -64 <= -x:=by grind
 obtain⟨A1,B1,lo,hi,ff,f1,f2,a0,a1,a2,a3,ef⟩:=ref11_front (n:=n) (w:=W) hv h0 h64 hn hn2;obtain⟨A2,B2,g1,g2,fe,s1,ee⟩:=ref6_Iv (w:=W) (RatA_rv (szR_neg zx)) (by omega) (by omega) nx0 nx64;obtain⟨A3,B3,fr,r1,r2,s2,es⟩:=ref11_row (n:=n) (w:=W) hv h0 h64 hn hn2;have P:0<2^W:=xM (by omega);have lB2:=lim_len_p2k g2;clear g2;have pr1:=ref4_ProdN (a:=A1) (b:=B1) (c:=A2) (d:=B2) (w:=W) f1 g1;have m12:A1*A2/2^W<=cdv (B1*B2) (2^W):=div_le_cdv P (xJ f1 g1);have lm:=xG (lim_len_mono (cdv_self (B1*B2) P)) lim_len_mul;have pr2:=ref4_ProdN (a:=A1*A2/2^W) (b:=cdv (B1*B2) (2^W)) (c:=A3) (d:=B3) (w:=W) m12 r1
 have z12:A1*A2/2^W*A3/2^W<=cdv (cdv (B1*B2) (2^W)*B3) (2^W):=div_le_cdv P (xJ m12 r1);have lz:=xG (lim_len_mono (cdv_self (cdv (B1*B2) (2^W)*B3) P)) lim_len_mul;have en : ∀s,lo<=s->s<=hi -> ∀L,s1+s2<=L->Enc W (A1*A2/2^W*A3/2^W) (cdv (cdv (B1*B2) (2^W)*B3) (2^W)) (igV n s x L):=by
  intro s q1 q2 L hL;have e:=enc_prodN (enc_prodN (ef s q1 q2) (ee L (by omega))) (es L (by omega));have e2:igV n s x L=igC n s*tk (x*2) (2+n%2) (n/2)*evX (-x) L*sk (x*2) (n+2) L:=by unfold igV;grind
  rw[e2];exact e
 generalize A1*A2/2^W=M1 at *
 generalize cdv (B1*B2) (2^W)=M2 at *
 generalize M1*A3/2^W=Z1 at *
 generalize cdv (M2*B3) (2^W)=Z2 at *
 have bk:=ref4_BackN (a:=Z1) (b:=Z2) (n:=230) (xG (lim_len_mono z12) (by omega));have o12:=div_le_cdv (d:=2^230) (Nat.two_pow_pos 230) z12;have lO:=lim_len_mono (cdv_self Z2 (Nat.two_pow_pos 230));refine⟨_,_,lo,hi,?_,o12,by omega,a0,a1,a2,a3,fun s q1 q2=>⟨s1+s2,fun L hL=>enc_backN (w:=w) (n:=230) (hW (fun W=>Enc W Z1 Z2 (igV n s x L)) (en s q1 q2 L hL))⟩⟩;clear en ef ee es z12 o12 a0 a1 a2 a3 h0 h64 nx0 nx64 zx;generalize -x=nx at *
 generalize Z1/2^230=O1 at *
 generalize cdv Z2 (2^230)=O2 at *
 obtain⟨s0,n0,d0,rfl,-⟩:=hv;refine fni Tryz.f152 ?_;unfold Tryz.f152;repeat (first|simp only[go_sem,hwi]|simp (disch:=first|exact omg|fail) only[AX,hwi]|refine wki ?_|refine vpd 3 [] ?_|refine vfa ?_)
theorem ref11_in {nI:Int} (hv:RatA v x 240) (h0:0<=x) (h64:x<=64) (hn:1<=nI:=by omega) (hn2:nI<=256:=by omega):Go.Ev.Fn CX 151 [.int .i64 nI,v] (.bool false):=by
 have nm:=ref2_Norm hv;have zx:=szR_of hv;have i6:=ref2_Int 64;have c2:=ref2_Cmp (RatA_rv zx) (RatA_rv (int_szR (n:=64)));have e2:decide (cmpR x ((64:Int):Rat)>0)=false:=by rw[cmpR_gt];exact decide_eq_false (zf.2 h64)
 rw[ervP h0]at nm c2;generalize cmpR x ((64:Int):Rat)=y2 at *
 clear h0 h64;obtain⟨s,N,D,rfl,-⟩:=hv;refine fni Tryz.f151 ?_;unfold Tryz.f151;repeat (first|simp only[go_sem,e2]|simp (disch:=first|exact omg|fail) only[AX,e2]|refine wki ?_|refine vpd 2 [] ?_|refine vfa ?_)
theorem ref11_Pzero {nI pI:Int} (hv:RatA v 0 240) (hn:1<=nI:=by omega) (hn2:nI<=256:=by omega):Go.Ev.Fn CX 101 [.int .i64 nI,v,.int .i64 pI] (.tup [ballR 0 0,.bool true]):=by
 have bd:=ref11_in (nI:=nI) hv (by decide) (by decide) hn hn2;have i0:=ref2_Int 0;have o:=ref4_Of (RatA_rv (int_szR (n:=0)));have zr:=ref2_Zero hv;rw[decide_eq_true rfl]at zr;rw[show ((0:Int):Rat)=0 from rfl]at i0 o;clear hn hn2;obtain⟨s,N,D,rfl,-⟩:=hv;refine fni Tryz.f101 ?_;unfold Tryz.f101;repeat (first|simp only[go_sem]|simp (disch:=first|exact omg|fail) only[AX]|refine wki ?_|refine vfa ?_)
theorem ref11_P (hv:RatA v x 240) (h0:0<x) (h64:x<=64) (hn:1<=n) (hn2:n<=30) (hp:p<=150:=by omega) :
  ∃l h lo hi:Rat,Go.Ev.Fn CX 101 [.int .i64 (n:Int),v,.int .i64 (p:Int)] (.tup [ballR l h,.bool true])/\szR l 1200/\szR h 1200/\0<=lo/\0<=hi/\lo*lo<=x/\x<=hi*hi /\ ∀s,lo<=s->s<=hi -> ∃L0,∀L,L0<=L->l<=igV n s x L/\igV n s x L<=h:=by
 obtain⟨A,B,lo,hi,fi,i12,lB,a0,a1,a2,a3,en⟩:=ref11_iv (n:=n) (w:=p+20) hv (xX h0) h64 hn hn2;have lA:=lim_len_mono i12;have lp:=lim_len_p2k (n:=2^(p+20)) (w:=p+20) (xU _);have bl:=ref4_Ball (a:=(A:Int)) (b:=(B:Int)) (by rw[xK];omega) (by rw[xK];omega) (p+20) (by omega);rw[ivN_eq]at bl;refine⟨mkRat (A:Int) (2^(p+20)),mkRat (B:Int) (2^(p+20)),lo,hi,?_,szR_nat,szR_nat,a0,a1,a2,a3,fun s q1 q2 => ?_⟩;rotate_left
 ·obtain⟨L0,h⟩:=en s q1 q2;exact⟨L0,fun L hL=>mk_in (h L hL)⟩
 have bd:=ref11_in (nI:=(n:Int)) hv (xX h0) h64;have i0:=ref2_Int 0;have o:=ref4_Of (RatA_rv (int_szR (n:=0)));have zr:=ref2_Zero hv;rw[decide_eq_false (show ¬x=0 by clear en;grind)]at zr;rw[show ((0:Int):Rat)=0 from rfl]at i0 o;have ho:=ref10_Hold (p:=p);rw[show ((p+20:Nat):Int)=(p:Int)+20 from rfl]at fi bl;clear en h0 h64 a0 a1 a2 a3;generalize mkRat (A:Int) (2^(p+20))=q1 at *
 generalize mkRat (B:Int) (2^(p+20))=q2 at *
 obtain⟨s,N,D,rfl,-⟩:=hv;refine fni Tryz.f101 ?_;unfold Tryz.f101;repeat (first|simp only[go_sem]|simp (disch:=first|exact omg|fail) only[AX]|refine wki ?_|refine vfa ?_)
theorem ref4_NegI {a b:Rat} {L:Nat} (ha:szR a L) (hb:szR b L) (hL1:1<=L) (hL:L<=100000:=by omega):Go.Ev.Fn CX 187 [ballR a b] (ballR (-b) (-a)):=by
 have n1:=ref2_Neg (RatA_rv ha) hL1;have n2:=ref2_Neg (RatA_rv hb) hL1;generalize -a=u at *
 generalize -b=w at *
 refine fni Tryz.f187 ?_;unfold Tryz.f187;repeat (first|simp only[go_sem]|simp (disch:=first|exact omg|fail) only[AX]|refine wki ?_|refine vpd 1 [] ?_|refine vfa ?_)
theorem ref4_SubI {a b c d:Rat} {L M:Nat} (ha:szR a L) (hb:szR b L) (hc:szR c M) (hd:szR d M) (hL1:1<=L:=by omega) (hM1:1<=M:=by omega) (hL:L+M<=100000:=by omega):Go.Ev.Fn CX 116 [ballR a b,ballR c d] (ballR (a-d) (b-c)):=by
 have s1:=ref4_NegI hc hd hM1;have s2:=ref4_AddE ha hb (szR_neg hd) (szR_neg hc) hL1 hM1 hL;rw[<- Rat.sub_eq_add_neg,<- Rat.sub_eq_add_neg]at s2;generalize a-d=x at *
 generalize b-c=y at *
 generalize -c=u at *
 generalize -d=w at *
 refine fni Tryz.f116 ?_;unfold Tryz.f116;repeat (first|simp only[go_sem]|simp (disch:=first|exact omg|fail) only[AX]|refine wki ?_|refine vpd 1 [] ?_|refine vfa ?_)
theorem ref11_Q {nI pI:Int} {l h:Rat} (hv:RatA v x 240) (zl:szR l 1200) (zh:szR h 1200) (f:Go.Ev.Fn CX 101 [.int .i64 nI,v,.int .i64 pI] (.tup [ballR l h,.bool true])):Go.Ev.Fn CX 59 [.int .i64 nI,v,.int .i64 pI] (.tup [ballR (1-h) (1-l),.bool true]):=by
 have i1:=ref2_Int 1;have z1:=int_szR (n:=(1:Int));have o:=ref4_Of (RatA_rv z1);have b:=ref4_SubI z1 z1 zl zh;rw[show ((1:Int):Rat)=1 from rfl]at i1 o b;generalize 1-h=y1 at *
 generalize 1-l=y2 at *
 obtain⟨s0,n0,d0,rfl,-⟩:=hv;refine fni Tryz.f59 ?_;unfold Tryz.f59;repeat (first|simp only[go_sem,xQ]|simp (disch:=first|exact omg|fail) only[AX,xQ]|refine wki ?_|refine vpd 4 [] ?_|refine vfa ?_)
end
end Go.Proofs.YtfknkoeagjonbaaGreat
namespace Go.Proofs.YtfknkoeagjonbaaGreat
open Go.Ev
section
variable {x y:Rat} {a b p:Int} {s s':Bool} {n d n' d':List Nat}
end
end Go.Proofs.YtfknkoeagjonbaaGreat
namespace Go.Proofs.YtfknkoeagjonbaaGreat
open Go.Ev
def noR:InR:=(false,[],[])
theorem ratsC_at : ∀ {ps:List InR} {k:Nat},k<ps.length -> ∃rest,(ratsC ps).drop (k*3) = .bool (ps.getD k noR).1::natV (ps.getD k noR).2.1::natV (ps.getD k noR).2.2::rest
 | [],_,h=>by simp at h
 |p::ps,0,_=>⟨_,rfl⟩
 |p::ps,k+1,h=>by
  obtain⟨r,this⟩:=ratsC_at (ps:=ps) (k:=k) (by simpa using h);refine⟨r,?_⟩;rw[ratsC_cons];have e : ∀j,(SV.bool p.1::natV p.2.1::natV p.2.2::ratsC ps).drop (j+3)=(ratsC ps).drop j:=fun _=>rfl
  rw[show (k+1)*3=k*3+3 by omega,e,this];rfl
def bigN (p:InR):Bool:=decide (1<p.2.1.length)||decide (1<p.2.2.length)
def bigR (ps:List InR):Bool:=decide (12<ps.length)||ps.any bigN
theorem any_take {α:Type} (f:α->Bool) (l:List α) (d:α) {i:Nat} (h:i<l.length:=by omega):(l.take (i+1)).any f=((l.take i).any f||f (l.getD i d)):=by
 rw[wC,List.any_append,xD h,xC,xD h];simp
theorem any_of_getD {α:Type} (f:α->Bool) (l:List α) (d:α) {i:Nat} (h:i<l.length) (hf:f (l.getD i d)=true):l.any f=true:=by
 refine wG.2 ⟨l.getD i d,?_,hf⟩;rw[xC,xD h];exact yQ h
theorem tab_at {rows:List (List InR)} {i:Nat} (h:i<rows.length):((rows.map rowV).drop i).head?=some (.sl (rows.getD i []).length (ratsC (rows.getD i []))):=by
 rw[List.head?_drop,yN,xC,xD h];rfl
theorem bigR_small {ps:List InR} (h:bigR ps=false):ps.length<=12 /\ ∀p∈ps,p.2.1.length<=1/\p.2.2.length<=1:=by
 unfold bigR at h;rw[wY]at h;refine⟨by have:=of_decide_eq_false h.1;omega,fun p hp => ?_⟩;have h2:=List.any_eq_false.1 h.2 p hp;unfold bigN at h2;have h3:(decide (1<p.2.1.length)||decide (1<p.2.2.length))=false:=by simpa using h2
 rw[wY]at h3;have h4:=of_decide_eq_false h3.1;have h5:=of_decide_eq_false h3.2;omega
theorem bigR_row {ps:List InR} (h:bigR ps=false) (hok : ∀p∈ps,p.ok):RowC (ratsC ps) (ps.map InR.q) 1/\ps.length<=12:=by
 obtain⟨h1,h2⟩:=bigR_small h;exact⟨ratsC_row ps fun p hp=>⟨hok p hp,h2 p hp⟩,h1⟩
theorem law19_much {rows:List (List InR)} (hn:rows.length<=1099511627776) (hm : ∀ps∈rows,ps.length<=9223372036854775807):Go.Ev.Fn CX 47 [.sl rows.length (rows.map rowV)] (.bool (rows.any bigR)):=by
 have hlen:(rows.map rowV).length=rows.length:=xd _;have hat:=fun {i:Nat} (h:i<rows.length)=>tab_at h
 have hps : ∀i,i<rows.length->(rows.getD i []).length<=9223372036854775807:=by
  intro i h;refine hm _ ?_;rw[xC,xD h];exact yQ h
 generalize hcs:rows.map rowV=cs at *
 refine fni Tryz.f47 ?_;unfold Tryz.f47;repeat (first|simp only[go_sem]|simp (disch:=first|exact omg|fail) only[AX]|refine wki ?_)
 refine vp_loop_inv (fun s=>s.tmp 0 = .sv (.sl rows.length cs) /\ ∃i:Nat,s.tmp 3 = .sv (.int .i64 (i:Int))/\i<=rows.length/\(rows.take i).any bigR=false)
  (fun s=>match s.tmp 3 with | .sv (.int _ i)=>rows.length-i.toNat|_=>0) ⟨rfl,0,rfl,by omega,rfl⟩ ?_
 rintro s2 ⟨i0,i,i3,hi,hb⟩
 by_cases hend:i=rows.length
 ·subst hend;rw[yV]at hb;rw[hb];repeat (first|simp only[go_sem,i0,i3]|simp (disch:=first|exact omg|fail) only[AX,i0,i3]|refine wki ?_)
 ·have h1:=hat (i:=i) (by omega);have h2:=hps i (by omega);have hor:=any_take bigR rows [] (i:=i);have htr:=any_of_getD bigR rows [] (i:=i) (by omega);rw[hb,zE]at hor;generalize rows.getD i []=ps at *
  by_cases hbig:12<ps.length
  ·rw[htr (by unfold bigR;rw[decide_eq_true hbig];rfl)];clear hor htr hat hps;repeat (first|simp only[go_sem,i0,i3,h1,hlen]|simp (disch:=first|exact omg|fail) only[AX,i0,i3,h1,hlen]|refine wki ?_)
  ·have hpl:=ratsC_len ps;have hbr:bigR ps=ps.any bigN:=by unfold bigR;rw[decide_eq_false hbig];rfl
   clear hat hps;repeat (first|simp only[go_sem,i0,i3,h1,hlen]|simp (disch:=first|exact omg|fail) only[AX,i0,i3,h1,hlen]|refine wki ?_)
   refine vp_loop_inv (fun s=>s.tmp 0 = .sv (.sl rows.length cs)/\s.tmp 3 = .sv (.int .i64 (i:Int)) /\ ∃k:Nat,s.tmp 4 = .sv (.int .i64 (k:Int))/\k<=ps.length/\(ps.take k).any bigN=false)
    (fun s=>match s.tmp 4 with | .sv (.int _ i)=>ps.length-i.toNat|_=>0) ⟨i0,i3,0,rfl,by omega,rfl⟩ ?_
   rintro s3 ⟨j0,j3,k,j4,hk,hkb⟩
   by_cases hkend:k=ps.length
   ·subst hkend;rw[yV]at hkb;rw[hbr,hkb]at hor;clear htr;repeat (first|simp only[go_sem,j0,j3,j4,h1,hlen]|simp (disch:=first|exact omg|fail) only[AX,j0,j3,j4,h1,hlen]|refine wki ?_)
    exact⟨⟨i+1,rfl,by omega,hor⟩,by omega⟩
   ·obtain⟨rest,g1⟩:=ratsC_at (ps:=ps) (k:=k) (by omega);have gor:=any_take bigN ps noR (i:=k);have gtr:=any_of_getD bigN ps noR (i:=k) (by omega);rw[hkb,zE]at gor;generalize hp:ps.getD k noR=p at *
    obtain⟨s,n,d⟩:=p;simp only at g1;by_cases c1:1<n.length
    ·rw[htr (by rw[hbr];exact gtr (by unfold bigN;rw[decide_eq_true c1];rfl))];clear htr gtr gor hor;repeat (first|simp only[go_sem,j0,j3,j4,h1,hlen,g1,hpl,List.drop_succ_cons,xf,List.head?_cons]|simp (disch:=first|exact omg|fail) only[AX,j0,j3,j4,h1,hlen,g1,hpl,List.drop_succ_cons,xf,List.head?_cons]|refine wki ?_)
    ·by_cases c2:1<d.length
     ·rw[htr (by rw[hbr];exact gtr (by unfold bigN;rw[decide_eq_true c2,Bool.or_true]))];clear htr gtr gor hor;repeat (first|simp only[go_sem,j0,j3,j4,h1,hlen,g1,hpl,List.drop_succ_cons,xf,List.head?_cons]|simp (disch:=first|exact omg|fail) only[AX,j0,j3,j4,h1,hlen,g1,hpl,List.drop_succ_cons,xf,List.head?_cons]|refine wki ?_)
     ·have hbn:bigN (s,n,d)=false:=by unfold bigN;rw[decide_eq_false c1,decide_eq_false c2];rfl
      rw[hbn]at gor;clear htr gtr hor hbn;repeat (first|simp only[go_sem,j0,j3,j4,h1,hlen,g1,hpl,List.drop_succ_cons,xf,List.head?_cons]|simp (disch:=first|exact omg|fail) only[AX,j0,j3,j4,h1,hlen,g1,hpl,List.drop_succ_cons,xf,List.head?_cons]|refine wki ?_)
      exact⟨⟨k+1,rfl,by omega,gor⟩,by omega⟩
abbrev intsV (a:List Int):SV := .sl a.length (a.map fun i => .int .i64 i)
theorem ints_at (a:List Int) {i:Nat} (h:i<a.length):((a.map fun i=>SV.int .i64 i).drop i).head?=some (.int .i64 (a.getD i 0)):=by
 rw[List.head?_drop,yN,xC,xD h];rfl
theorem law19_numbers (a b:List Int) (ha:a.length<=1000) (hb:b.length<=1000):Go.Ev.Fn CX 70 [intsV a,intsV b] (.bool (decide (a=b))):=by
 have ga:=fun {i:Nat} (h:i<a.length)=>ints_at a h
 have gb:=fun {i:Nat} (h:i<b.length)=>ints_at b h
 have la:(a.map fun i=>SV.int .i64 i).length=a.length:=xd _;have lb:(b.map fun i=>SV.int .i64 i).length=b.length:=xd _;show Go.Ev.Fn CX 70 [.sl a.length (a.map fun i=>SV.int .i64 i),.sl b.length (b.map fun i=>SV.int .i64 i)] _;generalize (a.map fun i=>SV.int .i64 i)=ca at *
 generalize (b.map fun i=>SV.int .i64 i)=cb at *
 refine fni Tryz.f70 ?_;unfold Tryz.f70;by_cases hl:a.length=b.length
 ·repeat (first|simp only[go_sem]|simp (disch:=first|exact omg|fail) only[AX]|refine wki ?_|refine vpd 6 [] ?_)
  refine vp_loop_inv (fun s=>s.tmp 0 = .sv (.sl a.length ca)/\s.tmp 1 = .sv (.sl b.length cb) /\ ∃i:Nat,s.tmp 5 = .sv (.int .i64 i)/\i<=a.length/\a.take i=b.take i) (fun s=>match s.tmp 5 with | .sv (.int _ i)=>a.length-i.toNat|_=>0) ⟨rfl,rfl,0,rfl,by omega,rfl⟩ ?_;rintro s ⟨i0,i1,i,i5,hi,ht⟩
  by_cases hend:i=a.length
  ·subst hend;rw[yV,hl,yV]at ht;rw[decide_eq_true ht];repeat (first|simp only[go_sem,i0,i1,i5]|simp (disch:=first|exact omg|fail) only[AX,i0,i1,i5]|refine wki ?_|refine vpd 6 [] ?_)
  ·have e : ∀c:List Int,i<c.length->c.take (i+1)=c.take i++[c.getD i 0]:=by
    intro c hc;rw[wC,xC,xD hc];rfl
   have h1:=ga (i:=i) (by omega);have h2:=gb (i:=i) (by omega);clear ga gb;by_cases hx:a.getD i 0=b.getD i 0
   ·have hne:(a.getD i 0 != b.getD i 0)=false:=by rw[hx];exact bne_self_eq_false _
    have ht2:a.take (i+1)=b.take (i+1):=by rw[e a (by omega),e b (by omega),ht,hx]
    clear e;repeat (first|simp only[go_sem,i0,i1,i5,h1,h2,la,lb,hne]|simp (disch:=first|exact omg|fail) only[AX,i0,i1,i5,h1,h2,la,lb,hne]|refine wki ?_|refine vpd 6 [] ?_)
    exact⟨⟨i+1,rfl,by omega,ht2⟩,by omega⟩
   ·have hne:(a.getD i 0 != b.getD i 0)=true:=bne_iff_ne.2 hx;rw[decide_eq_false (fun h=>hx (by rw[h]))];clear e;repeat (first|simp only[go_sem,i0,i1,i5,h1,h2,la,lb,hne]|simp (disch:=first|exact omg|fail) only[AX,i0,i1,i5,h1,h2,la,lb,hne]|refine wki ?_|refine vpd 6 [] ?_)
 ·rw[decide_eq_false (fun h=>hl (by rw[h]))];clear ga gb;repeat (first|simp only[go_sem]|simp (disch:=first|exact omg|fail) only[AX]|refine wki ?_|refine vpd 6 [] ?_)
end Go.Proofs.YtfknkoeagjonbaaGreat
namespace Go.Proofs.YtfknkoeagjonbaaGreat
open Go.Ev
def statR (kind:Int) (r:Res):Res:=
 if r.2.2≠0 then (0,[],r.2.2) else if r.2.1.any (fun d=>decide (256<d))=true then (0,[],7) else if (kind=1\/kind=6\/kind=7)/\128<r.1 then (0,[],7) else (r.1,r.2.1,0)
theorem test_isChi (kind:Int):Go.Ev.Fn CX 50 [.int .i64 kind] (.bool (decide (kind=1\/kind=6\/kind=7))):=by
 by_cases h1:kind=1
 ·subst h1;rw[decide_eq_true (by omega)];refine fni Tryz.f50 ?_;unfold Tryz.f50;repeat (first|simp only[go_sem]|simp (disch:=first|exact omg|fail) only[AX]|refine wki ?_)
 by_cases h2:kind=6
 ·subst h2;rw[decide_eq_true (by omega)];refine fni Tryz.f50 ?_;unfold Tryz.f50;repeat (first|simp only[go_sem]|simp (disch:=first|exact omg|fail) only[AX]|refine wki ?_)
 by_cases h3:kind=7
 ·subst h3;rw[decide_eq_true (by omega)];refine fni Tryz.f50 ?_;unfold Tryz.f50;repeat (first|simp only[go_sem]|simp (disch:=first|exact omg|fail) only[AX]|refine wki ?_)
 rw[decide_eq_false (by omega)];refine fni Tryz.f50 ?_;unfold Tryz.f50;repeat (first|simp only[go_sem]|simp (disch:=first|exact omg|fail) only[AX]|refine wki ?_)
section
variable {kind k n:Int} {X Y tn:Nat} {xs ys tc:List SV} {sm ss:Bool} {nm dm ns ds:List Nat}
theorem raw_T {l:List Rat} {mu:Rat} {L M:Nat} (h:RowC xs l L) (hL:1<=L) (hL2:L<=100) (hm:RatA (ratV sm nm dm) mu M) (hM:1<=M) (hM2:M<=100) (hl:l.length<=12) (hY:Y<=256:=by omega) :
  Go.Ev.Fn CX 103 [testV 2 (.sl l.length xs) (.sl Y ys) (.sl tn tc) sm nm dm ss ns ds k n] (resV (stuR l mu)):=by
 have s1:=test_student h hm hL hL2 hM hM2 hl;clear h hm;refine fni Tryz.f103 ?_;unfold Tryz.f103;repeat (first|simp only[go_sem]|simp (disch:=first|exact omg|fail) only[AX]|refine wki ?_|refine vfa ?_)
theorem raw_paired {l m:List Rat} (h:RowC xs l 1) (h2:RowC ys m 1) (hl:l.length<=12) (hm:m.length<=12) :
  Go.Ev.Fn CX 103 [testV 3 (.sl l.length xs) (.sl m.length ys) (.sl tn tc) sm nm dm ss ns ds k n] (resV (if l.length≠m.length then (0,[],1) else stuR (List.zipWith (fun a b=>a-b) l m) 0)):=by
 have s1:=test_paired h h2 hl hm;generalize (if l.length≠m.length then ((0:Rat),([]:List Int),(1:Int)) else stuR (List.zipWith (fun a b=>a-b) l m) 0)=r at *
 clear h h2;refine fni Tryz.f103 ?_;unfold Tryz.f103;repeat (first|simp only[go_sem]|simp (disch:=first|exact omg|fail) only[AX]|refine wki ?_|refine vfa ?_)
theorem raw_pooled {l m:List Rat} (h:RowC xs l 1) (h2:RowC ys m 1) (hl:l.length<=12) (hm:m.length<=12) :
  Go.Ev.Fn CX 103 [testV 4 (.sl l.length xs) (.sl m.length ys) (.sl tn tc) sm nm dm ss ns ds k n] (resV (poolR l m)):=by
 have s1:=test_pooled h h2 hl hm;clear h h2;refine fni Tryz.f103 ?_;unfold Tryz.f103;repeat (first|simp only[go_sem]|simp (disch:=first|exact omg|fail) only[AX]|refine wki ?_|refine vfa ?_)
theorem raw_fisher {l m:List Rat} (h:RowC xs l 1) (h2:RowC ys m 1) (hl:l.length<=12) (hm:m.length<=12) :
  Go.Ev.Fn CX 103 [testV 5 (.sl l.length xs) (.sl m.length ys) (.sl tn tc) sm nm dm ss ns ds k n] (resV (fisR l m)):=by
 have s1:=test_fisher h h2 hl hm;clear h h2;refine fni Tryz.f103 ?_;unfold Tryz.f103;repeat (first|simp only[go_sem]|simp (disch:=first|exact omg|fail) only[AX]|refine wki ?_|refine vfa ?_)
theorem test_Statistic {r:Res} (h:Go.Ev.Fn CX 103 [testV kind (.sl X xs) (.sl Y ys) (.sl tn tc) sm nm dm ss ns ds k n] (resV r)) (hz:szR r.1 1000000) (hd:r.2.1.length<=1000) :
  Go.Ev.Fn CX 48 [testV kind (.sl X xs) (.sl Y ys) (.sl tn tc) sm nm dm ss ns ds k n] (resV (statR kind r)):=by
 obtain⟨q,dg,e⟩:=r;unfold statR;have r0:=rat_Int 0;have r1:=rat_Int 128;have hc:=test_isChi kind;have h2:=rat_Cmp (RatA_rv hz) (RatA_rv (int_szR (n:=128)));have e2:decide (cmpR q ((128:Int):Rat)>0)=decide (128<q):=cmpR_gt;have hat:=fun {i:Nat} (h:i<dg.length)=>ints_at dg h
 have hln:(dg.map fun i=>SV.int .i64 i).length=dg.length:=xd _;simp only at h hz hd ⊢;by_cases he:e=0
 ·subst he;rw[if_neg (by simp)];have h':Go.Ev.Fn CX 103 [testV kind (.sl X xs) (.sl Y ys) (.sl tn tc) sm nm dm ss ns ds k n] (.tup [rv q,.sl dg.length (dg.map fun i=>SV.int .i64 i),.int .i64 0]):=h;generalize hcs:(dg.map fun i=>SV.int .i64 i)=cs at *
  clear h hz;by_cases hany:dg.any (fun d=>decide (256<d))=true
  ·rw[if_pos hany];refine fni Tryz.f48 ?_;unfold Tryz.f48;repeat (first|simp only[go_sem]|simp (disch:=first|exact omg|fail) only[AX]|refine wki ?_|refine vpd 10 [] ?_|refine vfa ?_)
   refine vp_loop_inv (fun s=>s.tmp 2 = .ptr 2 0 0/\s.obj 2 0=some [.bool false,.sl 0 [],.sl 0 []]/\s.tmp 20 = .sv (.sl dg.length cs)/\s.tmp 21 = .sv (.int .i64 (dg.length:Int)) /\
     ∃i:Nat,s.tmp 22 = .sv (.int .i64 (i:Int))/\i<=dg.length/\(dg.take i).any (fun d=>decide (256<d))=false)
    (fun s=>match s.tmp 22 with | .sv (.int _ i)=>dg.length-i.toNat|_=>0) ⟨rfl,rfl,rfl,rfl,0,rfl,by omega,rfl⟩ ?_
   rintro s2 ⟨i2,iO,i20,i21,i,i22,hi,hb⟩
   by_cases hend:i=dg.length
   ·subst hend;rw[yV,hany]at hb;cases hb
   ·have g1:=hat (i:=i) (by omega);have hor:=any_take (fun d=>decide (256<d)) dg (0:Int) (i:=i);rw[hb,zE]at hor;generalize dg.getD i 0=d at *
    clear hat hany;by_cases hdd:256<d
    ·clear hor;repeat (first|simp only[go_sem,i2,iO,i20,i21,i22,g1,hln]|simp (disch:=first|exact omg|fail) only[AX,i2,iO,i20,i21,i22,g1,hln]|refine wki ?_|refine vpd 10 [] ?_|refine vfa ?_)
     rfl
    ·rw[decide_eq_false hdd]at hor;repeat (first|simp only[go_sem,i2,iO,i20,i21,i22,g1,hln]|simp (disch:=first|exact omg|fail) only[AX,i2,iO,i20,i21,i22,g1,hln]|refine wki ?_|refine vpd 10 [] ?_)
     exact⟨⟨i+1,rfl,by omega,hor⟩,by omega⟩
  ·rw[if_neg hany];have hall : ∀i,i<dg.length->dg.getD i 0<=256:=by
    intro i hi;have:=fun h=>hany (any_of_getD (fun d=>decide (256<d)) dg (0:Int) hi h)
    have h3 : ¬256<dg.getD i 0:=fun h=>this (decide_eq_true h)
    omega
   clear hany;refine fni Tryz.f48 ?_;unfold Tryz.f48;repeat (first|simp only[go_sem]|simp (disch:=first|exact omg|fail) only[AX]|refine wki ?_|refine vpd 10 [] ?_|refine vfa ?_)
   refine vp_loop_inv (fun s=>s.tmp 1 = .ptr 1 0 0/\s.obj 1 0=some [.int .i64 kind,.sl X xs,.sl Y ys,.sl tn tc,.bool sm,natV nm,natV dm,.bool ss,natV ns,natV ds,.int .i64 k,.int .i64 n]/\s.tmp 2 = .ptr 2 0 0/\s.obj 2 0=some [.bool false,.sl 0 [],.sl 0 []]/\s.tmp 5 = .ptr 5 0 0/\s.obj 5 0=some (rvC q)/\s.tmp 6 = .sv (.sl dg.length cs)/\s.tmp 20 = .sv (.sl dg.length cs)/\s.tmp 21 = .sv (.int .i64 (dg.length:Int)) /\
     ∃i:Nat,s.tmp 22 = .sv (.int .i64 (i:Int))/\i<=dg.length)
    (fun s=>match s.tmp 22 with | .sv (.int _ i)=>dg.length-i.toNat|_=>0) ⟨rfl,rfl,rfl,rfl,rfl,rfl,rfl,rfl,rfl,0,rfl,by omega⟩ ?_
   rintro s2 ⟨i1,oA,i2,iO,i5,oB,i6,i20,i21,i,i22,hi⟩
   by_cases hend:i=dg.length
   ·subst hend;clear hall hat;by_cases hk:kind=1\/kind=6\/kind=7
    ·rw[decide_eq_true hk]at hc;by_cases hq:128<q
     ·rw[if_pos ⟨hk,hq⟩];rw[decide_eq_true hq]at e2;clear hk hq;repeat (first|simp only[go_sem,i1,oA,i2,iO,i5,oB,i6,i20,i21,i22,rvC,e2]|simp (disch:=first|exact omg|fail) only[AX,i1,oA,i2,iO,i5,oB,i6,i20,i21,i22,rvC,e2]|refine wki ?_|refine vpd 10 [] ?_|refine vfa ?_)
      rfl
     ·rw[if_neg (fun h=>hq h.2)];rw[decide_eq_false hq]at e2;clear hk hq;repeat (first|simp only[go_sem,i1,oA,i2,iO,i5,oB,i6,i20,i21,i22,rvC,e2]|simp (disch:=first|exact omg|fail) only[AX,i1,oA,i2,iO,i5,oB,i6,i20,i21,i22,rvC,e2]|refine wki ?_|refine vpd 10 [] ?_|refine vfa ?_)
      rw[hcs]
    ·rw[if_neg (fun h=>hk h.1)];rw[decide_eq_false hk]at hc;clear hk;repeat (first|simp only[go_sem,i1,oA,i2,iO,i5,oB,i6,i20,i21,i22,rvC]|simp (disch:=first|exact omg|fail) only[AX,i1,oA,i2,iO,i5,oB,i6,i20,i21,i22,rvC]|refine wki ?_|refine vpd 10 [] ?_|refine vfa ?_)
     rw[hcs]
   ·have g1:=hat (i:=i) (by omega);have g2:=hall i (by omega);generalize dg.getD i 0=d at *
    clear hat hall;repeat (first|simp only[go_sem,i1,oA,i2,iO,i5,oB,i6,i20,i21,i22,g1,hln]|simp (disch:=first|exact omg|fail) only[AX,i1,oA,i2,iO,i5,oB,i6,i20,i21,i22,g1,hln]|refine wki ?_|refine vpd 10 [] ?_)
    exact⟨⟨i+1,rfl,by omega⟩,by omega⟩
 ·rw[if_pos he];have h':Go.Ev.Fn CX 103 [testV kind (.sl X xs) (.sl Y ys) (.sl tn tc) sm nm dm ss ns ds k n] (.tup [rv q,.sl dg.length (dg.map fun i=>SV.int .i64 i),.int .i64 e]):=h;clear h hz;refine fni Tryz.f48 ?_;unfold Tryz.f48;repeat (first|simp only[go_sem]|simp (disch:=first|exact omg|fail) only[AX]|refine wki ?_|refine vpd 10 [] ?_|refine vfa ?_)
  rfl
end
end Go.Proofs.YtfknkoeagjonbaaGreat
namespace Go.Proofs.YtfknkoeagjonbaaGreat
open Go.Ev
theorem sz_stu {l:List Rat} {mu:Rat} (h : ∀x∈l,szR x 10) (hm:szR mu 10) (hl:l.length<=12):szR (stuR l mu).1 1000000:=by
 unfold stuR;by_cases c1:l.length<2
 ·rw[if_pos c1];exact szR_zero
 rw[if_neg c1];by_cases c2:varR l=0
 ·rw[if_pos c2];exact szR_zero
 rw[if_neg c2];have zd:=szR_sub (sz_mean (by omega) h hl) hm;exact szR_mono (szR_div (szR_mul (int_szR (n:=(l.length:Int))) (szR_mul zd zd)) (sz_var (by omega) h hl))
theorem sz_pool {l m:List Rat} (h : ∀x∈l,szR x 10) (h2 : ∀x∈m,szR x 10) (hl:l.length<=12) (hm:m.length<=12):szR (poolR l m).1 1000000:=by
 unfold poolR;split
 ·exact szR_zero
 split
 ·exact szR_zero
 have zd:=szR_sub (sz_mean (by omega) h hl) (sz_mean (by omega) h2 hm);have hlm:=xJ hl hm;have elm:(l.length:Int)*(m.length:Int)=((l.length*m.length:Nat):Int):=(xw _ _).symm;have zv:=szR_div (M:=2) (szR_add (sz_sq (by omega) h hl) (sz_sq (by omega) h2 hm)) (int_szR (n:=(l.length:Int)+(m.length:Int)-2));have zw:=szR_div (M:=2) (int_szR (n:=(l.length:Int)+(m.length:Int))) (int_szR (n:=(l.length:Int)*(m.length:Int)) (by rw[elm];omega));exact szR_mono (szR_div (szR_mul zd zd) (szR_mul zv zw))
theorem sz_fis {l m:List Rat} (h : ∀x∈l,szR x 10) (h2 : ∀x∈m,szR x 10) (hl:l.length<=12) (hm:m.length<=12):szR (fisR l m).1 1000000:=by
 unfold fisR;split
 ·exact szR_zero
 split
 ·exact szR_zero
 exact szR_mono (szR_div (sz_var (by omega) h hl) (sz_var (by omega) h2 hm))
theorem statR_stu {kind:Int} {l:List Rat} {mu:Rat} (hl:l.length<=12) (hk:kind=2\/kind=3):statR kind (stuR l mu)=stuR l mu:=by
 unfold stuR;by_cases c1:l.length<2
 ·rw[if_pos c1];rfl
 rw[if_neg c1];by_cases c2:varR l=0
 ·rw[if_pos c2];rfl
 rw[if_neg c2];unfold statR;simp only;rw[if_neg (by simp),if_neg (by simp;omega),if_neg (fun h=>by omega)]
theorem deg_stu {l:List Rat} {mu:Rat}:(stuR l mu).2.1.length<=1000:=by
 unfold stuR;split
 ·simp
 split<;>simp
theorem deg_pool {l m:List Rat}:(poolR l m).2.1.length<=1000:=by
 unfold poolR;split
 ·simp
 split<;>simp
theorem deg_fis {l m:List Rat}:(fisR l m).2.1.length<=1000:=by
 unfold fisR;split
 ·simp
 split<;>simp
theorem stat_T {xs:List SV} {l:List Rat} {M:Nat} {sm:Bool} {nm dm:List Nat} {mu:Rat} (h:RowC xs l M) (hM:1<=M) (hM2:M<=10) (hm:RatA (ratV sm nm dm) mu 10) (hl:l.length<=12) :
  Go.Ev.Fn CX 48 [testV 2 (.sl l.length xs) (.sl 0 []) (.sl 0 []) sm nm dm false [] [] 0 0] (resV (stuR l mu)):=by
 have h1:=raw_T (Y:=0) (ys:=[]) (tn:=0) (tc:=[]) (ss:=false) (ns:=[]) (ds:=[]) (k:=0) (n:=0) h hM (by omega) hm (by omega) (by omega) hl;have h2:=test_Statistic h1 (sz_stu (fun x hx=>szR_mono (row_sz hM h x hx) hM2) (szR_of hm) hl) deg_stu;rw[statR_stu hl (.inl rfl)]at h2;exact h2
theorem stu_known:stuR [((1:Int):Rat),((2:Int):Rat),((3:Int):Rat)] 0=(((12:Int):Rat),[2],0):=by decide +kernel
theorem law19_known:Go.Ev.Fn CX 19 [] (.bool true):=by
 have i1:=ref2_Int 1;have i2:=ref2_Int 2;have i3:=ref2_Int 3;have i12:=ref2_Int 12;have hr:RowC (rvsC [((1:Int):Rat),((2:Int):Rat),((3:Int):Rat)]) [((1:Int):Rat),((2:Int):Rat),((3:Int):Rat)] 2:=rvsC_row _ (by
  intro x hx;simp only[wq,List.not_mem_nil,or_false]at hx;rcases hx with rfl|rfl|rfl<;>exact int_szR)
 have s1:=stat_T (M:=2) (sm:=false) (nm:=[]) (dm:=[]) (mu:=0) hr (by omega) (by omega) ⟨_,_,_,rfl,okL_nil,okL_nil,by simp,by simp,rfl⟩ (by simp);rw[stu_known]at s1;have n1:=law19_numbers [2] [2] (by simp) (by simp);rw[decide_eq_true rfl]at n1;have e1:=ref2_Same (RatA_rv (int_szR (n:=12))) (RatA_rv (int_szR (n:=12)));rw[decide_eq_true rfl]at e1;clear hr;refine fni Tryz.f19 ?_;unfold Tryz.f19;repeat (first|simp only[go_sem]|simp (disch:=first|exact omg|fail) only[AX]|refine wki ?_|refine vpd 2 [2,18] ?_|refine vfa ?_)
end Go.Proofs.YtfknkoeagjonbaaGreat
namespace Go.Proofs.YtfknkoeagjonbaaGreat
open Go.Ev
theorem sq_splitH (m:Rat) : ∀l:List Rat,sumR ((l.map fun x=>x-m).map fun x=>x*x)=sumR (l.map fun x=>x*x)-2*m*sumR l+lenR l*(m*m)
 | []=>by
  show sumR []=sumR []-2*m*sumR []+0*(m*m)
  rw[sumR_nil];grind
 |x::l=>by
  have ih:=sq_splitH m l;rw[zD,zD,zD,sumR_cons,sumR_cons,sumR_cons,lenR_cons,ih];grind
theorem sqR_alt {l:List Rat} (h:l≠[]):sqR l=sumR (l.map fun x=>x*x)-lenR l*(meanR l*meanR l):=by
 unfold sqR offR;rw[sq_splitH];have e:=div_cancel' (x:=sumR l) (lenR_ne h);have:meanR l*lenR l=sumR l:=e;rw[<- this];generalize meanR l=m at *
 grind
theorem sqs_nn : ∀l:List Rat,0<=sumR (l.map fun x=>x*x)
 | []=>by rw[wg,sumR_nil];exact xi
 |x::l=>by
  rw[zD,sumR_cons];have a:=sqs_nn l;have b:=mul_self_nn x;grind
section
variable {l:List Rat} {mu nu:Rat}
abbrev stS (l:List Rat) (mu:Rat):Rat:=lenR l*((meanR l-mu)*(meanR l-mu))/varR l
theorem var_nn (h2:2<=l.length:=by omega):0<=varR l:=by
 unfold varR sqR;have a:=sqs_nn (offR l);have b:(0:Rat)<(((l.length:Int)-1:Int):Rat):=Rat.intCast_pos.2 (by omega);rw[xv];exact xL a (inv_nn b)
theorem sts_nn (h2:2<=l.length:=by omega):0<=stS l mu:=by
 unfold stS;rw[xv];have a:(0:Rat)<=lenR l:=xX (Rat.intCast_pos.2 (by omega));refine xL (xL a (mul_self_nn _)) ?_;have v:=var_nn h2;by_cases e:varR l=0
 ·rw[e];decide +kernel
 ·exact inv_nn (by grind)
def stY (n:Int) (s:Rat):Rat:=(n:Rat)/((n:Rat)+s)
theorem stY_sz {n:Int} {s:Rat} {L:Nat} (hn:1<=n/\n<=256) (hs:szR s L) (hL:1<=L:=by omega):szR (stY n s) (L+5):=by
 have i:=int_szR (n:=n);exact szR_mono (szR_div i (szR_add i hs))
theorem stY_at {n:Int} {s:Rat} (hn:1<=n) (hs:0<=s):0<stY n s/\stY n s*((n:Rat)+s)=(n:Rat)/\(s=0->stY n s=1)/\(0<s->stY n s<1):=by
 have p:(0:Rat)<(n:Rat):=Rat.intCast_pos.2 (by omega);have q:(0:Rat)<(n:Rat)+s:=by grind
 have e:stY n s*((n:Rat)+s)=(n:Rat):=yD (by grind);have i:=ya p (wi.2 q);rw[<- xv]at i;have i':0<stY n s:=i;generalize stY n s=y at *
 refine⟨i',e,fun h => ?_,fun h => ?_⟩
 ·subst h;rw[Rat.add_zero]at e;have:(n:Rat)*(n:Rat)⁻¹=1:=Rat.mul_inv_cancel _ (by grind);have t:y*(n:Rat)*(n:Rat)⁻¹=(n:Rat)*(n:Rat)⁻¹:=by rw[e]
  rw[wP,this]at t;grind
 ·have m:=ya i' h;rcases zV (a:=1) (b:=y) with g|g
  ·have:=xA g (xX p);exact absurd e (by grind)
  ·by_cases h1:y=1
   ·subst h1;exact absurd e (by grind)
   ·grind
end
section
variable {X:Nat} {xs:List SV} {sm sn:Bool} {nm dm nn dn:List Nat} {s l h mu nu:Rat}
abbrev ballZ:SV := .agg [.bool false,.sl 0 [],.sl 0 [],.bool false,.sl 0 [],.sl 0 []]
end
end Go.Proofs.YtfknkoeagjonbaaGreat
namespace Go.Proofs.YtfknkoeagjonbaaGreat
open Go.Ev
def TabC:List SV->List (List Rat)->Nat->Prop
 |cs,[],_=>cs=[]
 |cs,r::t,L => ∃rc rest,cs = .sl r.length rc::rest/\RowC rc r L/\TabC rest t L
theorem tab_len {L:Nat} : ∀ {t:List (List Rat)} {cs:List SV},TabC cs t L->cs.length=t.length
 | [],_,h=>by cases h;rfl
 |r::t,cs,h=>by
  obtain⟨rc,rest,rfl,-,h2⟩:=h;rw[yE,tab_len h2,yE]
theorem tabC_at {L:Nat} : ∀ {t:List (List Rat)} {cs:List SV} {i:Nat},TabC cs t L->i<t.length -> ∃rc,(cs.drop i).head?=some (.sl (t.getD i []).length rc)/\RowC rc (t.getD i []) L
 | [],_,_,_,hi=>by simp at hi
 |r::t,cs,0,h,_=>by
  obtain⟨rc,rest,rfl,h1,h2⟩:=h;exact⟨rc,rfl,h1⟩
 |r::t,cs,i+1,h,hi=>by
  obtain⟨rc,rest,rfl,h1,h2⟩:=h;exact tabC_at (i:=i) h2 (by simpa using hi)
def tabsC (t:List (List Rat)):List SV:=t.map fun r=>SV.sl r.length (rvsC r)
theorem tabsC_len (t:List (List Rat)):(tabsC t).length=t.length:=xd _
theorem tabsC_snoc (t:List (List Rat)) (r:List Rat):tabsC (t++[r])=tabsC t++[.sl r.length (rvsC r)]:=by
 unfold tabsC;rw[wl];rfl
theorem row_set' {L:Nat} : ∀ {l:List Rat} {cs:List SV} {k:Nat} {s:Bool} {n d:List Nat} {q:Rat},RowC cs l L->RatA (ratV s n d) q L->k<l.length->RowC (splice cs (k*3) [.bool s,natV n,natV d]) (l.set k q) L
 | [],_,_,_,_,_,_,_,_,hk=>by simp at hk
 |p::l,cs,0,s,n,d,q,h,h1,_=>by
  obtain⟨s',n',d',rest,rfl,h2,h3⟩:=h;exact⟨s,n,d,rest,rfl,h1,h3⟩
 |p::l,cs,k+1,s,n,d,q,h,h1,hk=>by
  obtain⟨s',n',d',rest,rfl,h2,h3⟩:=h;refine⟨s',n',d',splice rest (k*3) [.bool s,natV n,natV d],?_,h2,row_set' h3 h1 (by simpa using hk)⟩;unfold splice;rw[show (k+1)*3=k*3+3 by omega];show _++_++List.drop (k*3+3+3) _=_;rfl
theorem row_zero {L:Nat} (hL:1<=L) : ∀n,RowC ((List.replicate n [SV.bool false,.sl 0 [],.sl 0 []]).flatten) (List.replicate n 0) L
 |0=>rfl
 |n+1=>⟨false,[],[],_,rfl,⟨false,[],[],rfl,okL_nil,okL_nil,by simp,by simp,rfl⟩,row_zero hL n⟩
def colS (t:List (List Rat)) (i k:Nat):Rat:=sumR ((t.take i).map fun r=>r.getD k 0)
theorem colS_zero (t:List (List Rat)) (k:Nat):colS t 0 k=0:=rfl
theorem colS_step (t:List (List Rat)) {i:Nat} (k:Nat) (h:i<t.length:=by omega):colS t (i+1) k=colS t i k+(t.getD i []).getD k 0:=by
 unfold colS;have e:t.take (i+1)=t.take i++[t.getD i []]:=by
  rw[wC,xC,xD h];rfl
 rw[e,wl];exact sumR_snoc _ _
def colsR (t:List (List Rat)) (w i k:Nat):List Rat:=(List.range w).map fun j=>colS t (if j<k then i+1 else i) j
def rowsS (t:List (List Rat)) (i:Nat):List Rat:=(List.range t.length).map fun j=>if j<i then sumR (t.getD j []) else 0
theorem colsR_len (t:List (List Rat)) (w i k:Nat):(colsR t w i k).length=w:=by simp[colsR]
theorem rowsS_len (t:List (List Rat)) (i:Nat):(rowsS t i).length=t.length:=by simp[rowsS]
theorem range_set {α:Type} (f g:Nat->α) (n k:Nat) (v:α) (h : ∀j,j<n->g j=if j=k then v else f j):((List.range n).map f).set k v=(List.range n).map g:=by
 refine List.ext_getElem (by simp) fun j h1 h2 => ?_
 have hj:j<n:=by simpa using h2
 rw[List.getElem_set,we,we,List.getElem_range,h j hj];by_cases e:k=j
 ·rw[if_pos e,if_pos e.symm]
 ·rw[if_neg e,if_neg (fun x=>e x.symm)]
theorem colsR_set (t:List (List Rat)) (w i k:Nat) (h:k<w:=by omega):(colsR t w i k).set k (colS t (i+1) k)=colsR t w i (k+1):=by
 refine range_set _ _ _ _ _ fun j hj => ?_
 by_cases e:j=k
 ·subst e;rw[if_pos (by omega),if_pos rfl]
 ·rw[if_neg e];by_cases h2:j<k
  ·rw[if_pos h2,if_pos (by omega)]
  ·rw[if_neg h2,if_neg (by omega)]
theorem rowsS_set (t:List (List Rat)) (i:Nat):(rowsS t i).set i (sumR (t.getD i []))=rowsS t (i+1):=by
 refine range_set _ _ _ _ _ fun j hj => ?_
 by_cases e:j=i
 ·subst e;rw[if_pos (by omega),if_pos rfl]
 ·rw[if_neg e];by_cases h2:j<i
  ·rw[if_pos h2,if_pos (by omega)]
  ·rw[if_neg h2,if_neg (by omega)]
theorem colsR_next (t:List (List Rat)) (w i:Nat):colsR t w i w=colsR t w (i+1) 0:=by
 refine List.map_congr_left fun j hj => ?_
 rw[if_pos (zW.1 hj),if_neg (by omega)]
theorem colsR_zero (t:List (List Rat)) (w:Nat):colsR t w 0 0=List.replicate w 0:=by
 unfold colsR;refine List.ext_getElem (by simp) fun j h1 h2 => ?_
 rw[we,List.getElem_replicate,if_neg (by omega)];rfl
theorem rowsS_zero (t:List (List Rat)):rowsS t 0=List.replicate t.length 0:=by
 unfold rowsS;refine List.ext_getElem (by simp) fun j h1 h2 => ?_
 rw[we,List.getElem_replicate,if_neg (by omega)]
theorem colsR_at (t:List (List Rat)) {w i k:Nat} (h:k<w:=by omega):(colsR t w i k).getD k 0=colS t i k:=by
 unfold colsR;rw[xC,yN,wO h];show colS t (if k<k then i+1 else i) k=_;rw[if_neg (by omega)]
def rowR (t:List (List Rat)):List Rat:=t.map sumR
def colR (t:List (List Rat)):List Rat:=(List.range (t.getD 0 []).length).map fun k=>colS t t.length k
theorem rowsS_all (t:List (List Rat)):rowsS t t.length=rowR t:=by
 unfold rowsS rowR;refine List.ext_getElem (by simp) fun j h1 h2 => ?_
 have hj:j<t.length:=by simpa using h2
 rw[we,we,List.getElem_range,if_pos hj,xC,xD hj];rfl
theorem colsR_all (t:List (List Rat)) {w:Nat} (hw:w=(t.getD 0 []).length):colsR t w t.length 0=colR t:=by
 subst hw;refine List.map_congr_left fun j _ => ?_
 rw[if_neg (by omega)]
def tabE (t:List (List Rat)):Int:=
 if t.length<2\/(t.getD 0 []).length<2 then 1 else
 if t.any (fun r=>decide (r.length≠(t.getD 0 []).length))=true then 1 else
 if t.any (fun r=>r.any fun x=>decide (x<0))=true then 4 else 0
def expR (t:List (List Rat)):List (List Rat)×Int:=
 if tabE t≠0 then ([],tabE t) else
 if (rowR t++colR t).any (fun x=>decide (x=0))=true then ([],5) else
 ((rowR t).map fun x=>(colR t).map fun y=>x*y/sumR (rowR t),0)
end Go.Proofs.YtfknkoeagjonbaaGreat
namespace Go.Proofs.YtfknkoeagjonbaaGreat
open Go.Ev
theorem ref19_zero:Go.Ev.Fn CX 57 [] (rv 0):=by
 have r0:=ref2_Int 0;rw[show ((0:Int):Rat)=0 from rfl]at r0;refine fni Tryz.f57 ?_;unfold Tryz.f57;repeat (first|simp only[go_sem]|simp (disch:=first|exact omg|fail) only[AX]|refine wki ?_|refine vfa ?_)
theorem ref19_by {v w:SV} {q r:Rat} {L M:Nat} (hv:RatA v q L) (hw:RatA w r M) (hL:1<=L:=by omega) (hM:1<=M:=by omega) (h:L+M<=8388608:=by omega):Go.Ev.Fn CX 60 [v,w] (rv (q/r)):=by
 have d:=ref2_Div hv hw hL hM;generalize decide (r≠0)=b at *
 obtain⟨s,n,d',rfl,-⟩:=hv;obtain⟨s',n',d'',rfl,-⟩:=hw;refine fni Tryz.f60 ?_;unfold Tryz.f60;repeat (first|simp only[go_sem]|simp (disch:=first|exact omg|fail) only[AX]|refine wki ?_|refine vfa ?_)
theorem test_isBelow {v:SV} {q:Rat} {L:Nat} (hv:RatA v q L) (hL:1<=L:=by omega) (h:L<=1000000:=by omega):Go.Ev.Fn CX 227 [v] (.bool (decide (q<0))):=by
 have r0:=rat_Int 0;have c:=rat_Cmp hv (RatA_rv (int_szR (n:=0))) hL;have e:decide (cmpR q ((0:Int):Rat)<0)=decide (q<0):=cmpR_lt;obtain⟨s,n,d,rfl,-⟩:=hv;refine fni Tryz.f227 ?_;unfold Tryz.f227;repeat (first|simp only[go_sem,e]|simp (disch:=first|exact omg|fail) only[AX,e]|refine wki ?_|refine vpd 1 [] ?_|refine vfa ?_)
theorem quo_256 {w:Nat} (h1:2<=w) (h2:w<=4) : ∃m:Nat,Int.tdiv 256 (w:Int)=(m:Int)/\64<=m/\m<=256:=by
 rcases (by omega:w=2\/w=3\/w=4) with rfl|rfl|rfl
 ·exact⟨128,rfl,by omega,by omega⟩
 ·exact⟨85,rfl,by omega,by omega⟩
 ·exact⟨64,rfl,by omega,by omega⟩
section
variable {cs:List SV} {T:List (List Rat)}
theorem tab_ok (hl : ∀r∈T,r.length<=4) : ∀i,(T.getD i []).length<=4:=by
 intro i;rw[xC];by_cases h:i<T.length
 ·rw[xD h];exact hl _ (yQ h)
 ·rw[xh (by omega)];simp
theorem test_isTable (h:TabC cs T 1) (hn:T.length<=4) (hl : ∀r∈T,r.length<=4):Go.Ev.Fn CX 283 [.sl T.length cs] (.int .i64 (tabE T)):=by
 have hlen:=tab_len h;have hat:=fun {i:Nat} (hi:i<T.length)=>tabC_at (i:=i) h hi
 have h4:=tab_ok hl;unfold tabE;by_cases c1:T.length<2
 ·rw[if_pos (.inl c1)];clear hat h4;refine fni Tryz.f283 ?_;unfold Tryz.f283;repeat (first|simp only[go_sem]|simp (disch:=first|exact omg|fail) only[AX]|refine wki ?_)
 obtain⟨rc0,a0,-⟩:=hat (i:=0) (by omega);have a0':cs.head?=some (.sl (T.getD 0 []).length rc0):=a0;have h40:=h4 0;generalize hw:(T.getD 0 []).length=w at *
 by_cases c2:w<2
 ·rw[if_pos (.inr c2)];clear hat h4;refine fni Tryz.f283 ?_;unfold Tryz.f283;repeat (first|simp only[go_sem,a0,a0',hlen]|simp (disch:=first|exact omg|fail) only[AX,a0,a0',hlen]|refine wki ?_)
 rw[if_neg (by omega)];by_cases c3:T.any (fun r=>decide (r.length≠w))=true
 ·rw[if_pos c3];refine fni Tryz.f283 ?_;unfold Tryz.f283;repeat (first|simp only[go_sem,a0,a0',hlen]|simp (disch:=first|exact omg|fail) only[AX,a0,a0',hlen]|refine wki ?_)
  refine vp_loop_inv (fun s=>s.tmp 0 = .sv (.sl T.length cs)/\s.tmp 19 = .sv (.sl T.length cs)/\s.tmp 20 = .sv (.int .i64 (T.length:Int)) /\
    ∃i:Nat,s.tmp 21 = .sv (.int .i64 (i:Int))/\i<=T.length/\(T.take i).any (fun r=>decide (r.length≠w))=false)
   (fun s=>match s.tmp 21 with | .sv (.int _ i)=>T.length-i.toNat|_=>0) ⟨rfl,rfl,rfl,0,rfl,by omega,rfl⟩ ?_
  rintro s2 ⟨i0,i19,i20,i,i21,hi,hb⟩
  by_cases hend:i=T.length
  ·subst hend;rw[yV,c3]at hb;cases hb
  ·obtain⟨rc,a1,-⟩:=hat (i:=i) (by omega);have h4i:=h4 i;have hor:=any_take (fun r:List Rat=>decide (r.length≠w)) T [] (i:=i);rw[hb,zE]at hor;generalize (T.getD i []).length=u at *
   clear hat h4 c3;by_cases hu:u=w
   ·subst hu;rw[decide_eq_false (not_not_intro rfl)]at hor;repeat (first|simp only[go_sem,i0,i19,i20,i21,a1,a0,a0',hlen]|simp (disch:=first|exact omg|fail) only[AX,i0,i19,i20,i21,a1,a0,a0',hlen]|refine wki ?_)
    exact⟨⟨i+1,rfl,by omega,hor⟩,by omega⟩
   ·clear hor;repeat (first|simp only[go_sem,i0,i19,i20,i21,a1,a0,a0',hlen]|simp (disch:=first|exact omg|fail) only[AX,i0,i19,i20,i21,a1,a0,a0',hlen]|refine wki ?_)
 rw[if_neg c3];have c3':=Bool.eq_false_iff.2 c3;have hsame : ∀i,i<T.length->(T.getD i []).length=w:=by
  intro i hi;have:=fun e=>c3 (any_of_getD (fun r:List Rat=>decide (r.length≠w)) T [] hi e)
  by_cases e:(T.getD i []).length=w
  ·exact e
  ·exact absurd (decide_eq_true e) this
 obtain⟨m,q1,q2,q3⟩:=quo_256 (w:=w) (by omega) h40;have hw0 : ¬((w:Int)=0):=by omega
 clear h4 c3;have key : ∀ (R:SV) (st:St),True:=fun _ _=>trivial
 clear key;by_cases c4:T.any (fun r=>r.any fun x=>decide (x<0))=true
 ·rw[if_pos c4];refine fni Tryz.f283 ?_;unfold Tryz.f283;repeat (first|simp only[go_sem,a0,a0',hlen]|simp (disch:=first|exact omg|fail) only[AX,a0,a0',hlen]|refine wki ?_)
  refine vp_loop_inv (fun s=>s.tmp 0 = .sv (.sl T.length cs)/\s.tmp 19 = .sv (.sl T.length cs)/\s.tmp 20 = .sv (.int .i64 (T.length:Int)) /\
    ∃i:Nat,s.tmp 21 = .sv (.int .i64 (i:Int))/\i<=T.length)
   (fun s=>match s.tmp 21 with | .sv (.int _ i)=>T.length-i.toNat|_=>0) ⟨rfl,rfl,rfl,0,rfl,by omega⟩ ?_
  rintro s2 ⟨i0,i19,i20,i,i21,hi⟩
  by_cases hend:i=T.length
  ·subst hend;repeat (first|simp only[go_sem,i0,i19,i20,i21,a0,a0',hlen,q1,hw0]|simp (disch:=first|exact omg|fail) only[AX,i0,i19,i20,i21,a0,a0',hlen,q1,hw0]|refine wki ?_)
   refine vp_loop_inv (fun s=>s.tmp 41 = .sv (.sl T.length cs)/\s.tmp 42 = .sv (.int .i64 (T.length:Int)) /\
     ∃i:Nat,s.tmp 43 = .sv (.int .i64 (i:Int))/\i<=T.length/\(T.take i).any (fun r=>r.any fun x=>decide (x<0))=false)
    (fun s=>match s.tmp 43 with | .sv (.int _ i)=>T.length-i.toNat|_=>0) ⟨rfl,rfl,0,rfl,by omega,rfl⟩ ?_
   rintro s3 ⟨i41,i42,i,i43,hi,hb⟩
   by_cases hend:i=T.length
   ·subst hend;rw[yV,c4]at hb;cases hb
   ·obtain⟨rc,a1,hr⟩:=hat (i:=i) (by omega);have hwi:=hsame i (by omega);have hor:=any_take (fun r:List Rat=>r.any fun x=>decide (x<0)) T [] (i:=i);rw[hb,zE]at hor;generalize T.getD i []=r at *
    have hrl:=row_len hr;clear hat c4 hsame;repeat (first|simp only[go_sem,i41,i42,i43,a1,hlen,hwi]|simp (disch:=first|exact omg|fail) only[AX,i41,i42,i43,a1,hlen,hwi]|refine wki ?_)
    refine vp_loop_inv (fun s=>s.tmp 41 = .sv (.sl T.length cs)/\s.tmp 42 = .sv (.int .i64 (T.length:Int))/\s.tmp 43 = .sv (.int .i64 (i:Int))/\s.tmp 47 = .sv (.sl w rc)/\s.tmp 48 = .sv (.int .i64 (w:Int)) /\
      ∃k:Nat,s.tmp 49 = .sv (.int .i64 (k:Int))/\k<=w/\(r.take k).any (fun x=>decide (x<0))=false)
     (fun s=>match s.tmp 49 with | .sv (.int _ i)=>w-i.toNat|_=>0) ⟨i41,i42,i43,rfl,rfl,0,rfl,by omega,rfl⟩ ?_
    rintro s4 ⟨j41,j42,j43,j47,j48,k,j49,hk,hkb⟩
    by_cases hkend:k=w
    ·subst hkend;rw[<- hwi,yV]at hkb;rw[hkb]at hor;repeat (first|simp only[go_sem,j41,j42,j43,j47,j48,j49]|simp (disch:=first|exact omg|fail) only[AX,j41,j42,j43,j47,j48,j49]|refine wki ?_)
     exact⟨⟨i+1,rfl,by omega,hor⟩,by omega⟩
    ·obtain⟨s,n,d,rest,g1,hA⟩:=row_at (i:=k) hr (by omega);have b1:=test_isBelow hA;have gor:=any_take (fun x:Rat=>decide (x<0)) r 0 (i:=k);rw[hkb,zE]at gor;generalize r.getD k 0=x at *
     clear hor hA;by_cases hx:x<0
     ·rw[decide_eq_true hx]at b1;clear gor;repeat (first|simp only[go_sem,j41,j42,j43,j47,j48,j49,g1,hrl,hwi]|simp (disch:=first|exact omg|fail) only[AX,j41,j42,j43,j47,j48,j49,g1,hrl,hwi]|refine wki ?_|refine vfa ?_)
     ·rw[decide_eq_false hx]at b1 gor;repeat (first|simp only[go_sem,j41,j42,j43,j47,j48,j49,g1,hrl,hwi]|simp (disch:=first|exact omg|fail) only[AX,j41,j42,j43,j47,j48,j49,g1,hrl,hwi]|refine wki ?_|refine vfa ?_)
      exact⟨⟨k+1,rfl,by omega,gor⟩,by omega⟩
  ·obtain⟨rc,a1,-⟩:=hat (i:=i) (by omega);have hwi:=hsame i (by omega);clear hat c4 hsame;repeat (first|simp only[go_sem,i0,i19,i20,i21,a1,a0,a0',hlen,hwi]|simp (disch:=first|exact omg|fail) only[AX,i0,i19,i20,i21,a1,a0,a0',hlen,hwi]|refine wki ?_)
   exact⟨⟨i+1,rfl,by omega⟩,by omega⟩
 ·rw[if_neg c4];have hneg : ∀i k,i<T.length->k<w -> ¬(T.getD i []).getD k 0<0:=by
   intro i k hi hk hx;refine c4 (any_of_getD _ T [] hi (any_of_getD (fun x:Rat=>decide (x<0)) _ 0 (i:=k) ?_ (decide_eq_true hx)));rw[hsame i hi];exact hk
  refine fni Tryz.f283 ?_;unfold Tryz.f283;repeat (first|simp only[go_sem,a0,a0',hlen]|simp (disch:=first|exact omg|fail) only[AX,a0,a0',hlen]|refine wki ?_)
  refine vp_loop_inv (fun s=>s.tmp 0 = .sv (.sl T.length cs)/\s.tmp 19 = .sv (.sl T.length cs)/\s.tmp 20 = .sv (.int .i64 (T.length:Int)) /\
    ∃i:Nat,s.tmp 21 = .sv (.int .i64 (i:Int))/\i<=T.length)
   (fun s=>match s.tmp 21 with | .sv (.int _ i)=>T.length-i.toNat|_=>0) ⟨rfl,rfl,rfl,0,rfl,by omega⟩ ?_
  rintro s2 ⟨i0,i19,i20,i,i21,hi⟩
  by_cases hend:i=T.length
  ·subst hend;repeat (first|simp only[go_sem,i0,i19,i20,i21,a0,a0',hlen,q1,hw0]|simp (disch:=first|exact omg|fail) only[AX,i0,i19,i20,i21,a0,a0',hlen,q1,hw0]|refine wki ?_)
   refine vp_loop_inv (fun s=>s.tmp 41 = .sv (.sl T.length cs)/\s.tmp 42 = .sv (.int .i64 (T.length:Int)) /\
     ∃i:Nat,s.tmp 43 = .sv (.int .i64 (i:Int))/\i<=T.length)
    (fun s=>match s.tmp 43 with | .sv (.int _ i)=>T.length-i.toNat|_=>0) ⟨rfl,rfl,0,rfl,by omega⟩ ?_
   rintro s3 ⟨i41,i42,i,i43,hi⟩
   by_cases hend:i=T.length
   ·subst hend;repeat (first|simp only[go_sem,i41,i42,i43]|simp (disch:=first|exact omg|fail) only[AX,i41,i42,i43]|refine wki ?_)
   ·obtain⟨rc,a1,hr⟩:=hat (i:=i) (by omega);have hwi:=hsame i (by omega);have hni:=fun k hk=>hneg i k (by omega) hk
    generalize T.getD i []=r at *
    have hrl:=row_len hr;clear hat c4 hsame hneg;repeat (first|simp only[go_sem,i41,i42,i43,a1,hlen,hwi]|simp (disch:=first|exact omg|fail) only[AX,i41,i42,i43,a1,hlen,hwi]|refine wki ?_)
    refine vp_loop_inv (fun s=>s.tmp 41 = .sv (.sl T.length cs)/\s.tmp 42 = .sv (.int .i64 (T.length:Int))/\s.tmp 43 = .sv (.int .i64 (i:Int))/\s.tmp 47 = .sv (.sl w rc)/\s.tmp 48 = .sv (.int .i64 (w:Int)) /\
      ∃k:Nat,s.tmp 49 = .sv (.int .i64 (k:Int))/\k<=w)
     (fun s=>match s.tmp 49 with | .sv (.int _ i)=>w-i.toNat|_=>0) ⟨i41,i42,i43,rfl,rfl,0,rfl,by omega⟩ ?_
    rintro s4 ⟨j41,j42,j43,j47,j48,k,j49,hk⟩
    by_cases hkend:k=w
    ·subst hkend;repeat (first|simp only[go_sem,j41,j42,j43,j47,j48,j49]|simp (disch:=first|exact omg|fail) only[AX,j41,j42,j43,j47,j48,j49]|refine wki ?_)
     exact⟨⟨i+1,rfl,by omega⟩,by omega⟩
    ·obtain⟨s,n,d,rest,g1,hA⟩:=row_at (i:=k) hr (by omega);have b1:=test_isBelow hA;have hx:=hni k (by omega);rw[decide_eq_false hx]at b1;clear hx hni hA;repeat (first|simp only[go_sem,j41,j42,j43,j47,j48,j49,g1,hrl,hwi]|simp (disch:=first|exact omg|fail) only[AX,j41,j42,j43,j47,j48,j49,g1,hrl,hwi]|refine wki ?_|refine vfa ?_)
     exact⟨⟨k+1,rfl,by omega⟩,by omega⟩
  ·obtain⟨rc,a1,-⟩:=hat (i:=i) (by omega);have hwi:=hsame i (by omega);clear hat c4 hsame hneg;repeat (first|simp only[go_sem,i0,i19,i20,i21,a1,a0,a0',hlen,hwi]|simp (disch:=first|exact omg|fail) only[AX,i0,i19,i20,i21,a1,a0,a0',hlen,hwi]|refine wki ?_)
   exact⟨⟨i+1,rfl,by omega⟩,by omega⟩
end
end Go.Proofs.YtfknkoeagjonbaaGreat
namespace Go.Proofs.YtfknkoeagjonbaaGreat
open Go.Ev
section
variable {cs:List SV} {T:List (List Rat)}
theorem ref19_rows (h:TabC cs T 1) (hn:T.length<=4) (hl : ∀r∈T,r.length<=4):Go.Ev.Fn CX 295 [.sl T.length cs] (.int .i64 (tabE T)):=by
 have hlen:=tab_len h;have hat:=fun {i:Nat} (hi:i<T.length)=>tabC_at (i:=i) h hi
 have h4:=tab_ok hl;unfold tabE;by_cases c1:T.length<2
 ·rw[if_pos (.inl c1)];clear hat h4;refine fni Tryz.f295 ?_;unfold Tryz.f295;repeat (first|simp only[go_sem]|simp (disch:=first|exact omg|fail) only[AX]|refine wki ?_|refine vpd 6 [] ?_|refine vpd 16 [] ?_)
 obtain⟨rc0,a0,-⟩:=hat (i:=0) (by omega);have a0':cs.head?=some (.sl (T.getD 0 []).length rc0):=a0;have h40:=h4 0;generalize hw:(T.getD 0 []).length=w at *
 by_cases c2:w<2
 ·rw[if_pos (.inr c2)];clear hat h4;refine fni Tryz.f295 ?_;unfold Tryz.f295;repeat (first|simp only[go_sem,a0,a0',hlen]|simp (disch:=first|exact omg|fail) only[AX,a0,a0',hlen]|refine wki ?_|refine vpd 6 [] ?_|refine vpd 16 [] ?_)
 rw[if_neg (by omega)];have hpm:T.length*w<=16:=xJ hn h40;have hmul:IntKind.i64.wrap ((T.length:Int)*(w:Int))=((T.length*w:Nat):Int):=by
  rw[show (T.length:Int)*(w:Int)=((T.length*w:Nat):Int) from(xw _ _).symm];exact wI64
 generalize hpr:T.length*w=pr at *
 clear hpr;have z0:=ref19_zero;by_cases c3:T.any (fun r=>decide (r.length≠w))=true
 ·rw[if_pos c3];refine fni Tryz.f295 ?_;unfold Tryz.f295;repeat (first|simp only[go_sem,a0,a0',hlen]|simp (disch:=first|exact omg|fail) only[AX,a0,a0',hlen]|refine wki ?_|refine vpd 6 [] ?_|refine vpd 16 [] ?_)
  refine vp_loop_inv (fun s=>s.tmp 0 = .sv (.sl T.length cs) /\
    ∃i:Nat,s.tmp 3 = .sv (.int .i64 (i:Int))/\i<=T.length/\(T.take i).any (fun r=>decide (r.length≠w))=false)
   (fun s=>match s.tmp 3 with | .sv (.int _ i)=>T.length-i.toNat|_=>0) ⟨rfl,0,rfl,by omega,rfl⟩ ?_
  rintro s2 ⟨i0,i,i21,hi,hb⟩
  by_cases hend:i=T.length
  ·subst hend;rw[yV,c3]at hb;cases hb
  ·obtain⟨rc,a1,-⟩:=hat (i:=i) (by omega);have h4i:=h4 i;have hor:=any_take (fun r:List Rat=>decide (r.length≠w)) T [] (i:=i);rw[hb,zE]at hor;generalize (T.getD i []).length=u at *
   clear hat h4 c3;by_cases hu:u=w
   ·subst hu;rw[decide_eq_false (not_not_intro rfl)]at hor;repeat (first|simp only[go_sem,i0,i21,a1,a0,a0',hlen]|simp (disch:=first|exact omg|fail) only[AX,i0,i21,a1,a0,a0',hlen]|refine wki ?_|refine vpd 6 [] ?_|refine vpd 16 [] ?_)
    exact⟨⟨i+1,rfl,by omega,hor⟩,by omega⟩
   ·clear hor;repeat (first|simp only[go_sem,i0,i21,a1,a0,a0',hlen]|simp (disch:=first|exact omg|fail) only[AX,i0,i21,a1,a0,a0',hlen]|refine wki ?_|refine vpd 6 [] ?_|refine vpd 16 [] ?_)
 rw[if_neg c3];have hsame : ∀i,i<T.length->(T.getD i []).length=w:=by
  intro i hi;have:=fun e=>c3 (any_of_getD (fun r:List Rat=>decide (r.length≠w)) T [] hi e)
  by_cases e:(T.getD i []).length=w
  ·exact e
  ·exact absurd (decide_eq_true e) this
 clear h4 c3;by_cases c4:T.any (fun r=>r.any fun x=>decide (x<0))=true
 ·rw[if_pos c4];refine fni Tryz.f295 ?_;unfold Tryz.f295;repeat (first|simp only[go_sem,a0,a0',hlen]|simp (disch:=first|exact omg|fail) only[AX,a0,a0',hlen]|refine wki ?_|refine vpd 6 [] ?_|refine vpd 16 [] ?_)
  refine vp_loop_inv (fun s=>s.tmp 0 = .sv (.sl T.length cs) /\
    ∃i:Nat,s.tmp 3 = .sv (.int .i64 (i:Int))/\i<=T.length)
   (fun s=>match s.tmp 3 with | .sv (.int _ i)=>T.length-i.toNat|_=>0) ⟨rfl,0,rfl,by omega⟩ ?_
  rintro s2 ⟨i0,i,i21,hi⟩
  by_cases hend:i=T.length
  ·subst hend;repeat (first|simp only[go_sem,i0,i21,a0,a0',hlen,hmul]|simp (disch:=first|exact omg|fail) only[AX,i0,i21,a0,a0',hlen,hmul]|refine wki ?_|refine vpd 6 [] ?_|refine vpd 16 [] ?_)
   refine vp_loop_inv (fun s=>s.tmp 0 = .sv (.sl T.length cs) /\
     ∃i:Nat,s.tmp 4 = .sv (.int .i64 (i:Int))/\i<=T.length/\(T.take i).any (fun r=>r.any fun x=>decide (x<0))=false)
    (fun s=>match s.tmp 4 with | .sv (.int _ i)=>T.length-i.toNat|_=>0) ⟨i0,0,rfl,by omega,rfl⟩ ?_
   rintro s3 ⟨i41,i,i43,hi,hb⟩
   by_cases hend:i=T.length
   ·subst hend;rw[yV,c4]at hb;cases hb
   ·obtain⟨rc,a1,hr⟩:=hat (i:=i) (by omega);have hwi:=hsame i (by omega);have hor:=any_take (fun r:List Rat=>r.any fun x=>decide (x<0)) T [] (i:=i);rw[hb,zE]at hor;generalize T.getD i []=r at *
    have hrl:=row_len hr;clear hat c4 hsame;repeat (first|simp only[go_sem,i41,i43,a1,hlen,hwi]|simp (disch:=first|exact omg|fail) only[AX,i41,i43,a1,hlen,hwi]|refine wki ?_|refine vpd 6 [] ?_|refine vpd 16 [] ?_)
    refine vp_loop_inv (fun s=>s.tmp 0 = .sv (.sl T.length cs)/\s.tmp 4 = .sv (.int .i64 (i:Int)) /\
      ∃k:Nat,s.tmp 5 = .sv (.int .i64 (k:Int))/\k<=w/\(r.take k).any (fun x=>decide (x<0))=false)
     (fun s=>match s.tmp 5 with | .sv (.int _ i)=>w-i.toNat|_=>0) ⟨i41,i43,0,rfl,by omega,rfl⟩ ?_
    rintro s4 ⟨j41,j43,k,j49,hk,hkb⟩
    by_cases hkend:k=w
    ·subst hkend;rw[<- hwi,yV]at hkb;rw[hkb]at hor;repeat (first|simp only[go_sem,j41,j43,j49,a1,hlen,hwi]|simp (disch:=first|exact omg|fail) only[AX,j41,j43,j49,a1,hlen,hwi]|refine wki ?_|refine vpd 6 [] ?_|refine vpd 16 [] ?_)
     exact⟨⟨i+1,rfl,by omega,hor⟩,by omega⟩
    ·obtain⟨s,n,d,rest,g1,hA⟩:=row_at (i:=k) hr (by omega);have b1:=ref2_Cmp hA (RatA_rv (szR_zero (L:=1)));have gor:=any_take (fun x:Rat=>decide (x<0)) r 0 (i:=k);rw[hkb,zE]at gor;generalize r.getD k 0=x at *
     have e1:decide (cmpR x 0<0)=decide (x<0):=cmpR_lt;clear hor hA;by_cases hx:x<0
     ·rw[decide_eq_true hx]at e1;clear gor hx;repeat (first|simp only[go_sem,j41,j43,j49,g1,hrl,hwi,a1,hlen,e1]|simp (disch:=first|exact omg|fail) only[AX,j41,j43,j49,g1,hrl,hwi,a1,hlen,e1]|refine wki ?_|refine vpd 6 [] ?_|refine vpd 16 [] ?_|refine vfa ?_)
     ·rw[decide_eq_false hx]at e1 gor;clear hx;repeat (first|simp only[go_sem,j41,j43,j49,g1,hrl,hwi,a1,hlen,e1]|simp (disch:=first|exact omg|fail) only[AX,j41,j43,j49,g1,hrl,hwi,a1,hlen,e1]|refine wki ?_|refine vpd 6 [] ?_|refine vpd 16 [] ?_|refine vfa ?_)
      exact⟨⟨k+1,rfl,by omega,gor⟩,by omega⟩
  ·obtain⟨rc,a1,-⟩:=hat (i:=i) (by omega);have hwi:=hsame i (by omega);clear hat c4 hsame;repeat (first|simp only[go_sem,i0,i21,a1,a0,a0',hlen,hwi]|simp (disch:=first|exact omg|fail) only[AX,i0,i21,a1,a0,a0',hlen,hwi]|refine wki ?_|refine vpd 6 [] ?_|refine vpd 16 [] ?_)
   exact⟨⟨i+1,rfl,by omega⟩,by omega⟩
 ·rw[if_neg c4];have hneg : ∀i k,i<T.length->k<w -> ¬(T.getD i []).getD k 0<0:=by
   intro i k hi hk hx;refine c4 (any_of_getD _ T [] hi (any_of_getD (fun x:Rat=>decide (x<0)) _ 0 (i:=k) ?_ (decide_eq_true hx)));rw[hsame i hi];exact hk
  refine fni Tryz.f295 ?_;unfold Tryz.f295;repeat (first|simp only[go_sem,a0,a0',hlen]|simp (disch:=first|exact omg|fail) only[AX,a0,a0',hlen]|refine wki ?_|refine vpd 6 [] ?_|refine vpd 16 [] ?_)
  refine vp_loop_inv (fun s=>s.tmp 0 = .sv (.sl T.length cs) /\
    ∃i:Nat,s.tmp 3 = .sv (.int .i64 (i:Int))/\i<=T.length)
   (fun s=>match s.tmp 3 with | .sv (.int _ i)=>T.length-i.toNat|_=>0) ⟨rfl,0,rfl,by omega⟩ ?_
  rintro s2 ⟨i0,i,i21,hi⟩
  by_cases hend:i=T.length
  ·subst hend;repeat (first|simp only[go_sem,i0,i21,a0,a0',hlen,hmul]|simp (disch:=first|exact omg|fail) only[AX,i0,i21,a0,a0',hlen,hmul]|refine wki ?_|refine vpd 6 [] ?_|refine vpd 16 [] ?_)
   refine vp_loop_inv (fun s=>s.tmp 0 = .sv (.sl T.length cs) /\
     ∃i:Nat,s.tmp 4 = .sv (.int .i64 (i:Int))/\i<=T.length)
    (fun s=>match s.tmp 4 with | .sv (.int _ i)=>T.length-i.toNat|_=>0) ⟨i0,0,rfl,by omega⟩ ?_
   rintro s3 ⟨i41,i,i43,hi⟩
   by_cases hend:i=T.length
   ·subst hend;repeat (first|simp only[go_sem,i41,i43]|simp (disch:=first|exact omg|fail) only[AX,i41,i43]|refine wki ?_|refine vpd 6 [] ?_|refine vpd 16 [] ?_)
   ·obtain⟨rc,a1,hr⟩:=hat (i:=i) (by omega);have hwi:=hsame i (by omega);have hni:=fun k hk=>hneg i k (by omega) hk
    generalize T.getD i []=r at *
    have hrl:=row_len hr;clear hat c4 hsame hneg;repeat (first|simp only[go_sem,i41,i43,a1,hlen,hwi]|simp (disch:=first|exact omg|fail) only[AX,i41,i43,a1,hlen,hwi]|refine wki ?_|refine vpd 6 [] ?_|refine vpd 16 [] ?_)
    refine vp_loop_inv (fun s=>s.tmp 0 = .sv (.sl T.length cs)/\s.tmp 4 = .sv (.int .i64 (i:Int)) /\
      ∃k:Nat,s.tmp 5 = .sv (.int .i64 (k:Int))/\k<=w)
     (fun s=>match s.tmp 5 with | .sv (.int _ i)=>w-i.toNat|_=>0) ⟨i41,i43,0,rfl,by omega⟩ ?_
    rintro s4 ⟨j41,j43,k,j49,hk⟩
    by_cases hkend:k=w
    ·subst hkend;repeat (first|simp only[go_sem,j41,j43,j49,a1,hlen,hwi]|simp (disch:=first|exact omg|fail) only[AX,j41,j43,j49,a1,hlen,hwi]|refine wki ?_|refine vpd 6 [] ?_|refine vpd 16 [] ?_)
     exact⟨⟨i+1,rfl,by omega⟩,by omega⟩
    ·obtain⟨s,n,d,rest,g1,hA⟩:=row_at (i:=k) hr (by omega);have b1:=ref2_Cmp hA (RatA_rv (szR_zero (L:=1)));have hx:=hni k (by omega);generalize r.getD k 0=x at *
     have e1:decide (cmpR x 0<0)=decide (x<0):=cmpR_lt;rw[decide_eq_false hx]at e1;clear hx hni hA;repeat (first|simp only[go_sem,j41,j43,j49,g1,hrl,hwi,a1,hlen,e1]|simp (disch:=first|exact omg|fail) only[AX,j41,j43,j49,g1,hrl,hwi,a1,hlen,e1]|refine wki ?_|refine vpd 6 [] ?_|refine vpd 16 [] ?_|refine vfa ?_)
     exact⟨⟨k+1,rfl,by omega⟩,by omega⟩
  ·obtain⟨rc,a1,-⟩:=hat (i:=i) (by omega);have hwi:=hsame i (by omega);clear hat c4 hsame hneg;repeat (first|simp only[go_sem,i0,i21,a1,a0,a0',hlen,hwi]|simp (disch:=first|exact omg|fail) only[AX,i0,i21,a1,a0,a0',hlen,hwi]|refine wki ?_|refine vpd 6 [] ?_|refine vpd 16 [] ?_)
   exact⟨⟨i+1,rfl,by omega⟩,by omega⟩
end
theorem ref17_Sum {cs:List SV} {l:List Rat} {L:Nat} (h:RowC cs l L) (hL:1<=L:=by omega) (hL2:L<=100000:=by omega) (hl:l.length<=12:=by omega) :
  Go.Ev.Fn CX 246 [.sl l.length cs] (rv (sumR l)):=by
 have r0:=ref2_Int 0;have hlen:=row_len h;have hz:=row_sz hL h;refine fni Tryz.f246 ?_;unfold Tryz.f246;repeat (first|simp only[go_sem]|simp (disch:=first|exact omg|fail) only[AX]|refine wki ?_|refine vpd 5 [] ?_|refine vfa ?_)
 refine vp_loop_inv (fun s=>s.tmp 0 = .sv (.sl l.length cs)/\s.tmp 2 = .ptr 2 0 0/\s.obj 2 0=some [.bool false,.sl 0 [],.sl 0 []]/\s.tmp 3 = .ptr 3 0 0 /\
   ∃i:Nat,s.tmp 4 = .sv (.int .i64 (i:Int))/\i<=l.length/\s.obj 3 0=some (rvC (sumR (l.take i))))
  (fun s=>match s.tmp 4 with | .sv (.int _ i)=>l.length-i.toNat|_=>0) ⟨rfl,rfl,rfl,rfl,0,rfl,by omega,rfl⟩ ?_
 rintro s2 ⟨i0,i2,iO,i3,i,i4,hi,iP⟩
 by_cases hend:i=l.length
 ·subst hend;rw[yV]at iP;repeat (first|simp only[go_sem,i0,i2,iO,i3,i4,iP,rvC]|simp (disch:=first|exact omg|fail) only[AX,i0,i2,iO,i3,i4,iP,rvC]|refine wki ?_|refine vpd 5 [] ?_)
 ·obtain⟨s,n,d,rest,hat,hA⟩:=row_at (i:=i) h (by omega);have hS:=sumR_take l (i:=i);have z:=sz_take12 hL hz hl i;have a:=ref2_Add (RatA_rv z) hA (by omega) hL;rw[<- hS]at a;clear hz z h hS hA;repeat (first|simp only[go_sem,i0,i2,iO,i3,i4,iP,rvC,hat,hlen]|simp (disch:=first|exact omg|fail) only[AX,i0,i2,iO,i3,i4,iP,rvC,hat,hlen]|refine wki ?_|refine vpd 5 [] ?_|refine vfa ?_)
  exact⟨⟨i+1,rfl,by omega,rfl⟩,by omega⟩
end Go.Proofs.YtfknkoeagjonbaaGreat
namespace Go.Proofs.YtfknkoeagjonbaaGreat
open Go.Ev
theorem colS_sz {T:List (List Rat)} (hz : ∀r∈T,∀x∈r,szR x 1) (hn:T.length<=4) (i k:Nat):szR (colS T i k) 25:=by
 unfold colS;refine sz_sum12 (L:=1) (by omega) ?_ (by rw[xd,xo];omega);intro x hx;obtain⟨r,hr,rfl⟩:=yv.1 hx;have hr':=List.mem_of_mem_take hr;rw[xC];by_cases h:k<r.length
 ·rw[xD h];exact hz r hr' _ (yQ h)
 ·rw[xh (by omega)];exact szR_zero
theorem rowR_sz {T:List (List Rat)} (hz : ∀r∈T,∀x∈r,szR x 1) (hl : ∀r∈T,r.length<=4) : ∀x∈rowR T,szR x 25:=by
 intro x hx;obtain⟨r,hr,rfl⟩:=yv.1 hx;exact sz_sum12 (L:=1) (by omega) (hz r hr) (by have:=hl r hr;omega)
theorem colR_sz {T:List (List Rat)} (hz : ∀r∈T,∀x∈r,szR x 1) (hn:T.length<=4) : ∀x∈colR T,szR x 25:=by
 intro x hx;obtain⟨k,-,rfl⟩:=yv.1 hx;exact colS_sz hz hn _ _
theorem tab_szall {cs:List SV} {T:List (List Rat)} {L:Nat} (hL:1<=L) (h:TabC cs T L) : ∀r∈T,∀x∈r,szR x L:=by
 induction T generalizing cs with
 |nil=>intro r hr;cases hr
 |cons p T ih=>
  obtain⟨rc,rest,rfl,h1,h2⟩:=h;intro r hr;rcases wq.1 hr with rfl|hr
  ·exact row_sz hL h1
  ·exact ih h2 r hr
def cellR (T:List (List Rat)) (x:Rat):List Rat:=(colR T).map fun y=>x*y/sumR (rowR T)
theorem colR_len (T:List (List Rat)):(colR T).length=(T.getD 0 []).length:=by simp[colR]
theorem rowR_len (T:List (List Rat)):(rowR T).length=T.length:=by simp[rowR]
theorem any_append' {α:Type} (f:α->Bool) (a b:List α):(a++b).any f=(a.any f||b.any f):=List.any_append
theorem tabE_zero {T:List (List Rat)} (h:tabE T=0):2<=T.length/\2<=(T.getD 0 []).length/\(∀i,i<T.length->(T.getD i []).length=(T.getD 0 []).length)/\T.any (fun r=>r.any fun x=>decide (x<0))=false:=by
 unfold tabE at h;by_cases c1:T.length<2\/(T.getD 0 []).length<2
 ·rw[if_pos c1]at h;cases h
 rw[if_neg c1]at h;by_cases c3:T.any (fun r=>decide (r.length≠(T.getD 0 []).length))=true
 ·rw[if_pos c3]at h;cases h
 rw[if_neg c3]at h;by_cases c4:T.any (fun r=>r.any fun x=>decide (x<0))=true
 ·rw[if_pos c4]at h;cases h
 refine⟨by omega,by omega,fun i hi => ?_,Bool.eq_false_iff.2 c4⟩;have:=fun e=>c3 (any_of_getD (fun r:List Rat=>decide (r.length≠(T.getD 0 []).length)) T [] hi e)
 by_cases e:(T.getD i []).length=(T.getD 0 []).length
 ·exact e
 ·exact absurd (decide_eq_true e) this
set_option maxHeartbeats 2000000 in
theorem test_Expected {cs:List SV} {T:List (List Rat)} (h:TabC cs T 1) (hn:T.length<=4) (hl : ∀r∈T,r.length<=4) :
  Go.Ev.Fn CX 230 [.sl T.length cs] (.tup [.sl (expR T).1.length (tabsC (expR T).1),.int .i64 (expR T).2]):=by
 have hE:=test_isTable h hn hl;by_cases he:tabE T=0;rotate_left
 ·unfold expR;rw[if_pos he];generalize tabE T=e at *
  clear h hl;refine fni Tryz.f230 ?_;unfold Tryz.f230;repeat (first|simp only[go_sem]|simp (disch:=first|exact omg|fail) only[AX]|refine wki ?_|refine vpd 4 [] ?_|refine vpd 12 [] ?_|refine vpd 30 [] ?_|refine vfa ?_)
  rfl
 obtain⟨t1,t2,t3,-⟩:=tabE_zero he;rw[he]at hE;have hz:=tab_szall (by omega) h;have hcz:=fun i k=>colS_sz hz hn i k
 have hrz:=rowR_sz hz hl;have hlen:=tab_len h;have hat:=fun {i:Nat} (hi:i<T.length)=>tabC_at (i:=i) h hi
 obtain⟨rc0,a0,-⟩:=hat (i:=0) (by omega);have a0':cs.head?=some (.sl (T.getD 0 []).length rc0):=a0;have h40:=tab_ok hl 0;have hra:=rowsS_all T;have hca:=colsR_all T (w:=(T.getD 0 []).length) rfl;have hlc:=colR_len T;have hlr:=rowR_len T;have hro:=row_zero (L:=25) (by omega) T.length;have hco:=row_zero (L:=25) (by omega) (T.getD 0 []).length;rw[<- rowsS_zero]at hro;rw[<- colsR_zero T]at hco;have hzR:=fun i=>rowsS_len T i
 have hzC:=fun w i k=>colsR_len T w i k
 have hexp:expR T=if (rowR T++colR T).any (fun x=>decide (x=0))=true then ([],5) else ((rowR T).map fun x=>cellR T x,0):=by
  unfold expR;rw[if_neg (not_not_intro he)];rfl
 rw[hexp];clear hexp;generalize hw:(T.getD 0 []).length=w at *
 refine fni Tryz.f230 ?_;unfold Tryz.f230;repeat (first|simp only[go_sem]|simp (disch:=first|exact omg|fail) only[AX]|refine wki ?_|refine vpd 4 [] ?_|refine vpd 12 [] ?_|refine vpd 30 [] ?_|refine vfa ?_)
 repeat (first|simp only[go_sem,a0,a0',hlen]|simp (disch:=first|exact omg|fail) only[AX,a0,a0',hlen]|refine wki ?_|refine vpd 4 [] ?_|refine vpd 12 [] ?_|refine vpd 30 [] ?_)
 generalize hA0:(List.replicate T.length [SV.bool false,.sl 0 [],.sl 0 []]).flatten=A0 at *
 generalize hB0:(List.replicate w [SV.bool false,.sl 0 [],.sl 0 []]).flatten=B0 at *
 refine vp_loop_inv (fun s=>s.tmp 33 = .sv (.sl T.length cs)/\s.tmp 34 = .sv (.int .i64 (T.length:Int))/\s.tmp 5 = .ref 27 0 3 0 T.length/\s.tmp 6 = .ref 32 0 3 0 w /\
   ∃ (i:Nat) (ca cb:List SV),s.tmp 35 = .sv (.int .i64 (i:Int))/\i<=T.length/\s.obj 27 0=some ca/\RowC ca (rowsS T i) 25/\s.obj 32 0=some cb/\RowC cb (colsR T w i 0) 25)
  (fun s=>match s.tmp 35 with | .sv (.int _ i)=>T.length-i.toNat|_=>0) ⟨rfl,rfl,rfl,rfl,0,A0,B0,rfl,by omega,rfl,hro,rfl,hco⟩ ?_
 rintro s2 ⟨i33,i34,i5,i6,i,ca,cb,i35,hi,oA,hA,oB,hB⟩
 by_cases hend:i=T.length;rotate_left
 ·obtain⟨rc,a1,hr⟩:=hat (i:=i) (by omega);have hri:=t3 i (by omega);have hSum:=stat_Sum hr;have hAl:=row_len hA;rw[hzR]at hAl;have hset:=row_set' hA (RatA_rv (sz_sum12 (L:=1) (by omega) (row_sz (by omega) hr))) (k:=i) (by rw[hzR];omega);rw[rowsS_set]at hset;have hset:RowC (ca.take (i*3)++[.bool (decide ((sumR (T.getD i [])).num<0)),natV (lim (sumR (T.getD i [])).num.natAbs),natV (lim (sumR (T.getD i [])).den)]++ca.drop (i*3+3)) (rowsS T (i+1)) 25:=hset;have hrl:=row_len hr;rw[hri]at hSum hrl a1;have hcs1:=fun k=>colS_step T k (i:=i)
  generalize T.getD i []=r at *
  clear hA;repeat (first|simp only[go_sem,i33,i34,i5,i6,i35,oA,oB,a1,hlen,hAl]|simp (disch:=first|exact omg|fail) only[AX,i33,i34,i5,i6,i35,oA,oB,a1,hlen,hAl]|refine wki ?_|refine vpd 4 [] ?_|refine vpd 12 [] ?_|refine vpd 30 [] ?_|refine vfa ?_)
  generalize ca.take (i*3)++[.bool (decide ((sumR r).num<0)),natV (lim (sumR r).num.natAbs),natV (lim (sumR r).den)]++ca.drop (i*3+3)=ca' at *
  refine vp_loop_inv (fun s=>s.tmp 33 = .sv (.sl T.length cs)/\s.tmp 34 = .sv (.int .i64 (T.length:Int))/\s.tmp 5 = .ref 27 0 3 0 T.length/\s.tmp 6 = .ref 32 0 3 0 w/\s.tmp 35 = .sv (.int .i64 (i:Int))/\s.obj 27 0=some ca'/\s.tmp 45 = .sv (.sl w rc)/\s.tmp 46 = .sv (.int .i64 (w:Int)) /\
    ∃ (k:Nat) (cb:List SV),s.tmp 47 = .sv (.int .i64 (k:Int))/\k<=w/\s.obj 32 0=some cb/\RowC cb (colsR T w i k) 25)
   (fun s=>match s.tmp 47 with | .sv (.int _ i)=>w-i.toNat|_=>0) ⟨i33,i34,i5,i6,i35,rfl,rfl,rfl,0,cb,rfl,by omega,oB,hB⟩ ?_
  rintro s3 ⟨j33,j34,j5,j6,j35,jA,j45,j46,k,cb,j47,hk,jB,hB⟩
  by_cases hkend:k=w
  ·subst hkend;rw[colsR_next]at hB;repeat (first|simp only[go_sem,j33,j34,j5,j6,j35,jA,j45,j46,j47,jB]|simp (disch:=first|exact omg|fail) only[AX,j33,j34,j5,j6,j35,jA,j45,j46,j47,jB]|refine wki ?_|refine vpd 4 [] ?_|refine vpd 12 [] ?_|refine vpd 30 [] ?_)
   exact⟨⟨i+1,ca',cb,rfl,by omega,rfl,hset,rfl,hB⟩,by omega⟩
  ·obtain⟨s,n,d,rest,g1,hX⟩:=row_at (i:=k) hr (by omega);obtain⟨s',n',d',rest',g2,hY⟩:=row_at (i:=k) hB (by rw[hzC];omega);rw[colsR_at T]at hY;have hBl:=row_len hB;rw[hzC]at hBl;have hAdd:=rat_Add hY hX;rw[<- hcs1]at hAdd;have hset2:=row_set' hB (RatA_rv (hcz (i+1) k)) (k:=k) (by rw[hzC];omega);rw[colsR_set T w i k]at hset2;generalize colS T (i+1) k=q at *
   clear hB hX hY hset;repeat (first|simp only[go_sem,j33,j34,j5,j6,j35,jA,j45,j46,j47,jB,g1,g2,hrl,hBl]|simp (disch:=first|exact omg|fail) only[AX,j33,j34,j5,j6,j35,jA,j45,j46,j47,jB,g1,g2,hrl,hBl]|refine wki ?_|refine vpd 4 [] ?_|refine vpd 12 [] ?_|refine vpd 30 [] ?_|refine vfa ?_)
   exact⟨⟨k+1,_,rfl,by omega,rfl,hset2⟩,by omega⟩
 subst hend;rw[hra]at hA;rw[hca]at hB;clear hat hro hco hzR hzC hA0 hB0;have hAl:=row_len hA;have hBl:=row_len hB;rw[hlr]at hAl;rw[hlc]at hBl;have h1A:=row_one hA;have h1B:=row_one hB;have htA:ca.take (T.length*3)=ca:=xH (by omega);have htB:cb.take (w*3)=cb:=xH (by omega);have hAB:=row_append hA hB;have hABl:=row_len hAB;rw[xq,xq,hlr,hlc]at hABl
 repeat (first|simp only[go_sem,i33,i34,i5,i6,i35,oA,oB,htA,htB,xf,hAl,hBl,h1A,h1B,N0]|simp (disch:=first|exact omg|fail) only[AX,i33,i34,i5,i6,i35,oA,oB,htA,htB,xf,hAl,hBl,h1A,h1B,N0]|refine wki ?_|refine vpd 4 [] ?_|refine vpd 12 [] ?_|refine vpd 30 [] ?_)
 have hKl:(rowR T++colR T).length=T.length+w:=by rw[xq,hlr,hlc]
 generalize hK:rowR T++colR T=K at *
 by_cases hz0:K.any (fun x=>decide (x=0))=true
 ·rw[if_pos hz0];refine vp_loop_inv (fun s=>s.tmp 67 = .ref 63 (s2.gen 63) 3 0 (T.length+w)/\s.obj 63 (s2.gen 63)=some (ca++cb)/\s.tmp 68 = .sv (.int .i64 ((T.length+w:Nat):Int)) /\
    ∃k:Nat,s.tmp 69 = .sv (.int .i64 (k:Int))/\k<=T.length+w/\(K.take k).any (fun x=>decide (x=0))=false)
   (fun s=>match s.tmp 69 with | .sv (.int _ i)=>T.length+w-i.toNat|_=>0) ⟨?_,?_,rfl,0,rfl,by omega,rfl⟩ ?_
  ·simp only[go_sem]
  ·simp only[go_sem]
  rintro s3 ⟨j67,jO,j68,k,j69,hk,hkb⟩
  by_cases hend:k=T.length+w
  ·rw[xH (by omega),hz0]at hkb;cases hkb
  ·obtain⟨s,n,d,rest,g1,hX⟩:=row_at (i:=k) hAB (by omega);have zz:=rat_Zero hX;have gor:=any_take (fun x:Rat=>decide (x=0)) K 0 (i:=k);rw[hkb,zE]at gor;generalize K.getD k 0=x at *
   clear hX hz0 hAB hA hB;have hcl:(ca++cb).length=(T.length+w)*3:=by rw[xq];omega
   generalize ca++cb=cab at *
   by_cases hx:x=0
   ·rw[decide_eq_true hx]at zz;clear gor;repeat (first|simp only[go_sem,j67,jO,j68,j69,g1,hcl]|simp (disch:=first|exact omg|fail) only[AX,j67,jO,j68,j69,g1,hcl]|refine wki ?_|refine vpd 4 [] ?_|refine vpd 12 [] ?_|refine vpd 30 [] ?_|refine vfa ?_)
    rfl
   ·rw[decide_eq_false hx]at zz gor;repeat (first|simp only[go_sem,j67,jO,j68,j69,g1,hcl]|simp (disch:=first|exact omg|fail) only[AX,j67,jO,j68,j69,g1,hcl]|refine wki ?_|refine vpd 4 [] ?_|refine vpd 12 [] ?_|refine vpd 30 [] ?_|refine vfa ?_)
    exact⟨⟨k+1,rfl,by omega,gor⟩,by omega⟩
 rw[if_neg hz0];have hnz : ∀k,k<T.length+w->K.getD k 0≠0:=fun k hk e=>hz0 (any_of_getD (fun x:Rat=>decide (x=0)) K 0 (by omega) (decide_eq_true e))
 clear hz0;refine vp_loop_inv (fun s=>s.tmp 5 = .ref 27 0 3 0 T.length/\s.obj 27 0=some ca/\s.tmp 6 = .ref 32 0 3 0 w/\s.obj 32 0=some cb/\s.tmp 67 = .ref 63 (s2.gen 63) 3 0 (T.length+w)/\s.obj 63 (s2.gen 63)=some (ca++cb)/\s.tmp 68 = .sv (.int .i64 ((T.length+w:Nat):Int)) /\
   ∃k:Nat,s.tmp 69 = .sv (.int .i64 (k:Int))/\k<=T.length+w)
  (fun s=>match s.tmp 69 with | .sv (.int _ i)=>T.length+w-i.toNat|_=>0) ⟨?_,?_,?_,?_,?_,?_,rfl,0,rfl,by omega⟩ ?_
 ·simp only[go_sem,i5]
 ·simp only[go_sem,oA]
 ·simp only[go_sem,i6]
 ·simp only[go_sem,oB]
 ·simp only[go_sem]
 ·simp only[go_sem]
 rintro s3 ⟨j5,jA,j6,jB,j67,jO,j68,k,j69,hk⟩
 by_cases hend:k=T.length+w;rotate_left
 ·obtain⟨s,n,d,rest,g1,hX⟩:=row_at (i:=k) hAB (by omega);have zz:=rat_Zero hX;have hx:=hnz k (by omega);rw[decide_eq_false hx]at zz;have hcl:(ca++cb).length=(T.length+w)*3:=by rw[xq];omega
  clear hX hAB hA hB hnz hx;generalize ca++cb=cab at *
  repeat (first|simp only[go_sem,j5,jA,j6,jB,j67,jO,j68,j69,g1,hcl]|simp (disch:=first|exact omg|fail) only[AX,j5,jA,j6,jB,j67,jO,j68,j69,g1,hcl]|refine wki ?_|refine vpd 4 [] ?_|refine vpd 12 [] ?_|refine vpd 30 [] ?_|refine vfa ?_)
  exact⟨⟨k+1,rfl,by omega⟩,by omega⟩
 subst hend;have hSum:=stat_Sum hA;rw[hlr]at hSum;have zS:=sz_sum12 (by omega) hrz;clear hAB hnz hK hKl;have hXl:((rowR T).map fun x=>cellR T x).length=T.length:=by rw[xd];exact hlr
 have hXg : ∀i,i<T.length->((rowR T).map fun x=>cellR T x).take (i+1)=((rowR T).map fun x=>cellR T x).take i++[cellR T ((rowR T).getD i 0)]:=by
  intro i hi;rw[wC,yN,xD (by omega),xC,xD (by omega)];rfl
 have hXt:((rowR T).map fun x=>cellR T x).take T.length=(rowR T).map fun x=>cellR T x:=xH (by omega)
 have hcl : ∀x,(cellR T x).length=w:=fun x=>by unfold cellR;rw[xd];exact hlc
 have hcg : ∀x k,k<w->(cellR T x).getD k 0=x*(colR T).getD k 0/sumR (rowR T):=by
  intro x k hk;unfold cellR;rw[getD_map _ _]
 generalize hX:(rowR T).map (fun x=>cellR T x)=X at *
 have hzc : ∀k,k<w->szR ((colR T).getD k 0) 25:=fun k hk=>row_sz (by omega) hB _ (getD_mem)
 have hzr : ∀k,k<T.length->szR ((rowR T).getD k 0) 25:=fun k hk=>row_sz (by omega) hA _ (getD_mem)
 generalize hS0:sumR (rowR T)=S0 at *
 repeat (first|simp only[go_sem,j5,jA,j6,jB,j67,jO,j68,j69,N0,htA,xf]|simp (disch:=first|exact omg|fail) only[AX,j5,jA,j6,jB,j67,jO,j68,j69,N0,htA,xf]|refine wki ?_|refine vpd 4 [] ?_|refine vpd 12 [] ?_|refine vpd 30 [] ?_|refine vfa ?_)
 refine vp_loop_inv (fun s=>s.tmp 6 = .ref 32 0 3 0 w/\s.obj 32 0=some cb/\s.tmp 13 = .ptr 13 (s3.gen 13) 0/\s.obj 13 (s3.gen 13)=some (rvC S0)/\s.tmp 78 = .sv (.sl T.length ca)/\s.tmp 79 = .sv (.int .i64 (T.length:Int)) /\
   ∃i:Nat,s.tmp 80 = .sv (.int .i64 (i:Int))/\i<=T.length/\((i=0/\s.tmp 14 = .nil)\/(0<i /\ ∃g,s.tmp 14 = .ref 102 g 1 0 i/\s.obj 102 g=some (tabsC (X.take i)))))
  (fun s=>match s.tmp 80 with | .sv (.int _ i)=>T.length-i.toNat|_=>0) ⟨?_,?_,?_,?_,?_,?_,0,?_,by omega,.inl ⟨rfl,?_⟩⟩ ?_
 ·simp only[go_sem,j6]
 ·simp only[go_sem,jB]
 ·simp only[go_sem]
 ·simp only[go_sem,rvC]
 ·simp only[go_sem,htA,xf]
 ·simp only[go_sem]
 ·rfl
 ·simp only[go_sem]
 rintro s4 ⟨i6,oB,i13,oS,i78,i79,i,i80,hi,h14⟩
 by_cases hend:i=T.length
 ·subst hend;rcases h14 with⟨h0,_⟩|⟨_,g,i14,oX⟩
  ·omega
  ·rw[hXt]at oX;repeat (first|simp only[go_sem,i6,oB,i13,oS,i78,i79,i80,i14,oX]|simp (disch:=first|exact omg|fail) only[AX,i6,oB,i13,oS,i78,i79,i80,i14,oX]|refine wki ?_|refine vpd 4 [] ?_|refine vpd 12 [] ?_|refine vpd 30 [] ?_)
   refine ro_ref (cs:=tabsC X) (by decide) ?_ ?_
   ·simp only[go_sem,oX]
   ·rw[xf,xu,xH (by rw[tabsC_len];omega),hXl]
 ·obtain⟨s,n,d,rest,g1,hXx⟩:=row_at (i:=i) hA (by omega);have hg:=hXg i (by omega);have hzx:=hzr i (by omega);generalize (rowR T).getD i 0=x at *
  have hll:=hcl x;have hlg:=hcg x;generalize cellR T x=l at *
  have hsnX:=tabsC_snoc (X.take i) l;rw[<- hg,hll]at hsnX;have hXil:=tabsC_len (X.take i);rw[xo,hXl,yO (by omega)]at hXil;repeat (first|simp only[go_sem,i6,oB,i13,oS,i78,i79,i80,g1,hAl]|simp (disch:=first|exact omg|fail) only[AX,i6,oB,i13,oS,i78,i79,i80,g1,hAl]|refine wki ?_|refine vpd 4 [] ?_|refine vpd 12 [] ?_|refine vpd 30 [] ?_)
  refine vp_loop_inv (fun s'=>s'.tmp 6 = .ref 32 0 3 0 w/\s'.obj 32 0=some cb/\s'.tmp 13 = .ptr 13 (s3.gen 13) 0/\s'.obj 13 (s3.gen 13)=some (rvC S0)/\s'.tmp 78 = .sv (.sl T.length ca)/\s'.tmp 79 = .sv (.int .i64 (T.length:Int))/\s'.tmp 80 = .sv (.int .i64 (i:Int)) /\
    s'.tmp 16 = .ptr 16 (s4.gen 16) 0/\s'.obj 16 (s4.gen 16)=some [.bool s,natV n,natV d]/\s'.tmp 84 = .ref 32 0 3 0 w/\s'.tmp 85 = .sv (.int .i64 (w:Int))/\((i=0/\s'.tmp 14 = .nil)\/(0<i /\ ∃g,s'.tmp 14 = .ref 102 g 1 0 i/\s'.obj 102 g=some (tabsC (X.take i)))) /\
    ∃k:Nat,s'.tmp 86 = .sv (.int .i64 (k:Int))/\k<=w/\((k=0/\s'.tmp 17 = .nil)\/(0<k /\ ∃g,s'.tmp 17 = .ref 97 g 3 0 k/\s'.obj 97 g=some (rvsC (l.take k)))))
   (fun s=>match s.tmp 86 with | .sv (.int _ i)=>w-i.toNat|_=>0) ⟨?_,?_,?_,?_,?_,?_,?_,?_,?_,?_,?_,?_,0,rfl,by omega,.inl ⟨rfl,?_⟩⟩ ?_
  ·simp only[go_sem,i6]
  ·simp only[go_sem,oB]
  ·simp only[go_sem,i13]
  ·simp only[go_sem,oS]
  ·simp only[go_sem,i78]
  ·simp only[go_sem,i79]
  ·simp only[go_sem,i80]
  ·simp only[go_sem]
  ·simp only[go_sem]
  ·simp only[go_sem,i6]
  ·simp only[go_sem]
  ·simp only[go_sem,h14]
  ·simp only[go_sem]
  rintro s5 ⟨j6,jB,j13,jS,j78,j79,j80,j16,jx,j84,j85,j14,k,j86,hk,j17⟩
  by_cases hkend:k=w
  ·subst hkend;rcases j17 with⟨h0,_⟩|⟨_,g,j17,jl⟩
   ·omega
   ·rw[xH (by omega)]at jl;have hrl:=rvsC_len l;have htl:(rvsC l).take (k*3)=rvsC l:=xH (by omega);rcases j14 with⟨hi0,j14⟩|⟨hi0,g',j14,jX⟩
    ·subst hi0;rw[yz]at hsnX;repeat (first|simp only[go_sem,j6,jB,j13,jS,j78,j79,j80,j16,jx,j84,j85,j86,j17,jl,j14,htl,xf,N0]|simp (disch:=first|exact omg|fail) only[AX,j6,jB,j13,jS,j78,j79,j80,j16,jx,j84,j85,j86,j17,jl,j14,htl,xf,N0]|refine wki ?_|refine vpd 4 [] ?_|refine vpd 12 [] ?_|refine vpd 30 [] ?_)
     exact⟨⟨1,rfl,by omega,.inr ⟨by omega,_,rfl,(if_pos rfl).trans (congrArg some hsnX).symm⟩⟩,by omega⟩
    ·repeat (first|simp only[go_sem,j6,jB,j13,jS,j78,j79,j80,j16,jx,j84,j85,j86,j17,jl,j14,jX,htl,xf,N0,hXil]|simp (disch:=first|exact omg|fail) only[AX,j6,jB,j13,jS,j78,j79,j80,j16,jx,j84,j85,j86,j17,jl,j14,jX,htl,xf,N0,hXil]|refine wki ?_|refine vpd 4 [] ?_|refine vpd 12 [] ?_|refine vpd 30 [] ?_)
     exact⟨⟨i+1,rfl,by omega,.inr ⟨by omega,_,rfl,(if_pos rfl).trans (congrArg some hsnX).symm⟩⟩,by omega⟩
  ·obtain⟨s',n',d',rest',g2,hY⟩:=row_at (i:=k) hB (by omega);have hzy:=hzc k (by omega);have hgk:=hlg k (by omega);generalize (colR T).getD k 0=y at *
   have m1:=rat_Mul hXx hY;have o1:=test_over (RatA_rv (szR_mul hzx hzy)) (RatA_rv zS);have hsn:=rvs_snoc (l:=l) (i:=k);rw[hgk]at hsn;generalize x*y/S0=q at *
   have hrl:=rvsC_len (l.take k);rw[xo,hll,yO (by omega)]at hrl;rcases j17 with⟨hk0,j17⟩|⟨hk0,g,j17,jl⟩
   ·subst hk0;rw[yz,rvsC_nil,ze]at hsn;rw[zM,xf]at g2;repeat (first|simp only[go_sem,j6,jB,j13,jS,j78,j79,j80,j16,jx,j84,j85,j86,j17,g2,hBl,rvC,N0]|simp (disch:=first|exact omg|fail) only[AX,j6,jB,j13,jS,j78,j79,j80,j16,jx,j84,j85,j86,j17,g2,hBl,rvC,N0]|refine wki ?_|refine vpd 4 [] ?_|refine vpd 12 [] ?_|refine vpd 30 [] ?_|refine vfa ?_)
    exact⟨⟨j14,1,rfl,by omega,.inr ⟨by omega,_,rfl,(if_pos rfl).trans (congrArg some hsn)⟩⟩,by omega⟩
   ·unfold rvC at hsn;rcases j14 with⟨hi0,j14⟩|⟨hi0,g',j14,jX⟩
    ·repeat (first|simp only[go_sem,j6,jB,j13,jS,j78,j79,j80,j16,jx,j84,j85,j86,j17,jl,g2,hBl,rvC,j14]|simp (disch:=first|exact omg|fail) only[AX,j6,jB,j13,jS,j78,j79,j80,j16,jx,j84,j85,j86,j17,jl,g2,hBl,rvC,j14]|refine wki ?_|refine vpd 4 [] ?_|refine vpd 12 [] ?_|refine vpd 30 [] ?_)
     repeat (first|simp only[go_sem,j6,jB,j13,jS,j78,j79,j80,j16,jx,j84,j85,j86,j17,jl,g2,hBl,rvC,j14,N0,hrl]|simp (disch:=first|exact omg|fail) only[AX,j6,jB,j13,jS,j78,j79,j80,j16,jx,j84,j85,j86,j17,jl,g2,hBl,rvC,j14,N0,hrl]|refine wki ?_|refine vpd 4 [] ?_|refine vpd 12 [] ?_|refine vpd 30 [] ?_|refine vfa ?_)
     refine⟨⟨?_,k+1,rfl,by omega,.inr ⟨by omega,_,rfl,(if_pos rfl).trans (congrArg some hsn)⟩⟩,by omega⟩;first|exact .inl ⟨hi0,rfl⟩|exact .inl hi0|simp[hi0]
    ·repeat (first|simp only[go_sem,j6,jB,j13,jS,j78,j79,j80,j16,jx,j84,j85,j86,j17,jl,g2,hBl,rvC,j14]|simp (disch:=first|exact omg|fail) only[AX,j6,jB,j13,jS,j78,j79,j80,j16,jx,j84,j85,j86,j17,jl,g2,hBl,rvC,j14]|refine wki ?_|refine vpd 4 [] ?_|refine vpd 12 [] ?_|refine vpd 30 [] ?_)
     repeat (first|simp only[go_sem,j6,jB,j13,jS,j78,j79,j80,j16,jx,j84,j85,j86,j17,jl,g2,hBl,rvC,j14,N0,hrl]|simp (disch:=first|exact omg|fail) only[AX,j6,jB,j13,jS,j78,j79,j80,j16,jx,j84,j85,j86,j17,jl,g2,hBl,rvC,j14,N0,hrl]|refine wki ?_|refine vpd 4 [] ?_|refine vpd 12 [] ?_|refine vpd 30 [] ?_|refine vfa ?_)
     refine⟨⟨?_,k+1,rfl,by omega,.inr ⟨by omega,_,rfl,(if_pos rfl).trans (congrArg some hsn)⟩⟩,by omega⟩;exact .inr ⟨hi0,_,rfl,jX⟩
end Go.Proofs.YtfknkoeagjonbaaGreat
namespace Go.Proofs.YtfknkoeagjonbaaGreat
open Go.Ev
def colCells (cs:List SV) (k:Nat):List SV:=cs.flatMap fun v=>match v with
 | .sl _ rc=>(rc.drop (k*3)).take 3
 |_=>[]
theorem colCells_snoc {cs:List SV} {i w k:Nat} {rc:List SV} (h:(cs.drop i).head?=some (.sl w rc)):colCells (cs.take (i+1)) k=colCells (cs.take i) k++(rc.drop (k*3)).take 3:=by
 rw[List.head?_drop]at h;unfold colCells;rw[wC,h,List.flatMap_append];simp
theorem colCells_row {T:List (List Rat)} {k:Nat} : ∀ {cs:List SV},TabC cs T 1->(∀r∈T,k<r.length)->RowC (colCells cs k) (T.map fun r=>r.getD k 0) 1:=by
 induction T with
 |nil=>intro cs h _;cases h;rfl
 |cons r T ih=>
  intro cs h hk;obtain⟨rc,rest,rfl,h1,h2⟩:=h;obtain⟨s,n,d,rest',g,hA⟩:=row_at (i:=k) h1 (hk r yF);refine⟨s,n,d,colCells rest k,?_,hA,ih h2 fun x hx=>hk x (yB _ hx)⟩;show (rc.drop (k*3)).take 3++colCells rest k=_;rw[g];rfl
theorem colCells_len {cs:List SV} {T:List (List Rat)} {k:Nat} (h:TabC cs T 1) (hk : ∀r∈T,k<r.length):(colCells cs k).length=T.length*3:=by
 rw[row_len (colCells_row h hk),xd]
theorem tab_take {L:Nat} : ∀ {T:List (List Rat)} {cs:List SV} (i:Nat),TabC cs T L->TabC (cs.take i) (T.take i) L
 | [],_,i,h=>by cases h;simp[TabC]
 |r::T,cs,0,_=>rfl
 |r::T,cs,i+1,h=>by
  obtain⟨rc,rest,rfl,h1,h2⟩:=h;exact⟨rc,rest.take i,rfl,h1,tab_take i h2⟩
theorem getD_mem' {α:Type} {l:List α} {d:α} {i:Nat} (h:i<l.length:=by omega):l.getD i d∈l:=by
 rw[xC,xD h];exact yQ h
theorem ref19_column {cs:List SV} {T:List (List Rat)} {k:Nat} (h:TabC cs T 1) (hn:T.length<=4) (hl : ∀r∈T,r.length<=4) (hk : ∀r∈T,k<r.length) (h0:1<=T.length:=by omega) :
  Go.Ev.Fn CX 296 [.sl T.length cs,.int .i64 (k:Int)] (.sl T.length (colCells cs k)):=by
 have hlen:=tab_len h;have hat:=fun {i:Nat} (hi:i<T.length)=>tabC_at (i:=i) h hi
 have hcl:=fun i=>colCells_len (tab_take i h) (fun r hr=>hk r (List.mem_of_mem_take hr))
 have hkw : ∀i,i<T.length->k<(T.getD i []).length:=fun i hi=>hk _ (getD_mem' hi)
 have h4:=tab_ok hl;have hk4:k<4:=by have h1:=hkw 0 (by omega);have h2:=h4 0;omega
 refine fni Tryz.f296 ?_;unfold Tryz.f296;repeat (first|simp only[go_sem]|simp (disch:=first|exact omg|fail) only[AX]|refine wki ?_)
 refine vp_loop_inv (fun s=>s.tmp 0 = .sv (.sl T.length cs)/\s.tmp 1 = .sv (.int .i64 (k:Int)) /\
   ∃i:Nat,s.tmp 6 = .sv (.int .i64 (i:Int))/\i<=T.length/\((i=0/\s.tmp 5 = .nil/\s.gen 22=0)\/(0<i/\s.tmp 5 = .ref 22 0 3 0 i/\s.obj 22 0=some (colCells (cs.take i) k))))
  (fun s=>match s.tmp 6 with | .sv (.int _ i)=>T.length-i.toNat|_=>0) ⟨rfl,rfl,0,rfl,by omega,.inl ⟨rfl,rfl,rfl⟩⟩ ?_
 rintro s2 ⟨i0,i1,i,i6,hi,hc⟩
 by_cases hend:i=T.length
 ·subst hend;rcases hc with⟨h00,_⟩|⟨_,i5,iP⟩
  ·omega
  ·rw[xH (by omega)]at iP;have hc2:=hcl T.length;rw[xH (by omega),xH (by omega)]at hc2;repeat (first|simp only[go_sem,i0,i1,i6,i5,iP]|simp (disch:=first|exact omg|fail) only[AX,i0,i1,i6,i5,iP]|refine wki ?_)
   refine ro_ref (cs:=colCells cs k) (by decide) ?_ ?_
   ·simp only[go_sem,i5,iP]
   ·rw[xf,xH (by omega)]
 ·obtain⟨rc,a1,hr⟩:=hat (i:=i) (by omega);have hkr:=hkw i (by omega);have hri:=h4 i;have hsn:=colCells_snoc (k:=k) a1;obtain⟨s,n,d,rest,g1,hA⟩:=row_at (i:=k) hr hkr;have hrl:=row_len hr;rw[g1]at hsn;simp only[List.take_succ_cons,yz]at hsn;have hci:=hcl i;rw[xo,yO (by omega)]at hci;generalize (T.getD i []).length=u at *
  clear hat hcl hkw h4 hA hr;rcases hc with⟨h00,i5,ig⟩|⟨h00,i5,iP⟩
  ·subst h00;rw[yz,show colCells [] k=[] from rfl,ze]at hsn;have a1':cs.head?=some (.sl u rc):=a1;repeat (first|simp only[go_sem,i0,i1,i6,i5,ig,a1,a1',hlen,g1,hrl,N0]|simp (disch:=first|exact omg|fail) only[AX,i0,i1,i6,i5,ig,a1,a1',hlen,g1,hrl,N0]|refine wki ?_)
   exact⟨⟨1,rfl,by omega,.inr ⟨by omega,rfl,by rw[hsn]⟩⟩,by omega⟩
  ·repeat (first|simp only[go_sem,i0,i1,i6,i5,iP,a1,hlen,g1,hrl,N0,hci]|simp (disch:=first|exact omg|fail) only[AX,i0,i1,i6,i5,iP,a1,hlen,g1,hrl,N0,hci]|refine wki ?_)
   exact⟨⟨i+1,rfl,by omega,.inr ⟨by omega,rfl,by rw[hsn]⟩⟩,by omega⟩
end Go.Proofs.YtfknkoeagjonbaaGreat
namespace Go.Proofs.YtfknkoeagjonbaaGreat
open Go.Ev
set_option maxHeartbeats 2000000 in
theorem ref19_Expected {cs:List SV} {T:List (List Rat)} (h:TabC cs T 1) (hn:T.length<=4) (hl : ∀r∈T,r.length<=4) :
  Go.Ev.Fn CX 248 [.sl T.length cs] (.tup [.sl (expR T).1.length (tabsC (expR T).1),.int .i64 (expR T).2]):=by
 have hE:=ref19_rows h hn hl;by_cases he:tabE T=0;rotate_left
 ·unfold expR;rw[if_pos he];generalize tabE T=e at *
  clear h hl;refine fni Tryz.f248 ?_;unfold Tryz.f248;repeat (first|simp only[go_sem]|simp (disch:=first|exact omg|fail) only[AX]|refine wki ?_|refine vpd 32 [] ?_|refine vfa ?_)
  rfl
 obtain⟨t1,t2,t3,-⟩:=tabE_zero he;rw[he]at hE;have hz:=tab_szall (by omega) h;have hrz:=rowR_sz hz hl;have hczz:=colR_sz hz hn;have hlen:=tab_len h;have hat:=fun {i:Nat} (hi:i<T.length)=>tabC_at (i:=i) h hi
 obtain⟨rc0,a0,-⟩:=hat (i:=0) (by omega);have a0':cs.head?=some (.sl (T.getD 0 []).length rc0):=a0;have h40:=tab_ok hl 0;have hlc:=colR_len T;have hlr:=rowR_len T;have hmem : ∀r∈T,r.length=(T.getD 0 []).length:=by
  intro r hr;obtain⟨i,hi,rfl⟩:=zC hr;have:=t3 i hi;rw[xC,xD hi]at this;exact this
 have hexp:expR T=if (rowR T++colR T).any (fun x=>decide (x=0))=true then ([],5) else ((rowR T).map fun x=>cellR T x,0):=by
  unfold expR;rw[if_neg (not_not_intro he)];rfl
 rw[hexp];have hrg : ∀i,i<T.length->(rowR T).getD i 0=sumR (T.getD i []):=by
  intro i hi;unfold rowR;rw[xC,yN,xD hi,xC,xD hi];rfl
 have hcgd : ∀k,k<(T.getD 0 []).length->(colR T).getD k 0=sumR (T.map fun r=>r.getD k 0):=by
  intro k hk;unfold colR colS;rw[xC,yN,wO hk,yV];rfl
 have hcol:=fun k (hk:k<(T.getD 0 []).length)=>ref19_column (k:=k) h hn hl (fun r hr=>by rw[hmem r hr];exact hk)
 have hcrow:=fun k (hk:k<(T.getD 0 []).length)=>colCells_row (k:=k) h (fun r hr=>by rw[hmem r hr];exact hk)
 clear hexp;generalize hw:(T.getD 0 []).length=w at *
 refine fni Tryz.f248 ?_;unfold Tryz.f248;repeat (first|simp only[go_sem]|simp (disch:=first|exact omg|fail) only[AX]|refine wki ?_|refine vpd 32 [] ?_|refine vfa ?_)
 refine vp_loop_inv (fun s=>s.tmp 0 = .sv (.sl T.length cs)/\s.tmp 6 = .nil/\s.gen 49=0 /\
   ∃i:Nat,s.tmp 7 = .sv (.int .i64 (i:Int))/\i<=T.length/\((i=0/\s.tmp 5 = .nil/\s.gen 34=0)\/(0<i/\s.tmp 5 = .ref 34 0 3 0 i/\s.obj 34 0=some (rvsC ((rowR T).take i)))))
  (fun s=>match s.tmp 7 with | .sv (.int _ i)=>T.length-i.toNat|_=>0) ⟨rfl,rfl,rfl,0,rfl,by omega,.inl ⟨rfl,rfl,rfl⟩⟩ ?_
 rintro s2 ⟨i0,i6,ig6,i,i7,hi,hc⟩
 by_cases hend:i=T.length;rotate_left
 ·obtain⟨rc,a1,hr⟩:=hat (i:=i) (by omega);have hri:=t3 i (by omega);have hSum:=ref17_Sum hr;rw[<- hrg i (by omega)]at hSum;have hsn:=rvs_snoc (l:=rowR T) (i:=i);have hrl:=rvsC_len ((rowR T).take i);rw[xo,hlr,yO (by omega)]at hrl;generalize (rowR T).getD i 0=x at *
  generalize (T.getD i []).length=u at *
  subst hri;clear hat hrg hcol hcrow hcgd hr;rcases hc with⟨h00,i5,ig⟩|⟨h00,i5,iP⟩
  ·subst h00;rw[yz,rvsC_nil,ze]at hsn;have a1':cs.head?=some (.sl u rc):=a1;repeat (first|simp only[go_sem,i0,i6,ig6,i7,i5,ig,a1,a1',hlen,N0]|simp (disch:=first|exact omg|fail) only[AX,i0,i6,ig6,i7,i5,ig,a1,a1',hlen,N0]|refine wki ?_|refine vpd 32 [] ?_|refine vfa ?_)
   exact⟨⟨1,rfl,by omega,.inr ⟨by omega,rfl,hsn⟩⟩,by omega⟩
  ·unfold rvC at hsn;repeat (first|simp only[go_sem,i0,i6,ig6,i7,i5,iP,a1,hlen,N0,hrl]|simp (disch:=first|exact omg|fail) only[AX,i0,i6,ig6,i7,i5,iP,a1,hlen,N0,hrl]|refine wki ?_|refine vpd 32 [] ?_|refine vfa ?_)
   exact⟨⟨i+1,rfl,by omega,.inr ⟨by omega,rfl,hsn⟩⟩,by omega⟩
 subst hend;obtain⟨i5,oA⟩:s2.tmp 5 = .ref 34 0 3 0 T.length/\s2.obj 34 0=some (rvsC (rowR T)):=by
  rcases hc with⟨h00,_⟩|⟨_,i5,iP⟩
  ·omega
  ·rw[xH (by omega)]at iP;exact⟨i5,iP⟩
 clear hc hat hrg;have hA:=rvsC_row _ hrz;generalize rvsC (rowR T)=ca at *
 repeat (first|simp only[go_sem,i0,i6,ig6,i7,i5,oA]|simp (disch:=first|exact omg|fail) only[AX,i0,i6,ig6,i7,i5,oA]|refine wki ?_|refine vpd 32 [] ?_)
 refine vp_loop_inv (fun s=>s.tmp 0 = .sv (.sl T.length cs)/\s.tmp 5 = .ref 34 0 3 0 T.length/\s.obj 34 0=some ca /\
   ∃k:Nat,s.tmp 8 = .sv (.int .i64 (k:Int))/\k<=w/\((k=0/\s.tmp 6 = .nil/\s.gen 49=0)\/(0<k/\s.tmp 6 = .ref 49 0 3 0 k/\s.obj 49 0=some (rvsC ((colR T).take k)))))
  (fun s=>match s.tmp 8 with | .sv (.int _ i)=>w-i.toNat|_=>0) ⟨i0,i5,oA,0,rfl,by omega,.inl ⟨rfl,i6,ig6⟩⟩ ?_
 rintro s3 ⟨j0,j5,jA,k,j8,hk,hc⟩
 by_cases hend:k=w;rotate_left
 ·have hCol:=hcol k (by omega);have hSum:=ref17_Sum (hcrow k (by omega)) (by omega) (by omega) (by rw[xd];omega);rw[<- hcgd k (by omega),xd]at hSum;have hsn:=rvs_snoc (l:=colR T) (i:=k);have hrl:=rvsC_len ((colR T).take k);rw[xo,hlc,yO (by omega)]at hrl;generalize (colR T).getD k 0=x at *
  clear hcol hcrow hcgd;rcases hc with⟨h00,j6,jg⟩|⟨h00,j6,jP⟩
  ·subst h00;rw[yz,rvsC_nil,ze]at hsn;repeat (first|simp only[go_sem,j0,j5,jA,j8,j6,jg,a0,a0',hlen,N0]|simp (disch:=first|exact omg|fail) only[AX,j0,j5,jA,j8,j6,jg,a0,a0',hlen,N0]|refine wki ?_|refine vpd 32 [] ?_|refine vfa ?_)
   exact⟨⟨1,rfl,by omega,.inr ⟨by omega,rfl,hsn⟩⟩,by omega⟩
  ·unfold rvC at hsn;repeat (first|simp only[go_sem,j0,j5,jA,j8,j6,jP,a0,a0',hlen,N0,hrl]|simp (disch:=first|exact omg|fail) only[AX,j0,j5,jA,j8,j6,jP,a0,a0',hlen,N0,hrl]|refine wki ?_|refine vpd 32 [] ?_|refine vfa ?_)
   exact⟨⟨k+1,rfl,by omega,.inr ⟨by omega,rfl,hsn⟩⟩,by omega⟩
 subst hend;obtain⟨j6,jB⟩:s3.tmp 6 = .ref 49 0 3 0 k/\s3.obj 49 0=some (rvsC (colR T)):=by
  rcases hc with⟨h00,_⟩|⟨_,i5,iP⟩
  ·omega
  ·rw[xH (by omega)]at iP;exact⟨i5,iP⟩
 clear hc hcol hcrow hcgd;have hB:=rvsC_row _ hczz;generalize rvsC (colR T)=cb at *
 have hAl:=row_len hA;have hBl:=row_len hB;rw[hlr]at hAl;rw[hlc]at hBl;repeat (first|simp only[go_sem,j0,j5,jA,j8,j6,jB,a0,a0',hlen]|simp (disch:=first|exact omg|fail) only[AX,j0,j5,jA,j8,j6,jB,a0,a0',hlen]|refine wki ?_|refine vpd 32 [] ?_)
 rw[any_append'];by_cases hzA:(rowR T).any (fun x=>decide (x=0))=true
 ·rw[hzA,Bool.true_or,if_pos rfl];refine vp_loop_inv (fun s=>s.tmp 5 = .ref 34 0 3 0 T.length/\s.obj 34 0=some ca /\
    ∃i:Nat,s.tmp 9 = .sv (.int .i64 (i:Int))/\i<=T.length/\((rowR T).take i).any (fun x=>decide (x=0))=false)
   (fun s=>match s.tmp 9 with | .sv (.int _ i)=>T.length-i.toNat|_=>0) ⟨j5,jA,0,rfl,by omega,rfl⟩ ?_
  rintro s4 ⟨l5,lA,i,l9,hi,hb⟩
  by_cases hend:i=T.length
  ·rw[xH (by omega),hzA]at hb;cases hb
  ·obtain⟨s,n,d,rest,g1,hX⟩:=row_at (i:=i) hA (by omega);have zz:=ref2_Zero hX;have gor:=any_take (fun x:Rat=>decide (x=0)) (rowR T) 0 (i:=i);rw[hb,zE]at gor;generalize (rowR T).getD i 0=x at *
   clear hX hzA hA hB;by_cases hx:x=0
   ·rw[decide_eq_true hx]at zz;clear gor;repeat (first|simp only[go_sem,l5,lA,l9,g1,hAl]|simp (disch:=first|exact omg|fail) only[AX,l5,lA,l9,g1,hAl]|refine wki ?_|refine vpd 32 [] ?_|refine vfa ?_)
    rfl
   ·rw[decide_eq_false hx]at zz gor;repeat (first|simp only[go_sem,l5,lA,l9,g1,hAl]|simp (disch:=first|exact omg|fail) only[AX,l5,lA,l9,g1,hAl]|refine wki ?_|refine vpd 32 [] ?_|refine vfa ?_)
    exact⟨⟨i+1,rfl,by omega,gor⟩,by omega⟩
 have hnzA : ∀i,i<T.length->(rowR T).getD i 0≠0:=fun i hi e=>hzA (any_of_getD (fun x:Rat=>decide (x=0)) (rowR T) 0 (by omega) (decide_eq_true e))
 rw[Bool.eq_false_iff.2 hzA,zE];clear hzA;refine vp_loop_inv (fun s=>s.tmp 5 = .ref 34 0 3 0 T.length/\s.obj 34 0=some ca/\s.tmp 6 = .ref 49 0 3 0 k/\s.obj 49 0=some cb /\
   ∃i:Nat,s.tmp 9 = .sv (.int .i64 (i:Int))/\i<=T.length)
  (fun s=>match s.tmp 9 with | .sv (.int _ i)=>T.length-i.toNat|_=>0) ⟨j5,jA,j6,jB,0,rfl,by omega⟩ ?_
 rintro s4 ⟨l5,lA,l6,lB,i,l9,hi⟩
 by_cases hend:i=T.length;rotate_left
 ·obtain⟨s,n,d,rest,g1,hX⟩:=row_at (i:=i) hA (by omega);have zz:=ref2_Zero hX;have hx:=hnzA i (by omega);rw[decide_eq_false hx]at zz;clear hX hA hB hnzA hx;repeat (first|simp only[go_sem,l5,lA,l6,lB,l9,g1,hAl]|simp (disch:=first|exact omg|fail) only[AX,l5,lA,l6,lB,l9,g1,hAl]|refine wki ?_|refine vpd 32 [] ?_|refine vfa ?_)
  exact⟨⟨i+1,rfl,by omega⟩,by omega⟩
 subst hend;clear hnzA;repeat (first|simp only[go_sem,l5,lA,l6,lB,l9]|simp (disch:=first|exact omg|fail) only[AX,l5,lA,l6,lB,l9]|refine wki ?_|refine vpd 32 [] ?_)
 by_cases hzB:(colR T).any (fun x=>decide (x=0))=true
 ·rw[if_pos hzB];refine vp_loop_inv (fun s=>s.tmp 6 = .ref 49 0 3 0 k/\s.obj 49 0=some cb /\
    ∃i:Nat,s.tmp 10 = .sv (.int .i64 (i:Int))/\i<=k/\((colR T).take i).any (fun x=>decide (x=0))=false)
   (fun s=>match s.tmp 10 with | .sv (.int _ i)=>k-i.toNat|_=>0) ⟨l6,lB,0,rfl,by omega,rfl⟩ ?_
  rintro s5 ⟨m6,mB,i,m10,hi,hb⟩
  by_cases hend:i=k
  ·rw[xH (by omega),hzB]at hb;cases hb
  ·obtain⟨s,n,d,rest,g1,hX⟩:=row_at (i:=i) hB (by omega);have zz:=ref2_Zero hX;have gor:=any_take (fun x:Rat=>decide (x=0)) (colR T) 0 (i:=i);rw[hb,zE]at gor;generalize (colR T).getD i 0=x at *
   clear hX hzB hA hB;by_cases hx:x=0
   ·rw[decide_eq_true hx]at zz;clear gor;repeat (first|simp only[go_sem,m6,mB,m10,g1,hBl]|simp (disch:=first|exact omg|fail) only[AX,m6,mB,m10,g1,hBl]|refine wki ?_|refine vpd 32 [] ?_|refine vfa ?_)
    rfl
   ·rw[decide_eq_false hx]at zz gor;repeat (first|simp only[go_sem,m6,mB,m10,g1,hBl]|simp (disch:=first|exact omg|fail) only[AX,m6,mB,m10,g1,hBl]|refine wki ?_|refine vpd 32 [] ?_|refine vfa ?_)
    exact⟨⟨i+1,rfl,by omega,gor⟩,by omega⟩
 have hnzB : ∀i,i<k->(colR T).getD i 0≠0:=fun i hi e=>hzB (any_of_getD (fun x:Rat=>decide (x=0)) (colR T) 0 (by omega) (decide_eq_true e))
 rw[if_neg hzB];clear hzB;refine vp_loop_inv (fun s=>s.tmp 5 = .ref 34 0 3 0 T.length/\s.obj 34 0=some ca/\s.tmp 6 = .ref 49 0 3 0 k/\s.obj 49 0=some cb /\
   ∃i:Nat,s.tmp 10 = .sv (.int .i64 (i:Int))/\i<=k)
  (fun s=>match s.tmp 10 with | .sv (.int _ i)=>k-i.toNat|_=>0) ⟨l5,lA,l6,lB,0,rfl,by omega⟩ ?_
 rintro s5 ⟨m5,mA,m6,mB,i,m10,hi⟩
 by_cases hend:i=k;rotate_left
 ·obtain⟨s,n,d,rest,g1,hX⟩:=row_at (i:=i) hB (by omega);have zz:=ref2_Zero hX;have hx:=hnzB i (by omega);rw[decide_eq_false hx]at zz;clear hX hA hB hnzB hx;repeat (first|simp only[go_sem,m5,mA,m6,mB,m10,g1,hBl]|simp (disch:=first|exact omg|fail) only[AX,m5,mA,m6,mB,m10,g1,hBl]|refine wki ?_|refine vpd 32 [] ?_|refine vfa ?_)
  exact⟨⟨i+1,rfl,by omega⟩,by omega⟩
 subst hend;clear hnzB;have htA:ca.take (T.length*3)=ca:=xH (by omega);have hSum:=ref17_Sum hA;rw[hlr]at hSum;have zS:=sz_sum12 (by omega) hrz;have hXl:((rowR T).map fun x=>cellR T x).length=T.length:=by rw[xd];exact hlr
 have hXg : ∀i,i<T.length->((rowR T).map fun x=>cellR T x).take (i+1)=((rowR T).map fun x=>cellR T x).take i++[cellR T ((rowR T).getD i 0)]:=by
  intro i hi;rw[wC,yN,xD (by omega),xC,xD (by omega)];rfl
 have hXt:((rowR T).map fun x=>cellR T x).take T.length=(rowR T).map fun x=>cellR T x:=xH (by omega)
 have hcl : ∀x,(cellR T x).length=i:=fun x=>by unfold cellR;rw[xd];exact hlc
 have hcg : ∀x k,k<i->(cellR T x).getD k 0=x*(colR T).getD k 0/sumR (rowR T):=by
  intro x k hk;unfold cellR;rw[getD_map _ _]
 generalize hX:(rowR T).map (fun x=>cellR T x)=X at *
 have hzc : ∀k,k<i->szR ((colR T).getD k 0) 25:=fun k hk=>row_sz (by omega) hB _ (getD_mem)
 have hzr : ∀k,k<T.length->szR ((rowR T).getD k 0) 25:=fun k hk=>row_sz (by omega) hA _ (getD_mem)
 generalize hS0:sumR (rowR T)=S0 at *
 obtain⟨w',rfl⟩ : ∃w',w'=i:=⟨i,rfl⟩
 repeat (first|simp only[go_sem,m5,mA,m6,mB,m10,htA,xf,N0]|simp (disch:=first|exact omg|fail) only[AX,m5,mA,m6,mB,m10,htA,xf,N0]|refine wki ?_|refine vpd 32 [] ?_|refine vfa ?_)
 refine vp_loop_inv (fun s=>s.tmp 6 = .ref 49 0 3 0 w'/\s.obj 49 0=some cb/\s.tmp 11 = .ptr 11 (s5.gen 11) 0/\s.obj 11 (s5.gen 11)=some (rvC S0)/\s.tmp 5 = .sv (.sl T.length ca) /\
   ∃i:Nat,s.tmp 13 = .sv (.int .i64 (i:Int))/\i<=T.length/\((i=0/\s.tmp 12 = .nil)\/(0<i /\ ∃g,s.tmp 12 = .ref 103 g 1 0 i/\s.obj 103 g=some (tabsC (X.take i)))))
  (fun s=>match s.tmp 13 with | .sv (.int _ i)=>T.length-i.toNat|_=>0) ⟨?_,?_,?_,?_,?_,0,rfl,by omega,.inl ⟨rfl,?_⟩⟩ ?_
 ·simp only[go_sem,m6]
 ·simp only[go_sem,mB]
 ·simp only[go_sem]
 ·simp only[go_sem,rvC]
 ·simp only[go_sem,m5,htA,xf]
 ·simp only[go_sem]
 rintro s6 ⟨i6,oB,i11,oS,i5,i,i13,hi,h12⟩
 by_cases hend:i=T.length
 ·subst hend;rcases h12 with⟨h0,_⟩|⟨_,g,i12,oX⟩
  ·omega
  ·rw[hXt]at oX;repeat (first|simp only[go_sem,i6,oB,i11,oS,i5,i13,i12,oX]|simp (disch:=first|exact omg|fail) only[AX,i6,oB,i11,oS,i5,i13,i12,oX]|refine wki ?_|refine vpd 32 [] ?_)
   refine ro_ref (cs:=tabsC X) (by decide) ?_ ?_
   ·simp only[go_sem,oX]
   ·rw[xf,xu,xH (by rw[tabsC_len];omega),hXl]
 ·obtain⟨s,n,d,rest,g1,hXx⟩:=row_at (i:=i) hA (by omega);have hg:=hXg i (by omega);have hzx:=hzr i (by omega);generalize (rowR T).getD i 0=x at *
  have hll:=hcl x;have hlg:=hcg x;generalize cellR T x=l at *
  have hsnX:=tabsC_snoc (X.take i) l;rw[<- hg,hll]at hsnX;have hXil:=tabsC_len (X.take i);rw[xo,hXl,yO (by omega)]at hXil;repeat (first|simp only[go_sem,i6,oB,i11,oS,i5,i13]|simp (disch:=first|exact omg|fail) only[AX,i6,oB,i11,oS,i5,i13]|refine wki ?_|refine vpd 32 [] ?_)
  refine vp_loop_inv (fun s'=>s'.tmp 6 = .ref 49 0 3 0 w'/\s'.obj 49 0=some cb/\s'.tmp 11 = .ptr 11 (s5.gen 11) 0/\s'.obj 11 (s5.gen 11)=some (rvC S0)/\s'.tmp 5 = .sv (.sl T.length ca)/\s'.tmp 13 = .sv (.int .i64 (i:Int)) /\
    ((i=0/\s'.tmp 12 = .nil)\/(0<i /\ ∃g,s'.tmp 12 = .ref 103 g 1 0 i/\s'.obj 103 g=some (tabsC (X.take i)))) /\
    ∃k:Nat,s'.tmp 15 = .sv (.int .i64 (k:Int))/\k<=w'/\((k=0/\s'.tmp 14 = .nil)\/(0<k /\ ∃g,s'.tmp 14 = .ref 99 g 3 0 k/\s'.obj 99 g=some (rvsC (l.take k)))))
   (fun s=>match s.tmp 15 with | .sv (.int _ i)=>w'-i.toNat|_=>0) ⟨i6,oB,i11,oS,i5,i13,h12,0,rfl,by omega,.inl ⟨rfl,rfl⟩⟩ ?_
  rintro s7 ⟨j6,jB,j11,jS,j5,j13,j12,k,j15,hk,j14⟩
  by_cases hkend:k=w'
  ·subst hkend;rcases j14 with⟨h0,_⟩|⟨_,g,j14,jl⟩
   ·omega
   ·rw[xH (by omega)]at jl;have hrl:=rvsC_len l;have htl:(rvsC l).take (k*3)=rvsC l:=xH (by omega);rcases j12 with⟨hi0,j12⟩|⟨hi0,g',j12,jX⟩
    ·subst hi0;rw[yz]at hsnX;repeat (first|simp only[go_sem,j6,jB,j11,jS,j5,j13,j15,j14,jl,j12,htl,xf,N0]|simp (disch:=first|exact omg|fail) only[AX,j6,jB,j11,jS,j5,j13,j15,j14,jl,j12,htl,xf,N0]|refine wki ?_|refine vpd 32 [] ?_)
     exact⟨⟨1,rfl,by omega,.inr ⟨by omega,_,rfl,(if_pos rfl).trans (congrArg some hsnX).symm⟩⟩,by omega⟩
    ·repeat (first|simp only[go_sem,j6,jB,j11,jS,j5,j13,j15,j14,jl,j12,jX,htl,xf,N0,hXil]|simp (disch:=first|exact omg|fail) only[AX,j6,jB,j11,jS,j5,j13,j15,j14,jl,j12,jX,htl,xf,N0,hXil]|refine wki ?_|refine vpd 32 [] ?_)
     exact⟨⟨i+1,rfl,by omega,.inr ⟨by omega,_,rfl,(if_pos rfl).trans (congrArg some hsnX).symm⟩⟩,by omega⟩
  ·obtain⟨s',n',d',rest',g2,hY⟩:=row_at (i:=k) hB (by omega);have hzy:=hzc k (by omega);have hgk:=hlg k (by omega);generalize (colR T).getD k 0=y at *
   have m1:=ref2_Mul hXx hY;have o1:=ref19_by (RatA_rv (szR_mul hzx hzy)) (RatA_rv zS);have hsn:=rvs_snoc (l:=l) (i:=k);rw[hgk]at hsn;generalize x*y/S0=q at *
   have hrl:=rvsC_len (l.take k);rw[xo,hll,yO (by omega)]at hrl;rcases j14 with⟨hk0,j14⟩|⟨hk0,g,j14,jl⟩
   ·subst hk0;rw[yz,rvsC_nil,ze]at hsn;rw[zM,xf]at g2;repeat (first|simp only[go_sem,j6,jB,j11,jS,j5,j13,j15,j14,g1,g2,hAl,hBl,rvC,N0]|simp (disch:=first|exact omg|fail) only[AX,j6,jB,j11,jS,j5,j13,j15,j14,g1,g2,hAl,hBl,rvC,N0]|refine wki ?_|refine vpd 32 [] ?_|refine vfa ?_)
    exact⟨⟨j12,1,rfl,by omega,.inr ⟨by omega,_,rfl,(if_pos rfl).trans (congrArg some hsn)⟩⟩,by omega⟩
   ·unfold rvC at hsn;rcases j12 with⟨hi0,j12⟩|⟨hi0,g',j12,jX⟩
    ·repeat (first|simp only[go_sem,j6,jB,j11,jS,j5,j13,j15,j14,jl,g1,g2,hAl,hBl,rvC,j12]|simp (disch:=first|exact omg|fail) only[AX,j6,jB,j11,jS,j5,j13,j15,j14,jl,g1,g2,hAl,hBl,rvC,j12]|refine wki ?_|refine vpd 32 [] ?_)
     repeat (first|simp only[go_sem,j6,jB,j11,jS,j5,j13,j15,j14,jl,g1,g2,hAl,hBl,rvC,j12,N0,hrl]|simp (disch:=first|exact omg|fail) only[AX,j6,jB,j11,jS,j5,j13,j15,j14,jl,g1,g2,hAl,hBl,rvC,j12,N0,hrl]|refine wki ?_|refine vpd 32 [] ?_|refine vfa ?_)
     refine⟨⟨?_,k+1,rfl,by omega,.inr ⟨by omega,_,rfl,(if_pos rfl).trans (congrArg some hsn)⟩⟩,by omega⟩;first|exact .inl ⟨hi0,rfl⟩|exact .inl hi0|simp[hi0]
    ·repeat (first|simp only[go_sem,j6,jB,j11,jS,j5,j13,j15,j14,jl,g1,g2,hAl,hBl,rvC,j12]|simp (disch:=first|exact omg|fail) only[AX,j6,jB,j11,jS,j5,j13,j15,j14,jl,g1,g2,hAl,hBl,rvC,j12]|refine wki ?_|refine vpd 32 [] ?_)
     repeat (first|simp only[go_sem,j6,jB,j11,jS,j5,j13,j15,j14,jl,g1,g2,hAl,hBl,rvC,j12,N0,hrl]|simp (disch:=first|exact omg|fail) only[AX,j6,jB,j11,jS,j5,j13,j15,j14,jl,g1,g2,hAl,hBl,rvC,j12,N0,hrl]|refine wki ?_|refine vpd 32 [] ?_|refine vfa ?_)
     refine⟨⟨?_,k+1,rfl,by omega,.inr ⟨by omega,_,rfl,(if_pos rfl).trans (congrArg some hsn)⟩⟩,by omega⟩;exact .inr ⟨hi0,_,rfl,jX⟩
end Go.Proofs.YtfknkoeagjonbaaGreat
namespace Go.Proofs.YtfknkoeagjonbaaGreat
open Go.Ev
def bigT (xs ys:List InR) (mu sg:InR) (ts:List (List InR)) (n:Int):Bool:=
 (bigR xs||(bigR ys||bigR [mu,sg]))||(decide (4<ts.length)||((decide (8<n)&&decide (n<=256))||ts.any (fun ps=>decide (4<ps.length)||bigR ps)))
section
variable {xs ys:List InR} {sm ss:Bool} {nm dm ns ds:List Nat} {ts:List (List InR)} {kind k n:Int}
theorem law19_large (hx:xs.length<=maxLen) (hy:ys.length<=maxLen) (ht:ts.length<=maxLen) (hts : ∀ps∈ts,ps.length<=maxLen) (hn : -9223372036854775808<=n/\n<9223372036854775808) :
  Go.Ev.Fn CX 13 [testV kind (rowV xs) (rowV ys) (.sl ts.length (ts.map rowV)) sm nm dm ss ns ds k n] (.bool (bigT xs ys (sm,nm,dm) (ss,ns,ds) ts n)):=by
 have hm:maxLen=9223372036854775807:=by decide
 rw[hm]at hx hy ht hts;have m1:Go.Ev.Fn CX 47 [.sl 3 [.sl xs.length (ratsC xs),.sl ys.length (ratsC ys),.sl 2 [.bool sm,natV nm,natV dm,.bool ss,natV ns,natV ds]]] (.bool (bigR xs||(bigR ys||bigR [(sm,nm,dm),(ss,ns,ds)]))):=by
  have h:=law19_much (rows:=[xs,ys,[(sm,nm,dm),(ss,ns,ds)]]) (by simp) (by
   intro q hq;simp only[wq,List.not_mem_nil,or_false]at hq;rcases hq with rfl|rfl|rfl
   ·exact hx
   ·exact hy
   ·simp)
  rw[show [xs,ys,[(sm,nm,dm),(ss,ns,ds)]].any bigR=(bigR xs||(bigR ys||bigR [(sm,nm,dm),(ss,ns,ds)])) by simp[List.any_cons]]at h;exact h
 unfold bigT;show Go.Ev.Fn CX 13 [testV kind (.sl xs.length (ratsC xs)) (.sl ys.length (ratsC ys)) (.sl ts.length (ts.map rowV)) sm nm dm ss ns ds k n] _;cases hb:(bigR xs||(bigR ys||bigR [(sm,nm,dm),(ss,ns,ds)]))
 rotate_left
 ·rw[Bool.true_or];rw[hb]at m1;clear hts;generalize hc:ts.map rowV=tc at *
  generalize ratsC xs=xc at *
  generalize ratsC ys=yc at *
  clear hb hc;refine fni Tryz.f13 ?_;unfold Tryz.f13;repeat (first|simp only[go_sem]|simp (disch:=first|exact omg|fail) only[AX]|refine wki ?_|refine vfa ?_)
 rw[zE];rw[hb]at m1;clear hb;have hlen:(ts.map rowV).length=ts.length:=xd _;have hat:=fun {i:Nat} (h:i<ts.length)=>tab_at h
 generalize hc:ts.map rowV=tc at *
 generalize ratsC xs=xc at *
 generalize ratsC ys=yc at *
 clear hc;by_cases c1:4<ts.length
 ·rw[decide_eq_true c1,Bool.true_or];clear hat hts;refine fni Tryz.f13 ?_;unfold Tryz.f13;repeat (first|simp only[go_sem]|simp (disch:=first|exact omg|fail) only[AX]|refine wki ?_|refine vfa ?_)
 rw[decide_eq_false c1,zE];by_cases c2:8<n/\n<=256
 ·rw[decide_eq_true c2.1,decide_eq_true c2.2,yL,Bool.true_or];obtain⟨c2,c3⟩:=c2;clear hat hts;refine fni Tryz.f13 ?_;unfold Tryz.f13;repeat (first|simp only[go_sem]|simp (disch:=first|exact omg|fail) only[AX]|refine wki ?_|refine vfa ?_)
 have c2':(decide (8<n)&&decide (n<=256))=false:=by rw[<- Bool.decide_and];exact decide_eq_false c2
 rw[c2',zE];have hps : ∀i,i<ts.length->(ts.getD i []).length<=9223372036854775807:=by
  intro i h;refine hts _ ?_;rw[xC,xD h];exact yQ h
 have mone : ∀ps:List InR,ps.length<=9223372036854775807->Go.Ev.Fn CX 47 [.sl 1 [.sl ps.length (ratsC ps)]] (.bool (bigR ps)):=by
  intro ps hp;have h:=law19_much (rows:=[ps]) (by simp) (by
   intro q hq;simp only[wq,List.not_mem_nil,or_false]at hq;rcases hq with rfl
   exact hp)
  rw[show [ps].any bigR=bigR ps by simp[List.any_cons]]at h;exact h
 have loop : ∀ (st:St),st.tmp 1 = .ptr 1 0 0->st.obj 1 0=some [.int .i64 kind,.sl xs.length xc,.sl ys.length yc,.sl ts.length tc,.bool sm,natV nm,natV dm,.bool ss,natV ns,natV ds,.int .i64 k,.int .i64 n]->True:=fun _ _ _=>trivial
 clear loop;have go:(8<n/\256<n)\/n<=8:=by omega
 clear c2 c2' hts;rcases go with⟨n1,n2⟩|n1
 ·refine fni Tryz.f13 ?_;unfold Tryz.f13;repeat (first|simp only[go_sem]|simp (disch:=first|exact omg|fail) only[AX]|refine wki ?_|refine vfa ?_)
  refine vp_loop_inv (fun s=>s.tmp 1 = .ptr 1 0 0/\s.obj 1 0=some [.int .i64 kind,.sl xs.length xc,.sl ys.length yc,.sl ts.length tc,.bool sm,natV nm,natV dm,.bool ss,natV ns,natV ds,.int .i64 k,.int .i64 n] /\
    ∃i:Nat,s.tmp 3 = .sv (.int .i64 (i:Int))/\i<=ts.length/\(ts.take i).any (fun ps=>decide (4<ps.length)||bigR ps)=false)
   (fun s=>match s.tmp 3 with | .sv (.int _ i)=>ts.length-i.toNat|_=>0) ⟨rfl,rfl,0,rfl,by omega,rfl⟩ ?_
  rintro s2 ⟨i1,o1,i,i3,hi,hb⟩
  by_cases hend:i=ts.length
  ·subst hend;rw[yV]at hb;rw[hb];repeat (first|simp only[go_sem,i1,o1,i3]|simp (disch:=first|exact omg|fail) only[AX,i1,o1,i3]|refine wki ?_)
  ·have h1:=hat (i:=i) (by omega);have h2:=hps i (by omega);have hm1:=mone _ h2;have hor:=any_take (fun ps:List InR=>decide (4<ps.length)||bigR ps) ts [] (i:=i);have htr:=any_of_getD (fun ps:List InR=>decide (4<ps.length)||bigR ps) ts [] (i:=i) (by omega);rw[hb,zE]at hor;generalize ts.getD i []=ps at *
   clear hat hps mone;by_cases h4:4<ps.length
   ·rw[htr (by simp[h4])];clear hor htr;repeat (first|simp only[go_sem,i1,o1,i3,h1,hlen]|simp (disch:=first|exact omg|fail) only[AX,i1,o1,i3,h1,hlen]|refine wki ?_)
   ·cases hbg:bigR ps
    ·rw[hbg]at hm1 hor;rw[decide_eq_false h4]at hor;clear htr;repeat (first|simp only[go_sem,i1,o1,i3,h1,hlen]|simp (disch:=first|exact omg|fail) only[AX,i1,o1,i3,h1,hlen]|refine wki ?_|refine vfa ?_)
     exact⟨⟨i+1,rfl,by omega,hor⟩,by omega⟩
    ·rw[hbg]at hm1;rw[htr (by rw[hbg,Bool.or_true])];clear hor htr;repeat (first|simp only[go_sem,i1,o1,i3,h1,hlen]|simp (disch:=first|exact omg|fail) only[AX,i1,o1,i3,h1,hlen]|refine wki ?_|refine vfa ?_)
 ·refine fni Tryz.f13 ?_;unfold Tryz.f13;repeat (first|simp only[go_sem]|simp (disch:=first|exact omg|fail) only[AX]|refine wki ?_|refine vfa ?_)
  refine vp_loop_inv (fun s=>s.tmp 1 = .ptr 1 0 0/\s.obj 1 0=some [.int .i64 kind,.sl xs.length xc,.sl ys.length yc,.sl ts.length tc,.bool sm,natV nm,natV dm,.bool ss,natV ns,natV ds,.int .i64 k,.int .i64 n] /\
    ∃i:Nat,s.tmp 3 = .sv (.int .i64 (i:Int))/\i<=ts.length/\(ts.take i).any (fun ps=>decide (4<ps.length)||bigR ps)=false)
   (fun s=>match s.tmp 3 with | .sv (.int _ i)=>ts.length-i.toNat|_=>0) ⟨rfl,rfl,0,rfl,by omega,rfl⟩ ?_
  rintro s2 ⟨i1,o1,i,i3,hi,hb⟩
  by_cases hend:i=ts.length
  ·subst hend;rw[yV]at hb;rw[hb];repeat (first|simp only[go_sem,i1,o1,i3]|simp (disch:=first|exact omg|fail) only[AX,i1,o1,i3]|refine wki ?_)
  ·have h1:=hat (i:=i) (by omega);have h2:=hps i (by omega);have hm1:=mone _ h2;have hor:=any_take (fun ps:List InR=>decide (4<ps.length)||bigR ps) ts [] (i:=i);have htr:=any_of_getD (fun ps:List InR=>decide (4<ps.length)||bigR ps) ts [] (i:=i) (by omega);rw[hb,zE]at hor;generalize ts.getD i []=ps at *
   clear hat hps mone;by_cases h4:4<ps.length
   ·rw[htr (by simp[h4])];clear hor htr;repeat (first|simp only[go_sem,i1,o1,i3,h1,hlen]|simp (disch:=first|exact omg|fail) only[AX,i1,o1,i3,h1,hlen]|refine wki ?_)
   ·cases hbg:bigR ps
    ·rw[hbg]at hm1 hor;rw[decide_eq_false h4]at hor;clear htr;repeat (first|simp only[go_sem,i1,o1,i3,h1,hlen]|simp (disch:=first|exact omg|fail) only[AX,i1,o1,i3,h1,hlen]|refine wki ?_|refine vfa ?_)
     exact⟨⟨i+1,rfl,by omega,hor⟩,by omega⟩
    ·rw[hbg]at hm1;rw[htr (by rw[hbg,Bool.or_true])];clear hor htr;repeat (first|simp only[go_sem,i1,o1,i3,h1,hlen]|simp (disch:=first|exact omg|fail) only[AX,i1,o1,i3,h1,hlen]|refine wki ?_|refine vfa ?_)
end
end Go.Proofs.YtfknkoeagjonbaaGreat
namespace Go.Proofs.YtfknkoeagjonbaaGreat
open Go.Ev
theorem sumR_mulR (x S:Rat) (l:List Rat):sumR (l.map fun y=>x*y/S)=x*sumR l/S:=by
 rw[show (fun y=>x*y/S)=fun y=>(x*S⁻¹)*y by funext y;rw[xv];grind,sumR_scale,xv];grind
theorem sumR_add2 {α:Type} (l:List α) (f g:α->Rat):sumR (l.map fun k=>f k+g k)=sumR (l.map f)+sumR (l.map g):=by
 induction l with
 |nil=>simp only[wg,sumR_nil];grind
 |cons x l ih=>simp only[zD,sumR_cons,ih];grind
theorem range_getD (r:List Rat) {w:Nat} (h:r.length=w):(List.range w).map (fun k=>r.getD k 0)=r:=by
 subst h;refine List.ext_getElem (by simp) fun j h1 h2 => ?_
 rw[we,List.getElem_range,xC,xD h2];rfl
theorem sum_cols {T:List (List Rat)} {w:Nat} (hw : ∀i,i<T.length->(T.getD i []).length=w) : ∀i,i<=T.length->sumR ((List.range w).map fun k=>colS T i k)=sumR ((T.take i).map sumR):=by
 intro i;induction i with
 |zero=>
  intro _;rw[yz,wg,sumR_nil];have : ∀l:List Nat,sumR (l.map fun k=>colS T 0 k)=0:=by
   intro l;induction l with
   |nil=>rfl
   |cons x l ih=>rw[zD,sumR_cons,ih,colS_zero];grind
  exact this _
 |succ i ih=>
  intro hi;rw[show (fun k=>colS T (i+1) k)=fun k=>colS T i k+(T.getD i []).getD k 0 by funext k;exact colS_step T k,sumR_add2,ih (by omega),range_getD _ (hw i (by omega))];have e:T.take (i+1)=T.take i++[T.getD i []]:=by
   rw[wC,xC,xD (by omega)];rfl
  rw[e,wl];exact(sumR_snoc _ _).symm
theorem sumR_pos : ∀ {l:List Rat},(∀x∈l,0<x)->l≠[]->0<sumR l
 | [],_,h=>absurd rfl h
 | [x],h,_=>by rw[sumR_cons,sumR_nil];have:=h x (by simp);grind
 |x::y::l,h,_=>by
  rw[sumR_cons];have h1:=h x (by simp);have h2:=sumR_pos (l:=y::l) (fun z hz=>h z (yB _ hz)) (by simp);grind
theorem sumR_nonneg : ∀ {l:List Rat},(∀x∈l,0<=x)->0<=sumR l
 | [],_=>by rw[sumR_nil];exact xi
 |x::l,h=>by
  rw[sumR_cons];have h1:=h x (by simp);have h2:=sumR_nonneg (l:=l) fun z hz=>h z (yB _ hz)
  grind
theorem expR_sums {T:List (List Rat)} (he:(expR T).2=0):(expR T).1.length=T.length /\ ∀i,i<T.length->((expR T).1.getD i []).length=(T.getD i []).length/\sumR ((expR T).1.getD i [])=sumR (T.getD i []):=by
 unfold expR at he ⊢;by_cases h1:tabE T≠0
 ·rw[if_pos h1]at he;exact absurd he h1
 rw[if_neg h1]at he ⊢;by_cases h2:(rowR T++colR T).any (fun x=>decide (x=0))=true
 ·rw[if_pos h2]at he;cases he
 rw[if_neg h2];have h0:tabE T=0:=by omega
 unfold tabE at h0;by_cases c1:T.length<2\/(T.getD 0 []).length<2
 ·rw[if_pos c1]at h0;cases h0
 rw[if_neg c1]at h0;by_cases c3:T.any (fun r=>decide (r.length≠(T.getD 0 []).length))=true
 ·rw[if_pos c3]at h0;cases h0
 rw[if_neg c3]at h0;by_cases c4:T.any (fun r=>r.any fun x=>decide (x<0))=true
 ·rw[if_pos c4]at h0;cases h0
 have hw : ∀r∈T,r.length=(T.getD 0 []).length:=by
  intro r hr;by_cases e:r.length=(T.getD 0 []).length
  ·exact e
  ·exact absurd (wG.2 ⟨r,hr,decide_eq_true e⟩) c3
 have hnn : ∀r∈T,∀x∈r,0<=x:=by
  intro r hr x hx;by_cases e:x<0
  ·exact absurd (wG.2 ⟨r,hr,wG.2 ⟨x,hx,decide_eq_true e⟩⟩) c4
  ·grind
 have hne : ∀r∈T,sumR r≠0:=by
  intro r hr e;exact h2 (wG.2 ⟨sumR r,wE _ (yv.2 ⟨r,hr,rfl⟩),decide_eq_true e⟩)
 have hpos:0<sumR (rowR T):=by
  refine sumR_pos ?_ ?_
  ·intro x hx;obtain⟨r,hr,rfl⟩:=yv.1 hx;have a:=sumR_nonneg (hnn r hr);have b:=hne r hr;grind
  ·intro e;have:(rowR T).length=0:=by rw[e];rfl
   unfold rowR at this;rw[xd]at this;omega
 have hSS:sumR (colR T)=sumR (rowR T):=by
  have hwi : ∀i,i<T.length->(T.getD i []).length=(T.getD 0 []).length:=by
   intro i hi;refine hw _ ?_;rw[xC,xD hi];exact yQ hi
  have:=sum_cols hwi T.length (xU _);rw[yV]at this;exact this
 refine⟨by rw[xd];simp[rowR],fun i hi => ?_⟩;have hm:T.getD i []∈T:=by
  rw[xC,xD hi];exact yQ hi
 have hX:((rowR T).map fun x=>(colR T).map fun y=>x*y/sumR (rowR T)).getD i []=(colR T).map fun y=>sumR (T.getD i [])*y/sumR (rowR T):=by
  unfold rowR;rw[xC,yN,yN,xC,xD hi];rfl
 rw[hX];refine⟨by rw[xd,hw _ hm];simp[colR],?_⟩;rw[sumR_mulR,hSS];exact Rat.mul_div_cancel (fun e=>by rw[e]at hpos;exact absurd hpos (Rat.lt_irrefl))
end Go.Proofs.YtfknkoeagjonbaaGreat
namespace Go.Proofs.YtfknkoeagjonbaaGreat
open Go.Ev
def tabQ (ts:List (List InR)):List (List Rat):=ts.map fun ps=>ps.map InR.q
theorem tabQ_len (ts:List (List InR)):(tabQ ts).length=ts.length:=xd _
theorem tabQ_tab {L:Nat} : ∀ts:List (List InR),(∀ps∈ts,∀p∈ps,p.ok/\p.2.1.length<=L/\p.2.2.length<=L)->TabC (ts.map rowV) (tabQ ts) L
 | [],_=>rfl
 |ps::ts,h=>by
  refine⟨ratsC ps,ts.map rowV,?_,ratsC_row ps (h ps yF),tabQ_tab ts fun x hx=>h x (yB _ hx)⟩;show SV.sl ps.length (ratsC ps)::_=SV.sl (List.map InR.q ps).length (ratsC ps)::_;rw[xd]
theorem bigT_small {xs ys:List InR} {mu sg:InR} {ts:List (List InR)} {n:Int} (h:bigT xs ys mu sg ts n=false) :
  bigR xs=false/\bigR ys=false/\bigR [mu,sg]=false/\ts.length<=4/\(n<=8\/256<n) /\ ∀ps∈ts,ps.length<=4/\bigR ps=false:=by
 unfold bigT at h;simp only[wY,Bool.and_eq_false_iff,decide_eq_false_iff_not]at h;obtain⟨⟨h1,h2,h3⟩,h4,h5,h6⟩:=h;refine⟨h1,h2,h3,by omega,by omega,fun ps hp => ?_⟩;have:=List.any_eq_false.1 h6 ps hp;simp only[Bool.or_eq_true,decide_eq_true_eq,not_or]at this;exact⟨by omega,Bool.eq_false_iff.2 this.2⟩
theorem tabQ_small {ts:List (List InR)} (hok : ∀ps∈ts,∀p∈ps,p.ok) (h : ∀ps∈ts,ps.length<=4/\bigR ps=false):TabC (ts.map rowV) (tabQ ts) 1 /\ ∀r∈tabQ ts,r.length<=4:=by
 refine⟨tabQ_tab ts fun ps hps p hp=>⟨hok ps hps p hp,(bigR_small (h ps hps).2).2 p hp⟩,fun r hr => ?_⟩;obtain⟨ps,hps,rfl⟩:=yv.1 hr;rw[xd];exact(h ps hps).1
theorem expR_sz {cs:List SV} {T:List (List Rat)} (h:TabC cs T 1) (hn:T.length<=4) (hl : ∀r∈T,r.length<=4) : ∀r∈(expR T).1,∀x∈r,szR x 400:=by
 have hz:=tab_szall (by omega) h;intro r hr x hx;unfold expR at hr;split at hr
 ·cases hr
 split at hr
 ·cases hr
 obtain⟨a,ha,rfl⟩:=yv.1 hr;obtain⟨b,hb,rfl⟩:=yv.1 hx;have zS:=sz_sum12 (L:=25) (by omega) (rowR_sz hz hl) (by rw[rowR_len];omega);exact szR_mono (szR_div (szR_mul (rowR_sz hz hl _ ha) (colR_sz hz hn _ hb)) zS)
theorem tabsC_at (X:List (List Rat)) {i:Nat} (h:i<X.length):((tabsC X).drop i).head?=some (.sl (X.getD i []).length (rvsC (X.getD i []))):=by
 rw[List.head?_drop,tabsC,yN,xC,xD h];rfl
section
variable {cs:List SV} {n:Nat}
end
end Go.Proofs.YtfknkoeagjonbaaGreat
namespace Go.Proofs.YtfknkoeagjonbaaGreat
open Go.Ev
theorem ref17_by {v:SV} {q:Rat} {n:Int} {L:Nat} (hv:RatA v q L) (hL:1<=L:=by omega) (hL2:L<=1000000:=by omega) (hn : -9223372036854775808<=n/\n<9223372036854775808:=by omega) :
  Go.Ev.Fn CX 293 [v,.int .i64 n] (rv (q/(n:Rat))):=by
 have r:=ref2_Int n hn;have d:=ref2_Div hv (RatA_rv (int_szR (n:=n))) hL;generalize decide ((n:Rat)≠0)=b at *
 obtain⟨s,y,d',rfl,-⟩:=hv;refine fni Tryz.f293 ?_;unfold Tryz.f293;repeat (first|simp only[go_sem]|simp (disch:=first|exact omg|fail) only[AX]|refine wki ?_|refine vpd 1 [] ?_|refine vfa ?_)
theorem ref17_Mean {cs:List SV} {l:List Rat} {L:Nat} (h:RowC cs l L) (hL:1<=L) (hL2:L<=10000) (hl:l.length<=12) :
  Go.Ev.Fn CX 242 [.sl l.length cs] (if l.length=0 then numE 0 5 else numE (meanR l) 0):=by
 have r0:=ref2_Int 0;by_cases h0:l.length=0
 ·rw[if_pos h0];refine fni Tryz.f242 ?_;unfold Tryz.f242;repeat (first|simp only[go_sem]|simp (disch:=first|exact omg|fail) only[AX]|refine wki ?_|refine vfa ?_)
  rfl
 ·rw[if_neg h0];have s1:=ref17_Sum h hL (by omega) hl;have b1:=ref17_by (n:=(l.length:Int)) (RatA_rv (sz_sum12 hL (row_sz hL h) hl));rw[show sumR l/((l.length:Int):Rat)=meanR l from rfl]at b1;clear h;refine fni Tryz.f242 ?_;unfold Tryz.f242;repeat (first|simp only[go_sem]|simp (disch:=first|exact omg|fail) only[AX]|refine wki ?_|refine vfa ?_)
theorem ref17_power {q:Rat} {L:Nat} (hq:szR q L) (hL:1<=L:=by omega) (hL2:L<=1000000:=by omega):Go.Ev.Fn CX 294 [rv q,.int .i64 2] (rv (q*q)):=by
 have r1:=ref2_Int 1;have m1:=ref2_Mul (RatA_rv (int_szR (n:=1))) (RatA_rv hq) (by omega) hL;rw[show ((1:Int):Rat)*q=q by show (1:Rat)*q=q;exact yK q]at m1;have m2:=ref2_Mul (RatA_rv hq) (RatA_rv hq) hL hL;refine fni Tryz.f294 ?_;unfold Tryz.f294;repeat (first|simp only[go_sem]|simp (disch:=first|exact omg|fail) only[AX]|refine wki ?_|refine vfa ?_)
 refine vp_loop_inv (fun s=>s.tmp 1 = .sv (.int .i64 2)/\s.tmp 2 = .ptr 2 0 0/\s.obj 2 0=some (rvC q)/\s.tmp 4 = .ptr 4 0 0/\s.obj 4 0=some [.bool false,.sl 0 [],.sl 0 []]/\s.tmp 5 = .ptr 5 0 0 /\
   ((s.tmp 6 = .sv (.int .i64 0)/\s.obj 5 0=some (rvC ((1:Int):Rat)))\/(s.tmp 6 = .sv (.int .i64 1)/\s.obj 5 0=some (rvC q))\/(s.tmp 6 = .sv (.int .i64 2)/\s.obj 5 0=some (rvC (q*q)))))
  (fun s=>match s.tmp 6 with | .sv (.int _ i)=>2-i.toNat|_=>0) ⟨rfl,rfl,rfl,rfl,rfl,rfl,.inl ⟨rfl,rfl⟩⟩ ?_
 rintro s2 ⟨i1,i2,o2,i4,o4,i5,h6⟩
 rcases h6 with⟨i6,o5⟩|⟨i6,o5⟩|⟨i6,o5⟩
 ·repeat (first|simp only[go_sem,i1,i2,o2,i4,o4,i5,i6,o5,rvC]|simp (disch:=first|exact omg|fail) only[AX,i1,i2,o2,i4,o4,i5,i6,o5,rvC]|refine wki ?_)
  refine vfa ?_;repeat (first|simp only[go_sem,i1,i2,o2,i4,o4,i5,i6,o5,rvC]|simp (disch:=first|exact omg|fail) only[AX,i1,i2,o2,i4,o4,i5,i6,o5,rvC]|refine wki ?_)
  exact⟨.inr (.inl rfl),by omega⟩
 ·repeat (first|simp only[go_sem,i1,i2,o2,i4,o4,i5,i6,o5,rvC]|simp (disch:=first|exact omg|fail) only[AX,i1,i2,o2,i4,o4,i5,i6,o5,rvC]|refine wki ?_)
  refine vfa ?_;repeat (first|simp only[go_sem,i1,i2,o2,i4,o4,i5,i6,o5,rvC]|simp (disch:=first|exact omg|fail) only[AX,i1,i2,o2,i4,o4,i5,i6,o5,rvC]|refine wki ?_)
  exact⟨.inr (.inr rfl),by omega⟩
 ·repeat (first|simp only[go_sem,i1,i2,o2,i4,o4,i5,i6,o5,rvC]|simp (disch:=first|exact omg|fail) only[AX,i1,i2,o2,i4,o4,i5,i6,o5,rvC]|refine wki ?_)
theorem ref17_Off {cs:List SV} {l:List Rat} {L:Nat} (h:RowC cs l L) (hL:1<=L) (hL2:L<=1000) (hl:l.length<=12) (h0:1<=l.length:=by omega) :
  Go.Ev.Fn CX 245 [.sl l.length cs,.int .i64 2] (rv (sqR l)):=by
 have r0:=ref2_Int 0;have m1:=ref17_Mean h hL (by omega) hl;rw[if_neg (by omega)]at m1;have hz:=row_sz hL h;have zm:=sz_mean hL hz hl;have zo:=sz_off hL hz hl;have hlen:=row_len h;have zs:=fun i=>sz_take12 (by omega) (sz_map (f:=fun x=>x*x) zo (fun x hx=>szR_mul hx hx)) (by rw[xd];unfold offR;rw[xd];omega) i
 have hst:=fun {i:Nat} (hi:i<l.length)=>sumR_take ((offR l).map fun x=>x*x) (i:=i) (by rw[xd];unfold offR;rw[xd];omega)
 have hgd : ∀ {i:Nat},i<l.length->((offR l).map fun x=>x*x).getD i 0=(l.getD i 0-meanR l)*(l.getD i 0-meanR l):=by
  intro i hi;rw[getD_map (offR l) (fun x=>x*x) (by unfold offR;rw[xd];omega)];unfold offR;rw[getD_map l _ hi]
 have hall:sumR (((offR l).map fun x=>x*x).take l.length)=sqR l:=by rw[xH (by rw[xd];unfold offR;rw[xd];omega)];rfl
 have hsum0:sumR (((offR l).map fun x=>x*x).take 0)=0:=rfl;generalize hS:(fun i=>sumR (((offR l).map fun x=>x*x).take i))=S at *
 have hSi : ∀i,sumR (((offR l).map fun x=>x*x).take i)=S i:=fun i=>by rw[<- hS]
 simp only[hSi]at zs hst hall hsum0;generalize sqR l=q at *
 refine fni Tryz.f245 ?_;unfold Tryz.f245;repeat (first|simp only[go_sem]|simp (disch:=first|exact omg|fail) only[AX]|refine wki ?_|refine vpd 6 [] ?_|refine vfa ?_)
 refine vp_loop_inv (fun s=>s.tmp 0 = .sv (.sl l.length cs)/\s.tmp 1 = .sv (.int .i64 2)/\s.tmp 4 = .ptr 4 0 0/\s.obj 4 0=some [.bool false,.sl 0 [],.sl 0 []]/\s.tmp 5 = .ptr 5 0 0/\s.obj 5 0=some (rvC (meanR l))/\s.tmp 7 = .ptr 7 0 0 /\
   ∃i:Nat,s.tmp 8 = .sv (.int .i64 (i:Int))/\i<=l.length/\s.obj 7 0=some (rvC (S i)))
  (fun s=>match s.tmp 8 with | .sv (.int _ i)=>l.length-i.toNat|_=>0) ⟨rfl,rfl,rfl,rfl,rfl,rfl,rfl,0,rfl,by omega,by rw[hsum0];rfl⟩ ?_
 rintro s2 ⟨i0,i1,i4,o4,i5,o5,i7,i,i8,hi,iP⟩
 by_cases hend:i=l.length
 ·subst hend;rw[hall]at iP;repeat (first|simp only[go_sem,i0,i1,i4,o4,i5,o5,i7,i8,iP,rvC]|simp (disch:=first|exact omg|fail) only[AX,i0,i1,i4,o4,i5,o5,i7,i8,iP,rvC]|refine wki ?_|refine vpd 6 [] ?_)
 ·obtain⟨s,n,d,rest,hat,hA⟩:=row_at (i:=i) h (by omega);have e1:=hst (i:=i) (by omega);rw[hgd (by omega)]at e1;have a:=ref2_Sub hA (RatA_rv zm) hL;have zx:=szR_sub (szR_of hA hL) zm hL;have pw:=ref17_power zx;have a2:=ref2_Add (RatA_rv (zs i)) (RatA_rv (szR_mul zx zx));rw[<- e1]at a2;generalize l.getD i 0-meanR l=x at *
  clear hz zm zo h hA hst hgd hall hsum0 e1 zx;repeat (first|simp only[go_sem,i0,i1,i4,o4,i5,o5,i7,i8,iP,rvC,hat,hlen]|simp (disch:=first|exact omg|fail) only[AX,i0,i1,i4,o4,i5,o5,i7,i8,iP,rvC,hat,hlen]|refine wki ?_|refine vpd 6 [] ?_|refine vfa ?_)
  exact⟨⟨i+1,rfl,by omega,rfl⟩,by omega⟩
theorem ref17_Variance {cs:List SV} {l:List Rat} {L:Nat} (h:RowC cs l L) (hL:1<=L) (hL2:L<=1000) (hl:l.length<=12) :
  Go.Ev.Fn CX 244 [.sl l.length cs] (if l.length<2 then numE 0 5 else numE (varR l) 0):=by
 have r0:=ref2_Int 0;by_cases h0:l.length<2
 ·rw[if_pos h0];refine fni Tryz.f244 ?_;unfold Tryz.f244;repeat (first|simp only[go_sem]|simp (disch:=first|exact omg|fail) only[AX]|refine wki ?_|refine vfa ?_)
  rfl
 ·rw[if_neg h0];have s1:=ref17_Off h hL hL2 hl;have b1:=ref17_by (n:=(l.length:Int)-1) (RatA_rv (sz_sq hL (row_sz hL h) hl));rw[show sqR l/(((l.length:Int)-1:Int):Rat)=varR l from rfl,show (l.length:Int)-1=((l.length-1:Nat):Int) by omega]at b1;clear h;refine fni Tryz.f244 ?_;unfold Tryz.f244;repeat (first|simp only[go_sem]|simp (disch:=first|exact omg|fail) only[AX]|refine wki ?_|refine vfa ?_)
theorem ref19_square {v:SV} {q:Rat} {L:Nat} (hv:RatA v q L) (hL:1<=L:=by omega) (h:L<=1000000:=by omega):Go.Ev.Fn CX 243 [v] (rv (q*q)):=by
 have d:=ref2_Mul hv hv hL hL;obtain⟨s,n,d',rfl,-⟩:=hv;refine fni Tryz.f243 ?_;unfold Tryz.f243;repeat (first|simp only[go_sem]|simp (disch:=first|exact omg|fail) only[AX]|refine wki ?_|refine vfa ?_)
theorem ref19_off {v w:SV} {q r:Rat} {L M:Nat} (hv:RatA v q L) (hw:RatA w r M) (hL:1<=L:=by omega) (hM:1<=M:=by omega) (h:L+M<=100000:=by omega):Go.Ev.Fn CX 247 [v,w] (rv ((q-r)*(q-r)/r)):=by
 have a:=ref2_Sub hv hw hL hM;have z:=szR_sub (szR_of hv hL) (szR_of hw hM) hL;have s:=ref19_square (RatA_rv z);have b:=ref19_by (RatA_rv (szR_mul z z)) hw (by omega) hM;clear z;generalize q-r=x at *
 obtain⟨s',n,d',rfl,-⟩:=hv;obtain⟨s'',n',d'',rfl,-⟩:=hw;refine fni Tryz.f247 ?_;unfold Tryz.f247;repeat (first|simp only[go_sem]|simp (disch:=first|exact omg|fail) only[AX]|refine wki ?_|refine vpd 1 [] ?_|refine vfa ?_)
theorem ref19_student {cs:List SV} {l:List Rat} {v:SV} {mu:Rat} {L M:Nat} (h:RowC cs l L) (hm:RatA v mu M) (hL:1<=L:=by omega) (hL2:L<=100:=by omega) (hM:1<=M:=by omega) (hM2:M<=100:=by omega) (hl:l.length<=12:=by omega) :
  Go.Ev.Fn CX 179 [.sl l.length cs,v] (resV (stuR l mu)):=by
 have r0:=ref19_zero;have v1:=ref17_Variance h hL (by omega) hl;have hz:=row_sz hL h;have zv:=sz_var hL hz hl;have zm:=sz_mean hL hz hl;unfold stuR;by_cases h0:l.length<2
 ·rw[if_pos h0]at v1 ⊢;clear hz zv zm;obtain⟨s,n,d,rfl,-⟩:=hm;refine fni Tryz.f179 ?_;unfold Tryz.f179;repeat (first|simp only[go_sem]|simp (disch:=first|exact omg|fail) only[AX]|refine wki ?_|refine vpd 7 [] ?_|refine vfa ?_)
 ·rw[if_neg h0]at v1 ⊢;have zz:=ref2_Zero (RatA_rv zv);by_cases hv:varR l=0
  ·rw[if_pos hv];rw[decide_eq_true hv]at zz;clear hz zv zm;obtain⟨s,n,d,rfl,-⟩:=hm;refine fni Tryz.f179 ?_;unfold Tryz.f179;repeat (first|simp only[go_sem]|simp (disch:=first|exact omg|fail) only[AX]|refine wki ?_|refine vpd 7 [] ?_|refine vfa ?_)
  ·rw[if_neg hv];rw[decide_eq_false hv]at zz;have m1:=ref17_Mean h hL (by omega) hl;rw[if_neg (by omega)]at m1;have i1:=ref2_Int (l.length:Int);have zi:=int_szR (n:=(l.length:Int));have d1:=ref2_Sub (RatA_rv zm) hm;have zd:=szR_sub zm (szR_of hm hM);have s1:=ref19_square (RatA_rv zd);have zs:=szR_mul zd zd;have p1:=ref2_Mul (RatA_rv zi) (RatA_rv zs);have o1:=ref19_by (RatA_rv (szR_mul zi zs)) (RatA_rv zv);clear hz zv zm zi zd zs h;obtain⟨s,n,d,rfl,-⟩:=hm;generalize meanR l=m at *
   generalize varR l=w at *
   refine fni Tryz.f179 ?_;unfold Tryz.f179;repeat (first|simp only[go_sem]|simp (disch:=first|exact omg|fail) only[AX]|refine wki ?_|refine vpd 7 [] ?_|refine vfa ?_)
end Go.Proofs.YtfknkoeagjonbaaGreat
namespace Go.Proofs.YtfknkoeagjonbaaGreat
open Go.Ev
def zR (l:List Rat) (mu sg:Rat):Res:=
 if sg<=0 then (0,[],4) else if l.length=0 then (0,[],5) else (lenR l*((meanR l-mu)*(meanR l-mu))/(sg*sg),[1],0)
theorem zR_alt {n d s:Rat}:n*((d/s)*(d/s))=n*(d*d)/(s*s):=by
 rw[xv,xv,Rat.inv_mul_rev];grind
section
variable {kind k n:Int} {tn:Nat} {xs ys tc:List SV} {sm ss:Bool} {nm dm ns ds:List Nat} {l m:List Rat}
theorem ref19_paired (h:RowC xs l 1) (h2:RowC ys m 1) (hl:l.length<=12) (hm:m.length<=12) :
  Go.Ev.Fn CX 180 [testV kind (.sl l.length xs) (.sl m.length ys) (.sl tn tc) sm nm dm ss ns ds k n] (resV (if l.length≠m.length then (0,[],1) else stuR (List.zipWith (fun a b=>a-b) l m) 0)):=by
 have r0:=ref19_zero;by_cases hlm:l.length=m.length
 ·rw[if_neg (not_not_intro hlm)];have hzl:(List.zipWith (fun a b=>a-b) l m).length=l.length:=by rw[zG];omega
  have hzg : ∀i,i<l.length->(List.zipWith (fun a b=>a-b) l m).getD i 0=l.getD i 0-m.getD i 0:=by
   intro i hi;rw[xC,xC,xC,xD (by omega),xD hi,xD (by omega),zO];rfl
  have hlen:=row_len h;have hlen2:=row_len h2;have hzz : ∀x∈List.zipWith (fun a b=>a-b) l m,szR x 3:=by
   intro x hx;obtain⟨i,hi,rfl⟩:=zC hx;rw[zO];exact szR_sub (row_sz (by omega) h _ (yQ _)) (row_sz (by omega) h2 _ (yQ _))
  generalize hZ:List.zipWith (fun a b=>a-b) l m=z at *
  have t1:=ref19_student (rvsC_row z hzz) (RatA_rv (szR_zero (L:=1)));rw[hzl]at t1;have hrl:=rvsC_len z;rw[hzl]at hrl;refine fni Tryz.f180 ?_;unfold Tryz.f180;repeat (first|simp only[go_sem]|simp (disch:=first|exact omg|fail) only[AX]|refine wki ?_|refine vpd 7 [] ?_)
  refine vp_loop_inv (fun s=>s.tmp 1 = .ptr 1 0 0/\s.obj 1 0=some [.int .i64 kind,.sl l.length xs,.sl m.length ys,.sl tn tc,.bool sm,natV nm,natV dm,.bool ss,natV ns,natV ds,.int .i64 k,.int .i64 n]/\s.tmp 2 = .ptr 2 0 0/\s.obj 2 0=some [.bool false,.sl 0 [],.sl 0 []] /\
    ∃i:Nat,s.tmp 6 = .sv (.int .i64 (i:Int))/\i<=l.length/\((i=0/\s.tmp 5 = .nil/\s.gen 35=0)\/(0<i/\s.tmp 5 = .ref 35 0 3 0 i/\s.obj 35 0=some (rvsC (z.take i)))))
   (fun s=>match s.tmp 6 with | .sv (.int _ i)=>l.length-i.toNat|_=>0) ⟨rfl,rfl,rfl,rfl,0,rfl,by omega,.inl ⟨rfl,rfl,rfl⟩⟩ ?_
  rintro s2 ⟨i1,o1,i2,o2,i,i6,hi,hc⟩
  by_cases hend:i=l.length
  ·subst hend;rcases hc with⟨h00,i5,_⟩|⟨_,i5,iP⟩
   ·rw[h00]at t1 hzl i6 o1;have hz0:z=[]:=List.length_eq_zero_iff.1 hzl;subst hz0;rw[rvsC_nil]at t1;have hm0:m.length=0:=by omega
    repeat (first|simp only[go_sem,i1,o1,i2,o2,i6,i5,hm0]|simp (disch:=first|exact omg|fail) only[AX,i1,o1,i2,o2,i6,i5,hm0]|refine wki ?_|refine vpd 7 [] ?_|refine vfa ?_)
   ·rw[xH (by omega)]at iP;have htk:(rvsC z).take (l.length*3)=rvsC z:=xH (by omega);repeat (first|simp only[go_sem,i1,o1,i2,o2,i6,i5,iP,htk,xf,N0]|simp (disch:=first|exact omg|fail) only[AX,i1,o1,i2,o2,i6,i5,iP,htk,xf,N0]|refine wki ?_|refine vpd 7 [] ?_|refine vfa ?_)
  ·obtain⟨s,n',d,rest,hat,hA⟩:=row_at (i:=i) h (by omega);obtain⟨s',n'',d',rest2,hat2,hA2⟩:=row_at (i:=i) h2 (by omega);have a:=ref2_Sub hA hA2;have hsn:=rvs_snoc (l:=z) (i:=i);rw[<- hzg i (by omega)]at a;have hrl2:=rvsC_len (z.take i);rw[xo,hzl,yO (by omega)]at hrl2;clear hzz h h2 hA hA2 t1 r0 hzg;rcases hc with⟨h00,i5,ig⟩|⟨h00,i5,iP⟩
   ·subst h00;rw[yz,rvsC_nil,ze]at hsn;rw[zM,xf]at hat hat2;subst hat hat2;repeat (first|simp only[go_sem,i1,o1,i2,o2,i6,i5,ig,N0]|simp (disch:=first|exact omg|fail) only[AX,i1,o1,i2,o2,i6,i5,ig,N0]|refine wki ?_|refine vpd 7 [] ?_|refine vfa ?_)
    exact⟨⟨1,rfl,by omega,.inr ⟨by omega,rfl,by first|exact hsn|(rw[<- hsn];rfl)|rw[<- hsn]⟩⟩,by omega⟩
   ·unfold rvC at hsn;repeat (first|simp only[go_sem,i1,o1,i2,o2,i6,i5,iP,hat,hat2,hlen,hlen2,N0,hsn,hrl2]|simp (disch:=first|exact omg|fail) only[AX,i1,o1,i2,o2,i6,i5,iP,hat,hat2,hlen,hlen2,N0,hsn,hrl2]|refine wki ?_|refine vpd 7 [] ?_|refine vfa ?_)
    exact⟨⟨i+1,rfl,by omega,.inr ⟨by omega,rfl,by first|exact hsn|(rw[<- hsn];rfl)|rw[<- hsn]⟩⟩,by omega⟩
 ·rw[if_pos hlm];clear h h2;refine fni Tryz.f180 ?_;unfold Tryz.f180;repeat (first|simp only[go_sem]|simp (disch:=first|exact omg|fail) only[AX]|refine wki ?_|refine vpd 7 [] ?_|refine vfa ?_)
theorem pool_ref (l m:List Rat) (h1:l.length≠0) (h2:m.length≠0):((1:Int):Rat)/((l.length:Int):Rat)+((1:Int):Rat)/((m.length:Int):Rat)=(((l.length:Int)+(m.length:Int):Int):Rat)/(((l.length:Int)*(m.length:Int):Int):Rat):=by
 have e1:=lenR_ne (l:=l) (by rintro rfl;exact h1 rfl);have e2:=lenR_ne (l:=m) (by rintro rfl;exact h2 rfl);rw[Rat.intCast_add,wm];show _/lenR l+_/lenR m=(lenR l+lenR m)/(lenR l*lenR m)
 generalize lenR l=x at *
 generalize lenR m=y at *
 have e3:x*y≠0:=fun e=>by rcases Rat.mul_eq_zero.1 e with h|h<;>contradiction
 symm;refine div_uniq e3 ?_;have a:=div_cancel' (x:=((1:Int):Rat)) e1;have b:=div_cancel' (x:=((1:Int):Rat)) e2;generalize ((1:Int):Rat)/x=p at *
 generalize ((1:Int):Rat)/y=q at *
 have o:((1:Int):Rat)=1:=rfl;rw[o]at a b;have:(p+q)*(x*y)=(p*x)*y+(q*y)*x:=by grind
 rw[this,a,b];grind
set_option maxHeartbeats 1000000 in
theorem ref19_pooled (h:RowC xs l 1) (h2:RowC ys m 1) (hl:l.length<=12) (hm:m.length<=12) :
  Go.Ev.Fn CX 181 [testV kind (.sl l.length xs) (.sl m.length ys) (.sl tn tc) sm nm dm ss ns ds k n] (resV (poolR l m)):=by
 have r0:=ref19_zero;unfold poolR;by_cases c1:l.length=0
 ·rw[if_pos (.inl c1)];clear h h2;refine fni Tryz.f181 ?_;unfold Tryz.f181;repeat (first|simp only[go_sem]|simp (disch:=first|exact omg|fail) only[AX]|refine wki ?_|refine vpd 1 [] ?_|refine vpd 4 [34,37] ?_|refine vpd 10 [] ?_|refine vpd 11 [] ?_|refine vfa ?_)
 by_cases c2:m.length=0
 ·rw[if_pos (.inr (.inl c2))];clear h h2;refine fni Tryz.f181 ?_;unfold Tryz.f181;repeat (first|simp only[go_sem]|simp (disch:=first|exact omg|fail) only[AX]|refine wki ?_|refine vpd 1 [] ?_|refine vpd 4 [34,37] ?_|refine vpd 10 [] ?_|refine vpd 11 [] ?_|refine vfa ?_)
 by_cases c3:l.length+m.length<3
 ·rw[if_pos (.inr (.inr c3))];clear h h2;refine fni Tryz.f181 ?_;unfold Tryz.f181;repeat (first|simp only[go_sem]|simp (disch:=first|exact omg|fail) only[AX]|refine wki ?_|refine vpd 1 [] ?_|refine vpd 4 [34,37] ?_|refine vpd 10 [] ?_|refine vpd 11 [] ?_|refine vfa ?_)
 rw[if_neg (by omega)];have s1:=ref17_Off h (by omega) (by omega) hl;have s2:=ref17_Off h2 (by omega) (by omega) hm;have z1:=sz_sq (by omega) (row_sz (by omega) h) hl;have z2:=sz_sq (by omega) (row_sz (by omega) h2) hm;have y1:=sz_mean (by omega) (row_sz (by omega) h) hl;have y2:=sz_mean (by omega) (row_sz (by omega) h2) hm;have m1:=ref17_Mean h (by omega) (by omega) hl;have m2:=ref17_Mean h2 (by omega) (by omega) hm;rw[if_neg c1]at m1;rw[if_neg c2]at m2;have a1:=ref2_Add (RatA_rv z1) (RatA_rv z2);have za:=szR_add z1 z2
 have e2:(l.length:Int)+(m.length:Int)-2=((l.length+m.length-2:Nat):Int):=by omega
 have i1:=ref2_Int ((l.length:Int)+(m.length:Int)-2);have zi1:=int_szR (n:=(l.length:Int)+(m.length:Int)-2);have o1:=ref19_by (RatA_rv za) (RatA_rv zi1);have zo:=szR_div za zi1;have zz:=ref2_Zero (RatA_rv zo);have j0:=ref2_Int 1;have j1:=ref2_Int (l.length:Int);have j2:=ref2_Int (m.length:Int);have zj0:=int_szR (n:=1);have zj1:=int_szR (n:=(l.length:Int));have zj2:=int_szR (n:=(m.length:Int));have b1:=ref19_by (RatA_rv zj0) (RatA_rv zj1);have b2:=ref19_by (RatA_rv zj0) (RatA_rv zj2);have zb1:=szR_div zj0 zj1;have zb2:=szR_div zj0 zj2;have a2:=ref2_Add (RatA_rv zb1) (RatA_rv zb2)
 have zw:=szR_add zb1 zb2;rw[pool_ref l m c1 c2]at a2 zw;have d1:=ref2_Sub (RatA_rv y1) (RatA_rv y2);have zd:=szR_sub y1 y2;have q1:=ref19_square (RatA_rv zd);have zq:=szR_mul zd zd;have p1:=ref2_Mul (RatA_rv zo) (RatA_rv zw);have o3:=ref19_by (RatA_rv zq) (RatA_rv (szR_mul zo zw));clear z1 z2 za zi1 h h2 zj0 zj1 zj2 zb1 zb2 zw zd zq zo y1 y2;generalize meanR l=x at *
 generalize meanR m=y at *
 by_cases hv:(sqR l+sqR m)/(((l.length:Int)+(m.length:Int)-2:Int):Rat)=0
 ·rw[if_pos hv];rw[decide_eq_true hv]at zz;clear hv o3 p1 q1 d1 a2 b1 b2;generalize (sqR l+sqR m)/(((l.length:Int)+(m.length:Int)-2:Int):Rat)=v at *
  refine fni Tryz.f181 ?_;unfold Tryz.f181;repeat (first|simp only[go_sem]|simp (disch:=first|exact omg|fail) only[AX]|refine wki ?_|refine vpd 1 [] ?_|refine vpd 4 [34,37] ?_|refine vpd 10 [] ?_|refine vpd 11 [] ?_|refine vfa ?_)
 ·rw[if_neg hv];rw[decide_eq_false hv]at zz;clear hv;generalize (sqR l+sqR m)/(((l.length:Int)+(m.length:Int)-2:Int):Rat)=v at *
  generalize sqR l+sqR m=v2 at *
  generalize (((l.length:Int)+(m.length:Int):Int):Rat)/(((l.length:Int)*(m.length:Int):Int):Rat)=w at *
  generalize ((1:Int):Rat)/((l.length:Int):Rat)=u1 at *
  generalize ((1:Int):Rat)/((m.length:Int):Rat)=u2 at *
  refine fni Tryz.f181 ?_;unfold Tryz.f181;repeat (first|simp only[go_sem]|simp (disch:=first|exact omg|fail) only[AX]|refine wki ?_|refine vpd 1 [] ?_|refine vpd 4 [34,37] ?_|refine vpd 10 [] ?_|refine vpd 11 [] ?_|refine vfa ?_)
set_option maxHeartbeats 1000000 in
theorem ref19_fisher (h:RowC xs l 1) (h2:RowC ys m 1) (hl:l.length<=12) (hm:m.length<=12) :
  Go.Ev.Fn CX 182 [testV kind (.sl l.length xs) (.sl m.length ys) (.sl tn tc) sm nm dm ss ns ds k n] (resV (fisR l m)):=by
 have r0:=ref19_zero;have v1:=ref17_Variance h (by omega) (by omega) hl;have v2:=ref17_Variance h2 (by omega) (by omega) hm;have z1:=sz_var (by omega) (row_sz (by omega) h) hl;have z2:=sz_var (by omega) (row_sz (by omega) h2) hm;have q1:=ref2_Zero (RatA_rv z1);have q2:=ref2_Zero (RatA_rv z2);have o1:=ref19_by (RatA_rv z1) (RatA_rv z2);unfold fisR;clear h h2 z1 z2;by_cases c1:l.length<2
 ·rw[if_pos (.inl c1)];rw[if_pos c1]at v1;refine fni Tryz.f182 ?_;unfold Tryz.f182;repeat (first|simp only[go_sem]|simp (disch:=first|exact omg|fail) only[AX]|refine wki ?_|refine vpd 9 [] ?_|refine vfa ?_)
 rw[if_neg c1]at v1;by_cases c2:m.length<2
 ·rw[if_pos (.inr c2)];rw[if_pos c2]at v2;refine fni Tryz.f182 ?_;unfold Tryz.f182;repeat (first|simp only[go_sem]|simp (disch:=first|exact omg|fail) only[AX]|refine wki ?_|refine vpd 9 [] ?_|refine vfa ?_)
 rw[if_neg c2]at v2;rw[if_neg (by omega)];generalize varR l=a at *
 generalize varR m=b at *
 by_cases c3:a=0
 ·rw[if_pos (.inl c3)];rw[decide_eq_true c3]at q1;refine fni Tryz.f182 ?_;unfold Tryz.f182;repeat (first|simp only[go_sem]|simp (disch:=first|exact omg|fail) only[AX]|refine wki ?_|refine vpd 9 [] ?_|refine vfa ?_)
 rw[decide_eq_false c3]at q1;by_cases c4:b=0
 ·rw[if_pos (.inr c4)];rw[decide_eq_true c4]at q2;refine fni Tryz.f182 ?_;unfold Tryz.f182;repeat (first|simp only[go_sem]|simp (disch:=first|exact omg|fail) only[AX]|refine wki ?_|refine vpd 9 [] ?_|refine vfa ?_)
 rw[decide_eq_false c4]at q2;rw[if_neg (fun h=>h.elim c3 c4)];refine fni Tryz.f182 ?_;unfold Tryz.f182;repeat (first|simp only[go_sem]|simp (disch:=first|exact omg|fail) only[AX]|refine wki ?_|refine vpd 9 [] ?_|refine vfa ?_)
end
end Go.Proofs.YtfknkoeagjonbaaGreat
