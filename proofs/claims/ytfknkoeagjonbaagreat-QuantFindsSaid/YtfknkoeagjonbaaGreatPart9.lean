/- Part 9 of the proof: the evaluator, contracts of functions and their plain laws (joined by program). No condition. -/
import Derived.Test.YtfknkoeagjonbaaGreatPart8
set_option linter.unusedVariables false
set_option linter.unusedSimpArgs false
set_option maxRecDepth 100000
namespace Go.Proofs.YtfknkoeagjonbaaGreat
open Go.Ev
theorem ervP {x:Rat} (h:0<=x):rv x=ratV false (lim x.num.natAbs) (lim x.den):=by
 show ratV (decide (x.num<0)) _ _=_;rw[neg_numX,decide_eq_false (yZ.2 h)]
theorem times2 (x:Rat):x*((2:Nat):Rat)/((1:Nat):Rat)=x*2:=by
 rw[show ((2:Nat):Rat)=2 from rfl,show ((1:Nat):Rat)=1 from rfl];generalize x*2=z;have:=xd (a:=z) (b:=1) (by decide);rw[yA]at this;exact this
theorem SQ_one:(1:Rat)<=SQ/\SQ<=2:=by decide +kernel
theorem inv_ball {lo hi:Rat} {w g:Nat} (h1:1<=lo) (h2:lo<=hi) (h3:(hi-lo)*p2 w<=(g:Rat)) (hg:g+2<=2^w:=by omega) (hw:1<=w:=by omega) :
  2^(2*w)/(unN hi w+1)<=2^(2*w)/unN lo w+1/\2^(2*w)/unN lo w+1<=2*2^w/\2^(2*w)/unN lo w+1<=2^(2*w)/(unN hi w+1)+(g+4)/\2^w<=unN lo w/\unN hi w+1<=unN lo w+(g+2):=by
 have P:0<2^w:=xK (by omega);have pp:2^(2*w)=2^w*2^w:=by rw[<- xM];congr 1;omega
 have u1:=unN_le (show 0<=lo by grind) w;have u2:=unN_le (show 0<=hi by grind) w;have W:=p2_pos w;have lo1:2^w<=unN lo w:=by
  have a:p2 w<((unN lo w+1:Nat):Rat):=by
   have:=unN_lt (show 0<=lo by grind) w;have m:=xA h1 (xG W);grind
  have a2:2^w<unN lo w+1:=by exact_mod_cast a
  omega
 have d:unN hi w+1<=unN lo w+(g+2):=by
  have a:((unN hi w:Nat):Rat)<((unN lo w+1+g:Nat):Rat):=by
   have:=unN_lt (show 0<=lo by grind) w;rw[Ex.castadd (unN lo w+1) g];grind
  have a2:unN hi w<unN lo w+1+g:=by exact_mod_cast a
  omega
 have m:=unN_mono (show 0<=lo by grind) h2 w;obtain⟨i1,i2,i3⟩:=inv_gapE (M:=2^(2*w)) (lo:=unN lo w) (hi:=unN hi w+1) (W:=2^w) P pp lo1;exact⟨by omega,by omega,by omega,lo1,d⟩
section
variable {N D w n:Nat}
theorem incg_roots {v:SV} {x:Rat} (hv:RatA v x 240) (h0:0<=x) (h64:x<=64) (hw0:8<=w) (hw:w<233\/w=256\/w=328) :
  ∃R1 R2:Nat,∃lo hi:Rat,Go.Ev.Fn CX 235 [v,.int .i64 (w:Int)] (spanV R1 R2)/\R1<=R2/\R2<=21*2^w/\R2<=R1+100/\0<=lo/\lo<=hi/\lo*lo<=x/\x<=hi*hi /\ ∀s,lo<=s->s<=hi->Enc w R1 R2 (s*(1/SQ)):=by
 obtain⟨lo,hi,fs,l0,lh,l1,l2,l3,y1,y2⟩:=root_Sqrt (p:=w) hv h0;obtain⟨m1,m2,fp,h1,h2,h3,h4,z1,z2⟩:=many_pi hw0;obtain⟨lo',hi',fr,r1,r2,r3,x1,x2⟩:=many_root (by omega) h1 h2 h3 h4 z1 z2;have P:2^8<=2^w:=xD (by omega) hw0;have W:=p2_pos w;have W8:((256:Nat):Rat)<=p2 w:=Ex.castle P;rw[show ((256:Nat):Rat)=256 from rfl]at W8;obtain⟨q1,q2⟩:=SQ_one;have sq2:(3/2:Rat)<=SQ:=by decide +kernel
 have lo1:1<=lo':=by
  refine yZ.1 fun g => ?_
  have:=xB W8 (show 0<=hi'-lo' by grind);have h32:(3/2:Rat)*2=3:=by decide +kernel
  grind
 have lh':lo'<=hi':=by grind
 obtain⟨i1,i2,i3,i4,i5⟩:=inv_ball (w:=w) (g:=3) lo1 lh' r3;have hlo:lo<=8:=by
  refine yZ.1 fun g => ?_
  have a:=xA (xG g) l0;grind
 have hhi:hi<=9:=by
  refine yZ.1 fun g => ?_
  have:=xB W8 (show 0<=hi-lo by grind);grind
 have uh:unN hi w+1<=9*2^w+1:=by
  have u:=(unN_le (show 0<=hi by grind) w).1;have m:=xA hhi (xG W);have t:((unN hi w:Nat):Rat)<=((9*2^w:Nat):Rat):=by
   rw[Ex.castmul];exact xE u m
  have:unN hi w<=9*2^w:=by exact_mod_cast t
  omega
 have ul:unN hi w+1<=unN lo w+3:=by
  have a:((unN hi w:Nat):Rat)<((unN lo w+1+1:Nat):Rat):=by
   have b:=unN_lt (show 0<=lo by grind) w;have c:=(unN_le (show 0<=hi by grind) w).1;rw[Ex.castadd (unN lo w+1) 1,show ((1:Nat):Rat)=1 from rfl];grind
  have a2:unN hi w<unN lo w+1+1:=by exact_mod_cast a
  omega
 have um:unN lo w<=unN hi w+1:=yP (unN_mono l0 lh w);have b1:=fix_Ball (w:=w) (szR_mono y1 (show _<=400 by omega)) (szR_mono y2 (show _<=400 by omega));have b2:=fix_Ball (w:=w) (szR_mono x1 (show _<=400 by omega)) (szR_mono x2 (show _<=400 by omega));obtain⟨j1,j2,j3⟩:=mulS (w:=w) (α:=10) (β:=2) (γ:=3) (δ:=7) um i1 (show unN hi w+1<=10*2^w by omega) i2 ul i3;have e9:2^(w+9)=2^w*512:=xM _ _ _;have lh2:unN hi' w+1<=9*2^w:=by
  have hi3:hi'<=3:=by
   refine yZ.1 fun g => ?_
   have:=xB W8 (show 0<=hi'-lo' by grind);grind
  have u:=(unN_le (show 0<=hi' by grind) w).1;have m:=xA hi3 (xG W);have t:((unN hi' w:Nat):Rat)<=((3*2^w:Nat):Rat):=by
   rw[Ex.castmul];exact xE u m
  have:unN hi' w<=3*2^w:=by exact_mod_cast t
  omega
 have um2:=unN_mono (show 0<=lo' by grind) lh' w;have k1:=lim_len_pw (n:=unN lo w) (w:=w+9);have k2:=lim_len_pw (n:=unN hi w+1) (w:=w+9);have k3:=lim_len_pw (n:=unN lo' w) (w:=w+9);have k4:=lim_len_pw (n:=unN hi' w+1) (w:=w+9);have k5:=lim_len_pw (n:=2^(2*w)/unN lo' w+1) (w:=w+9);have k6:=lim_len_pw (n:=2^(2*w)/(unN hi' w+1)) (w:=w+9);have iv:=fix_Inverse (a:=unN lo' w) (b:=unN hi' w+1) (w:=w);have mu:=fix_Mul (a:=unN lo w) (b:=unN hi w+1) (c:=2^(2*w)/(unN hi' w+1)) (d:=2^(2*w)/unN lo' w+1) (w:=w)
 have en : ∀s,lo<=s->s<=hi->Enc w (unN lo w*(2^(2*w)/(unN hi' w+1))/2^w) ((unN hi w+1)*(2^(2*w)/unN lo' w+1)/2^w+1) (s*(1/SQ)):=fun s g1 g2=>enc_mul (ball_enc l0 g1 g2 w) (enc_inv (show 0<unN lo' w by omega) (ball_enc (show 0<=lo' by grind) r1 r2 w)).1
 refine⟨_,_,lo,hi,?_,j1,by omega,by omega,l0,lh,l1,l2,en⟩;clear en j1 j2 j3 i1 i2 i3 i4 i5 l0 lh l1 l2 l3 h1 h2 h3 h4 r1 r2 r3 k1 k2 k3 k4 k5 k6 lo1 lh' hlo hhi uh ul um lh2 q1 q2 sq2;generalize 2^(2*w)/(unN hi' w+1)=I1 at *
 generalize 2^(2*w)/unN lo' w+1=I2 at *
 generalize unN hi w+1=u2 at *
 generalize unN lo w=u1 at *
 generalize unN hi' w+1=u4 at *
 generalize unN lo' w=u3 at *
 generalize u1*I1/2^w=Z1 at *
 generalize u2*I2/2^w+1=Z2 at *
 obtain⟨s0,n0,d0,rfl,-⟩:=hv;refine fni Tryz.f235 ?_;unfold Tryz.f235;repeat (first|simp only[go_sem]|simp (disch:=first|exact omg|fail) only[AX]|refine wki ?_|refine vpd 3 [] ?_|refine vfa ?_)
def igC (n:Nat) (s:Rat):Rat:=if n%2=1 then s*(1/SQ)*2 else 1
set_option maxHeartbeats 1000000 in
theorem incg_power {x:Rat} (hz:szR x 240) (h0:0<=x) (h64:x<=64) (hn:1<=n) (hn2:n<=30) (hw0:8<=w:=by omega) (hw:w<233\/w=256\/w=328:=by omega) :
  ∃A B:Nat,∃lo hi:Rat,Go.Ev.Fn CX 164 [.int .i64 (n:Int),rv x,.int .i64 (w:Int)] (spanV A B)/\A<=B/\B<=(igP n).1*2^w/\B<=A+(igP n).2/\0<=lo/\lo<=hi/\lo*lo<=x/\x<=hi*hi /\ ∀s,lo<=s->s<=hi->Enc w A B (igC n s*tk (x*2) (2+n%2) (n/2)):=by
 obtain⟨R1,R2,lo,hi,fr,r1,r2,r3,l0,lh,l1,l2,en⟩:=incg_roots (w:=w) (RatA_rv hz) h0 h64 hw0 hw;have zp:=xH hz.1 (show 240<=300 by omega);have zd:=xH hz.2 (show 240<=300 by omega);have er:rv x=ratV false (lim x.num.natAbs) (lim x.den):=ervP h0;have hN:x.num.natAbs<=64*x.den:=by
  have d:=Ex.denR x;have e:((x.num.natAbs:Nat):Rat)=(x.num:Rat):=by rw[<- castZn,num_abs h0]
  have dR:(0:Rat)<(x.den:Rat):=by exact_mod_cast x.den_pos
  have m:=xA h64 (xG dR);rw[d,<- e]at m;have:((x.num.natAbs:Nat):Rat)<=((64*x.den:Nat):Rat):=by rw[Ex.castmul];exact m
  exact_mod_cast this
 have hx:x*(x.den:Rat)=((x.num.natAbs:Nat):Rat):=by rw[Ex.denR x,<- castZn,num_abs h0]
 have hD:=x.den_pos;rw[er]at fr ⊢;generalize x.num.natAbs=N at *
 generalize x.den=D at *
 have fx:=fix_RatS (s:=false) (n:=N) (d:=D) (w:=w) hD;have P:2^8<=2^w:=xD (by omega) (by omega);obtain⟨b1,b2,b3,b4,b5⟩:=by_ok (w:=w) hD hN;have by5:=b5 x hx;clear b5;generalize N*2^w/D=T at *
 have e9:2^(w+9)=2^w*512:=xM _ _ _;have lT:=lim_len_pw (n:=T) (w:=w+9);have lT1:=lim_len_pw (n:=T+1) (w:=w+9);have o2:=nat_Of 2;have o1:=fix_One;have l1':=lim_len1;have l2':(lim 2).length<=1:=lim_len_one (by decide);have ti:=fix_Times (a:=T) (b:=T+1) (n:=2) (d:=1);have un:=fix_Unit (w:=w);have lR1:=lim_len_pw (n:=R1) (w:=w+9);have lR2:=lim_len_pw (n:=R2) (w:=w+9);have tr:=fix_Times (a:=R1) (b:=R2) (n:=2) (d:=1);generalize T*2/1=Q1 at *
 generalize (T+1)*2/1+1=Q2 at *
 have lQ1:=lim_len_pw (n:=Q1) (w:=w+9);have lQ2:=lim_len_pw (n:=Q2) (w:=w+9);have step : ∀ (k a b:Nat),1<=k->k<1000->a<=b->(lim b).length<=2000->(Go.Ev.Fn CX 163 [spanV a b,spanV Q1 Q2,.int .i64 (w:Int)] (spanV (a*Q1/2^w) (b*Q2/2^w+1)))/\Go.Ev.Fn CX 174 [spanV (a*Q1/2^w) (b*Q2/2^w+1),natV (lim 1),natV (lim k)] (spanV (a*Q1/2^w*1/k) ((b*Q2/2^w+1)*1/k+1))/\a*Q1/2^w*1/k<=(b*Q2/2^w+1)*1/k+1/\(lim ((b*Q2/2^w+1)*1/k+1)).length<=(lim b).length+20:=by
  intro k a b hk hk2 hab hb;have la:=lim_len_mono hab;have z1:=lim_len_mul (a:=a) (b:=Q1);have z2:=lim_len_mul (a:=b) (b:=Q2);have z3:=lim_len_mono (xv (a*Q1) (2^w));have z5:=lim_len_mono (xv (b*Q2) (2^w));have z4:=lim_len_add (a:=b*Q2/2^w) (b:=1) (L:=(lim b).length+12);have z6:=lim_len_mono (xv ((b*Q2/2^w+1)*1) k);rw[yD (b*Q2/2^w+1)]at z6;have z7:=lim_len_add (a:=(b*Q2/2^w+1)*1/k) (b:=1) (L:=(lim b).length+13) (by rw[yD];omega);have lk:(lim k).length<=1:=lim_len_one;refine⟨fix_Mul,fix_Times,?_,by omega⟩;refine yP (xf (xC 1 ?_));exact yP (xf (xO hab b1))
 have an:=and_one64 (a:=n);by_cases hod:n%2=1
 ·have gP:igP n=wPow 129 41 (n/2) 3 50 400:=if_pos hod;obtain⟨c1,c2,c3⟩:=pRow_wide (W:=129) (D:=41) b3 b1 b2 (n/2) 3 (R1*2/1) (R2*2/1+1) 50 400 (by omega) (by omega) (by omega) (by omega);rw[<- gP]at c2 c3;have hk0:2+n%2=3:=by omega
  have pe : ∀s,lo<=s->s<=hi->Enc w (pRow w Q1 Q2 (n/2) 3 (R1*2/1) (R2*2/1+1)).1 (pRow w Q1 Q2 (n/2) 3 (R1*2/1) (R2*2/1+1)).2 (igC n s*tk (x*2) (2+n%2) (n/2)):=by
   intro s g1 g2;rw[hk0];have h:=pRow_enc (c:=igC n s) (k0:=3) (by omega) by5 (n/2) 0 _ _ (by
   have e:=enc_times (n:=2) (d:=1) (by omega) (en s g1 g2);rw[times2]at e;rw[show igC n s=s*(1/SQ)*2 from if_pos hod];show Enc w _ _ (_*1);rw[yA];exact e)
   rw[yV]at h;exact h
  obtain⟨A,B,hAB⟩ : ∃A B:Nat,pRow w Q1 Q2 (n/2) 3 (R1*2/1) (R2*2/1+1)=(A,B):=⟨_,_,rfl⟩
  rw[hAB]at c1 c2 c3 pe;refine⟨A,B,lo,hi,?_,c1,c2,c3,l0,lh,l1,l2,pe⟩;have lS:(lim (R2*2/1+1)).length<=100:=xH (lim_len_pw (w:=w+9)) (by omega);have hS:R1*2/1<=(R2*2/1+1):=by omega
  rw[hod]at an;clear pe c1 c2 c3 gP hk0 en by5 b2 b3 b4 e9 P l0 lh l1 l2 r1 r2 r3;generalize R1*2/1=S1 at *
  generalize R2*2/1+1=S2 at *
  refine fni Tryz.f164 ?_;unfold Tryz.f164;repeat (first|simp only[go_sem,an]|simp (disch:=first|exact omg|fail) only[AX,an]|refine wki ?_|refine vfa ?_)
  refine vp_loop_inv (fun s'=>s'.tmp 0 = .sv (.int .i64 (n:Int))/\s'.tmp 2 = .sv (.int .i64 (w:Int))/\s'.tmp 6 = .ptr 6 0 0/\s'.obj 6 0=some [.sl 0 [],.sl 0 []]/\s'.tmp 7 = .ptr 7 0 0/\s'.tmp 9 = .ptr 9 0 0/\s'.obj 9 0=some [natV (lim Q1),natV (lim Q2)] /\
    ∃f i a b:Nat,s'.tmp 10 = .sv (.int .i64 ((3+2*i:Nat):Int))/\f+i=n/2/\pRow w Q1 Q2 f (3+2*i) a b=(A,B)/\s'.obj 7 0=some [natV (lim a),natV (lim b)]/\a<=b/\(lim b).length<=100+20*i)
   (fun s'=>match s'.tmp 10 with | .sv (.int _ i)=>1000-i.toNat|_=>0) ⟨rfl,rfl,rfl,rfl,rfl,rfl,rfl,n/2,0,S1,S2,rfl,by omega,hAB,rfl,hS,by omega⟩ ?_
  rintro s' ⟨i0,i2,i6,o6,i7,i9,o9,f,i,a,b,i10,hfi,hgo,o7,hab,hlb⟩
  have la:=lim_len_mono hab;cases f with
  |zero=>
    have hgo':(a,b)=(A,B):=hgo;simp only[Prod.mk.injEq]at hgo';obtain⟨rfl,rfl⟩:=hgo';clear step hAB;repeat (first|simp only[go_sem,i0,i2,i6,o6,i7,i9,o9,i10,o7]|simp (disch:=first|exact omg|fail) only[AX,i0,i2,i6,o6,i7,i9,o9,i10,o7]|refine wki ?_)
  |succ f=>
    obtain⟨mu,tk,s1,s2⟩:=step (3+2*i) a b (by omega) (by omega) hab (by omega);have qk:=nat_Of (3+2*i);have hgo':pRow w Q1 Q2 f (3+2*i+2) (a*Q1/2^w*1/(3+2*i)) ((b*Q2/2^w+1)*1/(3+2*i)+1)=(A,B):=hgo;clear step hAB hgo;generalize a*Q1/2^w*1/(3+2*i)=u1 at *
    generalize (b*Q2/2^w+1)*1/(3+2*i)+1=u2 at *
    generalize a*Q1/2^w=v1 at *
    generalize b*Q2/2^w+1=v2 at *
    repeat (first|simp only[go_sem,i0,i2,i6,o6,i7,i9,o9,i10,o7]|simp (disch:=first|exact omg|fail) only[AX,i0,i2,i6,o6,i7,i9,o9,i10,o7]|refine wki ?_|refine vf_of (by first|exact mu|exact o1|exact qk|exact tk) ?_)
    exact⟨⟨f,i+1,u1,u2,by first|rfl|(congr 2;omega),by omega,hgo',rfl,s1,by omega⟩,by omega⟩
 ·have gP:igP n=wPow 129 41 (n/2) 2 2 1:=if_neg hod;obtain⟨c1,c2,c3⟩:=pRow_wide (W:=129) (D:=41) b3 b1 b2 (n/2) 2 (2^w) (2^w+1) 2 1 (by omega) (by omega) (by omega) (by omega);rw[<- gP]at c2 c3;have hk0:2+n%2=2:=by omega
  have pe : ∀s,lo<=s->s<=hi->Enc w (pRow w Q1 Q2 (n/2) 2 (2^w) (2^w+1)).1 (pRow w Q1 Q2 (n/2) 2 (2^w) (2^w+1)).2 (igC n s*tk (x*2) (2+n%2) (n/2)):=by
   intro s g1 g2;rw[hk0];have h:=pRow_enc (c:=igC n s) (k0:=2) (by omega) by5 (n/2) 0 _ _ (by
   rw[show igC n s=1 from if_neg hod];show Enc w _ _ (1*1);rw[yA];exact one_encE w)
   rw[yV]at h;exact h
  obtain⟨A,B,hAB⟩ : ∃A B:Nat,pRow w Q1 Q2 (n/2) 2 (2^w) (2^w+1)=(A,B):=⟨_,_,rfl⟩
  rw[hAB]at c1 c2 c3 pe;refine⟨A,B,lo,hi,?_,c1,c2,c3,l0,lh,l1,l2,pe⟩;have lS:(lim (2^w+1)).length<=100:=xH (lim_len_pw (w:=w+9)) (by omega);have hS:2^w<=(2^w+1):=by omega
  rw[show n%2=0 by omega]at an;clear pe c1 c2 c3 gP hk0 en by5 b2 b3 b4 e9 P l0 lh l1 l2 r1 r2 r3;obtain⟨S1,hS1⟩ : ∃z:Nat,z=2^w:=⟨_,rfl⟩
  rw[<- hS1]at un hAB hS lS;refine fni Tryz.f164 ?_;unfold Tryz.f164;repeat (first|simp only[go_sem,an]|simp (disch:=first|exact omg|fail) only[AX,an]|refine wki ?_|refine vfa ?_)
  refine vp_loop_inv (fun s'=>s'.tmp 0 = .sv (.int .i64 (n:Int))/\s'.tmp 2 = .sv (.int .i64 (w:Int))/\s'.tmp 6 = .ptr 6 0 0/\s'.obj 6 0=some [.sl 0 [],.sl 0 []]/\s'.tmp 7 = .ptr 7 0 0/\s'.tmp 9 = .ptr 9 0 0/\s'.obj 9 0=some [natV (lim Q1),natV (lim Q2)] /\
    ∃f i a b:Nat,s'.tmp 10 = .sv (.int .i64 ((2+2*i:Nat):Int))/\f+i=n/2/\pRow w Q1 Q2 f (2+2*i) a b=(A,B)/\s'.obj 7 0=some [natV (lim a),natV (lim b)]/\a<=b/\(lim b).length<=100+20*i)
   (fun s'=>match s'.tmp 10 with | .sv (.int _ i)=>1000-i.toNat|_=>0) ⟨rfl,rfl,rfl,rfl,rfl,rfl,rfl,n/2,0,S1,(S1+1),rfl,by omega,hAB,rfl,hS,by omega⟩ ?_
  rintro s' ⟨i0,i2,i6,o6,i7,i9,o9,f,i,a,b,i10,hfi,hgo,o7,hab,hlb⟩
  have la:=lim_len_mono hab;cases f with
  |zero=>
    have hgo':(a,b)=(A,B):=hgo;simp only[Prod.mk.injEq]at hgo';obtain⟨rfl,rfl⟩:=hgo';clear step hAB;repeat (first|simp only[go_sem,i0,i2,i6,o6,i7,i9,o9,i10,o7]|simp (disch:=first|exact omg|fail) only[AX,i0,i2,i6,o6,i7,i9,o9,i10,o7]|refine wki ?_)
  |succ f=>
    obtain⟨mu,tk,s1,s2⟩:=step (2+2*i) a b (by omega) (by omega) hab (by omega);have qk:=nat_Of (2+2*i);have hgo':pRow w Q1 Q2 f (2+2*i+2) (a*Q1/2^w*1/(2+2*i)) ((b*Q2/2^w+1)*1/(2+2*i)+1)=(A,B):=hgo;clear step hAB hgo;generalize a*Q1/2^w*1/(2+2*i)=u1 at *
    generalize (b*Q2/2^w+1)*1/(2+2*i)+1=u2 at *
    generalize a*Q1/2^w=v1 at *
    generalize b*Q2/2^w+1=v2 at *
    repeat (first|simp only[go_sem,i0,i2,i6,o6,i7,i9,o9,i10,o7]|simp (disch:=first|exact omg|fail) only[AX,i0,i2,i6,o6,i7,i9,o9,i10,o7]|refine wki ?_|refine vf_of (by first|exact mu|exact o1|exact qk|exact tk) ?_)
    exact⟨⟨f,i+1,u1,u2,by first|rfl|(congr 2;omega),by omega,hgo',rfl,s1,by omega⟩,by omega⟩
end
end Go.Proofs.YtfknkoeagjonbaaGreat
namespace Go.Proofs.YtfknkoeagjonbaaGreat
open Go.Ev
theorem ev_le1 {z:Rat} (h:z<0) {L:Nat} (hL:1<=L):evX z L<=1/\0<=evX z L:=by
 unfold evX;rw[if_pos h];have one:=E_one (x := -z) (by grind) hL;have i:Ex.E (-z) L*(1/Ex.E (-z) L)=1:=Ex.mul_div _ 1 (by grind);have i0:0<=1/Ex.E (-z) L:=Ex.div_nn (by decide) (by grind);have:=xA one i0;rw[i,xc]at this;exact⟨this,i0⟩
def igV (n:Nat) (s x:Rat) (L:Nat):Rat:=igC n s*tk (x*2) (2+n%2) (n/2)*(1*sk (x*2) (n+2) L)*evX (-x) L
section
variable {v:SV} {x:Rat} {n P:Nat} {pI:Int}
theorem incg_in {nI:Int} (hz:szR x 240) (h0:0<=x) (h64:x<=64) (hn:1<=nI:=by omega) (hn2:nI<=256:=by omega):Go.Ev.Fn CX 161 [.int .i64 nI,rv x] (.bool false):=by
 have i0:=rat_Int 0;have i6:=rat_Int 64;have c1:=rat_Cmp (RatA_rv hz) (RatA_rv (int_szR (n:=0)));have c2:=rat_Cmp (RatA_rv hz) (RatA_rv (int_szR (n:=64)));have e1:decide (cmpR x ((0:Int):Rat)<0)=false:=by rw[cmpR_lt];exact decide_eq_false (yZ.2 h0)
 have e2:decide (cmpR x ((64:Int):Rat)>0)=false:=by rw[cmpR_gt];exact decide_eq_false (yZ.2 h64)
 generalize cmpR x ((0:Int):Rat)=y1 at *
 generalize cmpR x ((64:Int):Rat)=y2 at *
 clear h0 h64;refine fni Tryz.f161 ?_;unfold Tryz.f161;repeat (first|simp only[go_sem,e1,e2]|simp (disch:=first|exact omg|fail) only[AX,e1,e2]|refine wki ?_|refine vpd 1 [] ?_|refine vfa ?_)
set_option maxHeartbeats 1000000 in
theorem incg_P (hv:RatA v x 240) (h0:0<x) (h64:x<=64) (hn:1<=n) (hn2:n<=30) (hpI:(pI<=0/\P=0)\/pI=(P:Int)) (hP:P<=96\/P=128\/P=200:=by omega) :
  ∃l h lo hi:Rat,Go.Ev.Fn CX 106 [.int .i64 (n:Int),v,.int .i64 pI] (.tup [ballR l h,.bool true])/\l<=h/\szR l 400/\szR h 400/\(h-l)*p2 P<=1/\0<=lo/\lo<=hi/\lo*lo<=x/\x<=hi*hi /\
   ∀s,lo<=s->s<=hi -> ∃L0,∀L,L0<=L->l<=igV n s x L/\igV n s x L<=h:=by
 obtain⟨w,hwP,hw1,hw2⟩ : ∃w:Nat,w=P+128/\128<=w/\(w<225\/w=256\/w=328):=⟨_,rfl,by omega,by omega⟩
 have zx:=szR_of hv;have zn:=szR_neg zx;have nm:=rat_Norm hv;have io:=incg_in (nI:=(n:Int)) zx (xG h0) h64;have zr:=rat_Zero (RatA_rv zx);rw[decide_eq_false (show ¬x=0 by grind)]at zr;have ng:=rat_Neg (RatA_rv zx);have nx : -x<0:=by grind
 obtain⟨m,lm,fe,s2,hs2⟩:=exps_Exp (P:=w) (pI:=(w:Int)) (RatA_rv zn) (by omega) (by omega) (show -x≠0 by grind) (by grind) (by grind) (den_le zn) (by omega) (.inr rfl);obtain⟨A,B,lo,hi,fp,p1,p2',p3,l0,lh,l1,l2,pe⟩:=incg_power (w:=w) zx (xG h0) h64 hn hn2;have er:rv x=ratV false (lim x.num.natAbs) (lim x.den):=ervP (xG h0);have hN:x.num.natAbs<=64*x.den:=by
  have d:=Ex.denR x;have e:((x.num.natAbs:Nat):Rat)=(x.num:Rat):=by rw[<- castZn,num_abs (xG h0)]
  have dR:(0:Rat)<(x.den:Rat):=by exact_mod_cast x.den_pos
  have m:=xA h64 (xG dR);rw[d,<- e]at m;have:((x.num.natAbs:Nat):Rat)<=((64*x.den:Nat):Rat):=by rw[Ex.castmul];exact m
  exact_mod_cast this
 have hx:x*(x.den:Rat)=((x.num.natAbs:Nat):Rat):=by rw[Ex.denR x,<- castZn,num_abs (xG h0)]
 obtain⟨R1,R2,fr,r1,rB,r2,r3,re⟩:=incg_row (N:=x.num.natAbs) (D:=x.den) (w:=w) (n:=n) hn hn2 x.den_pos hN (xH zx.1 (by omega)) (xH zx.2 (by omega));have fr':=fr false;rw[<- er]at fr';obtain⟨s1,hs1⟩:=re x hx;have Pw:=p2_pos w;have hm:m<=2^w:=by
  have e:=(hs2 (s2+1) (by omega)).1;have k:=xE e (xA (ev_le1 (z := -x) nx (show 1<=s2+1 by omega)).1 (xG Pw));rw[xc]at k;exact_mod_cast k
 have P8:2^8<=2^w:=xD (by omega) (by omega);have e2:2^(w+2)=2^w*4:=xM _ _ _;have lp:=lim_len_pw (n:=2^w) (w:=w+2);have lm2:=lim_len_pw (n:=m+1) (w:=w+2);have lm1:=lim_len_mono (show m<=m+1 by omega);have lm3:=lim_len_pw (n:=m+1+1) (w:=w+2);have fb:=fix_Ball (w:=w) (lo:=mkRat (m:Int) (2^w)) (hi:=mkRat ((m+1:Nat):Int) (2^w)) (L:=200) (szR_nat) (szR_nat);rw[unN_mk,unN_mk]at fb;obtain⟨g1,g2,g3⟩:=ig_at hn hn2;obtain⟨u1,u2,u3⟩:=mulS (w:=w) p1 r1 p2' r2 p3 r3;obtain⟨y1,y2,y3⟩:=mulS (w:=w) (β:=2) (δ:=2) u1 (show m<=m+1+1 by omega) u2 (show m+1+1<=2*2^w by omega) u3 (show m+1+1<=m+2 by omega)
 have ve : ∀s,lo<=s->s<=hi -> ∃L0,∀L,L0<=L->Enc w (A*R1/2^w*m/2^w) ((B*R2/2^w+1)*(m+1+1)/2^w+1) (igV n s x L):=by
  intro s q1 q2;refine⟨s1+s2,fun L hL => ?_⟩;exact enc_mul (enc_mul (pe s q1 q2) (hs1 L (by omega))) (enc_wider (n:=1) (hs2 L (by omega)))
 clear pe hs1 hs2 re fr g2 g3 hx hN;have K:(igP n).1*((igR n).1+1)+1<=2^119:=by omega
 have tw : ∀k z Z,z<=2^k->Z<=z*2^w->Z<=2^(w+k):=by
  intro k z Z hz hZ;rw[wM w,xM];exact xH hZ (xC _ hz)
 have lA:(igP n).1<=2^119:=by
  have:=yi (igP n).1 (show 0<(igR n).1+1 by omega);omega
 have bB:=tw 119 _ _ lA p2';have uB:=tw 119 _ _ K u2;have sB:=tw 121 _ _ (by omega) y2;have up : ∀k,k<=121->2^(w+k)<2^(w+122):=fun k hk=>zS (by omega) (by omega)
 have gap:(B*R2/2^w+1)*(m+1+1)/2^w+1<=A*R1/2^w*m/2^w+2^(w-(P+2)):=by
  have:2^120<=2^(w-(P+2)):=xD (by omega) (by omega);omega
 have lB:=lim_len_pw (yM bB (up 119 (by omega)));have lA':=lim_len_mono p1;have lR:=lim_len_pw rB;have lR1:=lim_len_mono r1;have lU:=lim_len_pw (yM uB (up 119 (by omega)));have lU1:=lim_len_mono u1;have m1:=fix_Mul (a:=A) (b:=B) (c:=R1) (d:=R2) (w:=w);have m2:=fix_Mul (a:=A*R1/2^w) (b:=B*R2/2^w+1) (c:=m) (d:=m+1+1) (w:=w);have sS:(B*R2/2^w+1)*(m+1+1)/2^w+1<2^(w+10040):=xz (yM sB (up 121 (by omega))) (xD (by omega) (by omega));obtain⟨l,h,t1,-,t3,t4,t5,t6,ft⟩:=told_span (p:=P+2) y1 sS;have thin:=told_thin (p:=P) (by omega) gap;rw[<- t5,<- t6]at thin
 refine⟨l,h,lo,hi,?_,t1,t3,t4,thin,l0,lh,l1,l2,fun s q1 q2 => ?_⟩;rotate_left
 ·obtain⟨L0,hL⟩:=ve s q1 q2;refine⟨L0,fun L h => ?_⟩;have:=told_in (q:=P+2) (by omega) (hL L h);rw[<- t5,<- t6]at this;exact this
 have x1:(if (0:Int)>pI then (0:Int) else pI)=(P:Int):=by split<;>omega
 have x2:(if (200:Int)<(P:Int) then (200:Int) else (P:Int))=(P:Int):=if_neg (by omega);clear ve thin t1 t3 t4 t5 t6 sS gap lB lA' lR lR1 lU lU1 up sB uB bB lA tw K y1 y2 y3 u1 u2 u3 g1 l0 lh l1 l2 p1 p2' p3 r1 r2 r3 rB lp lm lm1 lm2 lm3 P8 e2 hm h0 h64 zn hpI nx;rw[er]at nm io zr ng fp fr';rw[show ((w:Nat):Int)=(P:Int)+128 by omega]at fp fr' fe fb m1 m2 ft;rw[show ((P+2:Nat):Int)=(P:Int)+2 from rfl]at ft;generalize mkRat (m:Int) (2^w)=q1 at *
 generalize mkRat ((m+1:Nat):Int) (2^w)=q2 at *
 generalize A*R1/2^w*m/2^w=S1 at *
 generalize (B*R2/2^w+1)*(m+1+1)/2^w+1=S2 at *
 generalize A*R1/2^w=U1 at *
 generalize B*R2/2^w+1=U2 at *
 generalize m+1+1=m2' at *
 generalize -x=nx at *
 obtain⟨s0,n0,d0,rfl,-⟩:=hv;refine fni Tryz.f106 ?_;unfold Tryz.f106;repeat (first|simp only[go_sem,x1,x2,xg]|simp (disch:=first|exact omg|fail) only[AX,x1,x2,xg]|refine wki ?_|refine vpd 3 [] ?_|refine vpd 7 [] ?_|refine vpd 8 [] ?_|refine vfa ?_)
end
end Go.Proofs.YtfknkoeagjonbaaGreat
namespace Go.Proofs.YtfknkoeagjonbaaGreat
open Go.Ev
theorem enc_oftenN {w a b:Nat} {q:Rat} (h:Enc w a b q):Enc w (a*2) (b*2) (q*2):=by
 obtain⟨h1,h2⟩:=h;unfold Enc;rw[Ex.castmul,Ex.castmul,show ((2:Nat):Rat)=2 from rfl];constructor<;>grind
theorem two_szR:szR 2 1:=⟨lim_len_lt (by decide +kernel),lim_len_lt (by decide +kernel)⟩
theorem rt_encB {lo hi W:Nat} (h1:(lo:Rat)<=SQ*SQ*p2 W) (h2:SQ*SQ*p2 W<=(hi:Rat)):Enc W (rtN (lo*2^W)) (rtN (hi*2^W)+1) SQ:=by
 have P:=p2_pos W;have e:(SQ*p2 W)*(SQ*p2 W)=SQ*SQ*p2 W*p2 W:=by grind
 have s0:0<=SQ*p2 W:=xF (by have:=SQ_one;grind) (by grind);have g1:=Ex.castle (rtN_le (lo*2^W));have g2:=Ex.castle (zf (lt_rtN (hi*2^W)));rw[Ex.castmul,Ex.castmul]at g1 g2;refine⟨sq_mono (nat_nonneg _) s0 ?_,sq_mono s0 (nat_nonneg _) ?_⟩
 ·rw[e];exact xE g1 (xA h1 (by grind))
 ·rw[e];exact xE (xA h2 (by grind)) g2
section
variable {v:SV} {x:Rat} {w n:Nat}
set_option maxHeartbeats 1000000 in
theorem ref11_row (hv:RatA v x 240) (h0:0<=x) (h64:x<=64) (hn:1<=n) (hn2:n<=30) (hw0:64<=w:=by omega) (hw:w<=900:=by omega) :
  ∃A B:Nat,Go.Ev.Fn CX 222 [.int .i64 (n:Int),v,.int .i64 (w:Int)] (ivN A B)/\A<=B/\(lim B).length<=100 /\ ∃s0,∀L,s0<=L->Enc w A B (sk (x*2) (n+2) L):=by
 have zx:=szR_of hv;have z2:=szR_mul zx two_szR;have y0:0<=x*2:=by grind
 have i2:=ref2_Int 2;have mu:=ref2_Mul hv (RatA_rv (int_szR (n:=2)));rw[show ((2:Int):Rat)=2 from rfl]at i2 mu;have nb:=ref4_NumN (w:=w) (RatA_rv z2) (by omega) (by omega) (by omega) y0;have n1:=ref4_NumN (w:=w) (RatA_rv (one_szR')) (by omega) (by omega) (by omega) (show (0:Rat)<=1 by decide);have u1:unN 1 w=2^w:=by show 1*2^w/1=_;rw[xe,zK]
 have u2:upN 1 w=2^w:=by show cdv (1*2^w) 1=_;unfold cdv;rw[xe,zK];omega
 rw[u1,u2]at n1;have i1:=ref2_Int 1;rw[show ((1:Int):Rat)=1 from rfl]at i1;have en:=num_enc y0 w;have y12:=un_up (q:=x*2) w;have yT:upN (x*2) w<=2^w*128:=upN_le (n:=128) (m:=1) y0 (by
  rw[show ((128:Nat):Rat)=128 from rfl,show ((1:Nat):Rat)=1 from rfl];grind)
 have P8:2^8<=2^w:=xD (by omega) (by omega);have ok:=dInv_0 w (n+2);obtain⟨F,hF⟩ : ∃F:Nat,F=2100:=⟨_,rfl⟩
 obtain⟨A,B,hr,hAB,hB⟩:=dRow_end (y:=x*2) (k0:=n+2) yT y12 (by omega) (by grind) (by omega) (by omega) 127 F 0 (n+2) _ _ _ _ ok (by omega) (by omega) (by omega);have e7:2^(w+8)=2^w*256:=xM _ _ _;have lB:=lim_len_pw (n:=B) (w:=w+909) (yM hB (zS (by omega) (by omega)));have ly2:=lim_len_pw (n:=upN (x*2) w) (w:=w+8);refine⟨A,B,?_,hAB,by omega,dRow_enc (by omega) en F 0 _ _ _ _ A B hr sq_one (by show Enc w _ _ (0+1);rw[Rat.zero_add];exact sq_one)⟩
 have lens:=fun (i k t1 t2 s1 s2:Nat) (hi:i<=F) (h:dInv w (n+2) i k t1 t2 s1 s2)=>(show (lim t1).length<=100/\(lim t2).length<=100/\(lim s1).length<=100/\(lim s2).length<=100/\8<=s1 from by
  obtain⟨q1,q2,q3,q4,q5,q6⟩:=h;have up:2^(w+7*min i 128)<2^(w+897):=zS (by omega) (by omega);have a:=lim_len_pw (n:=t2) (w:=w+897);have b:=lim_len_mono q2;have s:(i+1)*2^(w+896)<2^(w+909):=by
   rw[show w+909=13+(w+896) by omega,xM 2 13];exact yq (by omega) (xK (by omega))
  have c:=lim_len_pw (n:=s2) (w:=w+909);have d:=lim_len_mono q5;exact⟨by omega,by omega,by omega,by omega,by omega⟩)
 have step:=fun (i k t1 t2 s1 s2:Nat) (h:dInv w (n+2) i k t1 t2 s1 s2)=>dInv_step yT y12 (show 1<=n+2 by omega) h
 have w2:=ref4_Whole 2;rw[show (2:Int)=((2:Nat):Int) from rfl,intN_eq]at w2;have l2:(lim 2).length<=1:=lim_len_one (by decide);have j4:=ref2_Int 4;have m4:=ref2_Mul hv (RatA_rv (int_szR (n:=4)));have zm:=szR_mul zx (int_szR (n:=4));have e4:x*((4:Int):Rat)=x*2+x*2:=by rw[show ((4:Int):Rat)=4 from rfl];exact dbl_four x
 rw[e4]at m4 zm;obtain⟨W1,hW1⟩ : ∃W1:Nat,W1=2^w:=⟨_,rfl⟩
 rw[<- hW1]at n1 ok hr;have rnd : ∀ (k t1 t2:Nat),0<k->k<10000->t1<=t2->(lim t2).length<=100->Go.Ev.Fn CX 190 [ivN t1 t2,ivN (unN (x*2) w) (upN (x*2) w),.int .i64 (w:Int)] (ivN (t1*unN (x*2) w/2^w) (cdv (t2*upN (x*2) w) (2^w))) /\
   Go.Ev.Fn CX 259 [ivN (t1*unN (x*2) w/2^w) (cdv (t2*upN (x*2) w) (2^w)),.int .i64 (k:Int)] (ivN (t1*unN (x*2) w/2^w/k) (cdv (cdv (t2*upN (x*2) w) (2^w)) k)):=by
  intro k t1 t2 hk hk2 ht lt;have P:0<2^w:=xK (by omega);have z:=lim_len_mul (a:=t2) (b:=upN (x*2) w);have z2:=lim_len_mono (cdv_self (t2*upN (x*2) w) P);have v12:t1*unN (x*2) w/2^w<=cdv (t2*upN (x*2) w) (2^w):=div_le_cdv P (xO ht y12);have z3:=lim_len_mono v12;exact⟨ref4_ProdN ht y12,ref4_ByN (by omega) (by omega) hk⟩
 clear u1 u2 en hAB hB lB e7 P8 yT;generalize unN (x*2) w=y1 at *
 generalize upN (x*2) w=y2 at *
 generalize hy:x*2=y at *
 obtain⟨s0,n0,d0,rfl,-⟩:=hv;refine fni Tryz.f222 ?_;unfold Tryz.f222;repeat (first|simp only[go_sem]|simp (disch:=first|exact omg|fail) only[AX]|refine wki ?_|refine vpd 1 [] ?_|refine vpd 3 [] ?_|refine vpd 8 [] ?_|refine vfa ?_)
 refine vp_loop_inv (fun s=>s.tmp 0 = .sv (.int .i64 (n:Int))/\s.tmp 2 = .sv (.int .i64 (w:Int))/\s.tmp 4 = .ptr 4 0 0/\s.obj 4 0=some [.bool s0,natV n0,natV d0]/\s.tmp 6 = .ptr 6 0 0/\s.obj 6 0=some [.bool false,.sl 0 [],.bool false,.sl 0 []] /\
   s.tmp 7 = .ptr 7 0 0/\s.obj 7 0=some [.bool false,natV (lim y1),.bool false,natV (lim y2)]/\s.tmp 9 = .ptr 9 0 0/\s.tmp 10 = .ptr 10 0 0 /\
   ∃f i t1 t2 s1 s2:Nat,s.tmp 11 = .sv (.int .i64 ((i+1:Nat):Int))/\f+i=F/\dRow w y1 y2 y f (n+2+2*i) t1 t2 s1 s2=some (A,B)/\s.obj 9 0=some [.bool false,natV (lim s1),.bool false,natV (lim s2)]/\s.obj 10 0=some [.bool false,natV (lim t1),.bool false,natV (lim t2)]/\dInv w (n+2) i (n+2+2*i) t1 t2 s1 s2)
  (fun s=>match s.tmp 11 with | .sv (.int _ i)=>F+2-i.toNat|_=>0) ⟨rfl,rfl,rfl,rfl,rfl,rfl,rfl,rfl,rfl,rfl,F,0,_,_,_,_,rfl,by omega,hr,rfl,rfl,ok⟩ ?_
 rintro s ⟨i0,i2',i4,o4,i6,o6,i7,o7,i9,i10,f,i,t1,t2,s1,s2,i11,hfi,hgo,o9,o10,hok⟩
 obtain⟨lt1,lt2,la1,la2,-⟩:=lens i _ t1 t2 s1 s2 (by omega) hok;have st:=step i _ t1 t2 s1 s2 hok;cases f with
 |zero=>simp only[dRow]at hgo;cases hgo
 |succ f=>
  obtain⟨lu1,lu2,lb1,lb2,ge8⟩:=lens (i+1) (n+2+2*i+2) _ _ _ _ (by omega) st;obtain⟨pr,by1⟩:=rnd (n+2+2*i) t1 t2 (by omega) (by omega) hok.2.1 lt2;have u12:=st.2.1;rw[dRow]at hgo;generalize t1*y1/2^w/(n+2+2*i)=u1 at *
  generalize cdv (cdv (t2*y2) (2^w)) (n+2+2*i)=u2 at *
  generalize t1*y1/2^w=v1 at *
  generalize cdv (t2*y2) (2^w)=v2' at *
  have sm:=ref4_SumNN (a:=s1) (b:=s2) (c:=u1) (d:=u2);have mo:=ref4_MostN (a:=u1) (b:=u2) u12;have cc:=ref4_CmpN (a:=u2) (b:=2);have ec:decide (cmpZ ((u2:Nat):Int) ((2:Nat):Int)<=0)=decide (u2<=2):=by rw[cmpZ_le];exact decide_eq_decide.2 (by omega)
  generalize cmpZ ((u2:Nat):Int) ((2:Nat):Int)=z at *
  have j2:=ref2_Int ((n+2+2*i+2:Nat):Int);have cm:=ref2_Cmp (RatA_rv zm) (RatA_rv (int_szR (n:=((n+2+2*i+2:Nat):Int))));have ex:decide (cmpR (y+y) (((n+2+2*i+2:Nat):Int):Rat)<=0)=decide (y+y<=((n+2+2*i+2:Nat):Rat)):=cmpR_le;generalize cmpR (y+y) (((n+2+2*i+2:Nat):Int):Rat)=zc at *
  have wd:=ref4_WideN (a:=s1+u1) (b:=s2+u2) (n:=8) (by omega) (by omega) ge8;generalize hNI:((n+2+2*i+2:Nat):Int)=NI at *
  generalize hNR:((n+2+2*i+2:Nat):Rat)=NR at *
  generalize (NI:Rat)=NIR at *
  rw[<- hNI,show ((n+2+2*i+2:Nat):Int)=(n:Int)+2*((i:Int)+1)+2 by omega]at j2;rw[show ((n+2+2*i:Nat):Int)=(n:Int)+2*((i:Int)+1) by omega]at by1;rw[show ((i+1:Nat):Int)=(i:Int)+1 by omega]at i11;generalize y+y=yy at *
  clear lens step rnd hr hy;by_cases hu:u2<=2
  ·rw[decide_eq_true hu]at ec;by_cases hx:yy<=NR
   ·rw[decide_eq_true hx]at ex;rw[if_pos ⟨hu,hx⟩]at hgo;simp only[Option.some.injEq,Prod.mk.injEq]at hgo;rw[hgo.1,hgo.2]at wd;clear hgo st hok;repeat (first|simp only[go_sem,i0,i2',i4,o4,i6,o6,i7,o7,i9,i10,i11,o9,o10,ec,ex]|simp (disch:=first|exact omg|fail) only[AX,i0,i2',i4,o4,i6,o6,i7,o7,i9,i10,i11,o9,o10,ec,ex]|refine wki ?_|refine vpd 1 [] ?_|refine vpd 3 [] ?_|refine vpd 8 [] ?_|refine vf_of (by first|exact pr|exact by1|exact sm|exact mo|exact w2|exact cc|exact j4|exact m4|exact j2|exact cm|exact wd) ?_)
   ·rw[decide_eq_false hx]at ex;rw[if_neg (fun h=>hx h.2)]at hgo;repeat (first|simp only[go_sem,i0,i2',i4,o4,i6,o6,i7,o7,i9,i10,i11,o9,o10,ec,ex]|simp (disch:=first|exact omg|fail) only[AX,i0,i2',i4,o4,i6,o6,i7,o7,i9,i10,i11,o9,o10,ec,ex]|refine wki ?_|refine vpd 1 [] ?_|refine vpd 3 [] ?_|refine vpd 8 [] ?_|refine vf_of (by first|exact pr|exact by1|exact sm|exact mo|exact w2|exact cc|exact j4|exact m4|exact j2|exact cm) ?_)
    exact⟨⟨f,i+1,u1,u2,s1+u1,s2+u2,by first|rfl|(congr 2;omega),by omega,by rw[show n+2+2*(i+1)=n+2+2*i+2 by omega];exact hgo,rfl,rfl,by rw[show n+2+2*(i+1)=n+2+2*i+2 by omega];exact st⟩,by omega⟩
  ·rw[decide_eq_false hu]at ec;rw[if_neg (fun h=>hu h.1)]at hgo;repeat (first|simp only[go_sem,i0,i2',i4,o4,i6,o6,i7,o7,i9,i10,i11,o9,o10,ec]|simp (disch:=first|exact omg|fail) only[AX,i0,i2',i4,o4,i6,o6,i7,o7,i9,i10,i11,o9,o10,ec]|refine wki ?_|refine vpd 1 [] ?_|refine vpd 3 [] ?_|refine vpd 8 [] ?_|refine vf_of (by first|exact pr|exact by1|exact sm|exact mo|exact w2|exact cc) ?_)
   exact⟨⟨f,i+1,u1,u2,s1+u1,s2+u2,by first|rfl|(congr 2;omega),by omega,by rw[show n+2+2*(i+1)=n+2+2*i+2 by omega];exact hgo,rfl,rfl,by rw[show n+2+2*(i+1)=n+2+2*i+2 by omega];exact st⟩,by omega⟩
end
end Go.Proofs.YtfknkoeagjonbaaGreat
namespace Go.Proofs.YtfknkoeagjonbaaGreat
open Go.Ev
theorem ref10_Hold {p:Nat} (hp:p<=200:=by omega):Go.Ev.Fn CX 118 [.int .i64 (p:Int)] (.int .i64 (p:Int)):=by
 have e1:(if (0:Int)>(p:Int) then (0:Int) else (p:Int))=(p:Int):=if_neg (by omega);have e2:(if (200:Int)<(p:Int) then (200:Int) else (p:Int))=(p:Int):=if_neg (by omega);refine fni Tryz.f118 ?_;unfold Tryz.f118;repeat (first|simp only[go_sem,e1,e2]|simp (disch:=first|exact omg|fail) only[AX,e1,e2]|refine wki ?_)
section
variable {v:SV} {x:Rat} {L a b p:Nat}
theorem half_len:szR (mkRat 1 2) 1:=⟨lim_len_lt (by decide +kernel),lim_len_lt (by decide +kernel)⟩
theorem ref12_I_ends (hv:RatA v x L) (hL1:1<=L) (hL:L<=300) (ha:1<=a) (ha2:a<=256) (hb:1<=b) (hb2:b<=256) (h:x=0\/x=1) {pI:Int}:Go.Ev.Fn CX 62 [.int .i64 (a:Int),.int .i64 (b:Int),v,.int .i64 pI] (.tup [ballR x x,.bool true]):=by
 have zx:=szR_of hv hL1;have i1:=ref2_Int 1;have i0:=ref2_Int 0;have z0:szR ((0:Int):Rat) 2:=int_szR;have z1:szR ((1:Int):Rat) 2:=int_szR;have o:=ref4_Of (RatA_rv z0);have o1:=ref4_Of (RatA_rv z1);have c0:=ref2_Cmp hv (RatA_rv z0) hL1;have c1:=ref2_Cmp hv (RatA_rv z1) hL1;have zr:=ref2_Zero hv hL1;have sm:=ref2_Same hv (RatA_rv z1) hL1;rw[show ((0:Int):Rat)=0 from rfl]at i0 o c0;rw[show ((1:Int):Rat)=1 from rfl]at i1 c1 sm o1;have e0:decide (cmpR x 0<0)=false:=by rw[cmpR_lt];exact decide_eq_false (by rcases h with rfl|rfl<;>decide)
 have e1:decide (cmpR x 1>0)=false:=by rw[cmpR_gt];exact decide_eq_false (by rcases h with rfl|rfl<;>decide)
 generalize cmpR x 0=y0 at *
 generalize cmpR x 1=y1 at *
 obtain⟨s,n,d,rfl,-⟩:=hv;rcases h with rfl|rfl
 ·rw[decide_eq_true rfl]at zr;refine fni Tryz.f62 ?_;unfold Tryz.f62;repeat (first|simp only[go_sem,e0,e1]|simp (disch:=first|exact omg|fail) only[AX,e0,e1]|refine wki ?_|refine vpd 3 [] ?_|refine vpd 10 [59,60] ?_|refine vpd 13 [] ?_|refine vfa ?_)
 ·rw[decide_eq_false (show ¬(1:Rat)=0 by decide)]at zr;rw[decide_eq_true rfl]at sm;refine fni Tryz.f62 ?_;unfold Tryz.f62;repeat (first|simp only[go_sem,e0,e1]|simp (disch:=first|exact omg|fail) only[AX,e0,e1]|refine wki ?_|refine vpd 3 [] ?_|refine vpd 10 [59,60] ?_|refine vpd 13 [] ?_|refine vfa ?_)
theorem ref12_I_lo {A B:Nat} (hv:RatA v x L) (hL1:1<=L) (hL:L<=260) (ha:1<=a) (ha2:a<=22) (hb:1<=b) (hb2:b<=22) (hp:p<=160) (h0:0<x) (h1:x+x<=1)
  (co:Go.Ev.Fn CX 120 [.int .i64 (a:Int),.int .i64 (b:Int),v,.int .i64 ((p+40:Nat):Int)] (ivN A B)) (hA:(lim A).length<=100:=by omega) (hB:(lim B).length<=100:=by omega) :
  Go.Ev.Fn CX 62 [.int .i64 (a:Int),.int .i64 (b:Int),v,.int .i64 ((p:Int)+20)] (.tup [ballR (mkRat (A:Int) (2^(p+40))) (mkRat (B:Int) (2^(p+40))),.bool true]):=by
 have zx:=szR_of hv hL1;have i1:=ref2_Int 1;have i0:=ref2_Int 0;have z0:szR ((0:Int):Rat) 2:=int_szR;have z1:szR ((1:Int):Rat) 2:=int_szR;have o:=ref4_Of (RatA_rv z0);have c0:=ref2_Cmp hv (RatA_rv z0) hL1;have c1:=ref2_Cmp hv (RatA_rv z1) hL1;have zr:=ref2_Zero hv hL1;have sm:=ref2_Same hv (RatA_rv z1) hL1;have ho:=ref10_Hold (p:=p+20);have oh:=ref2_Of false [1] [2] (by simp[okL]) (by simp[okL]) (by simp) (by simp);rw[show wth [1]=1 from rfl,show wth [2]=2 from rfl]at oh;have oh':Go.Ev.Fn CX 39 [.bool false,.sl 1 [.int .u32 1],.sl 1 [.int .u32 2]] (rv (mkRat 1 2)):=oh
 have ch:=ref2_Cmp hv (RatA_rv half_len) hL1;have bl:=ref4_Ball (a:=(A:Int)) (b:=(B:Int)) (by rw[xJ];omega) (by rw[xJ];omega) (p+40) (by omega);rw[ivN_eq]at bl;rw[show ((0:Int):Rat)=0 from rfl]at i0 o c0;rw[show ((1:Int):Rat)=1 from rfl]at i1 c1 sm;rw[decide_eq_false (by grind)]at zr;rw[decide_eq_false (show ¬x=1 by grind)]at sm;have e0:decide (cmpR x 0<0)=false:=by rw[cmpR_lt];exact decide_eq_false (by grind)
 have e1:decide (cmpR x 1>0)=false:=by rw[cmpR_gt];exact decide_eq_false (by grind)
 have eh:decide (cmpR x (mkRat 1 2)<=0)=true:=by
  rw[cmpR_le];have:mkRat 1 2*2=1:=by decide +kernel
  exact decide_eq_true (by grind)
 have e3:(p:Int)+20+20=(p:Int)+40:=by omega
 rw[show ((p+20:Nat):Int)=(p:Int)+20 from rfl]at ho;rw[show ((p+40:Nat):Int)=(p:Int)+40 from rfl]at co bl;clear h0 h1 oh;generalize mkRat 1 2=hf at *
 generalize cmpR x 0=y0 at *
 generalize cmpR x 1=y1 at *
 generalize cmpR x hf=y2 at *
 generalize mkRat (A:Int) (2^(p+40))=u1 at *
 generalize mkRat (B:Int) (2^(p+40))=u2 at *
 obtain⟨s,n,d,rfl,-⟩:=hv;refine fni Tryz.f62 ?_;unfold Tryz.f62;repeat (first|simp only[go_sem,e0,e1,eh,e3]|simp (disch:=first|exact omg|fail) only[AX,e0,e1,eh,e3]|refine wki ?_|refine vpd 3 [] ?_|refine vpd 10 [59,60] ?_|refine vpd 13 [] ?_|refine vfa ?_)
theorem ref12_I_hi {A B:Nat} (hv:RatA v x L) (hL1:1<=L) (hL:L<=260) (ha:1<=a) (ha2:a<=22) (hb:1<=b) (hb2:b<=22) (hp:p<=160) (h0:1<x+x) (h1:x<1)
  (co:Go.Ev.Fn CX 120 [.int .i64 (b:Int),.int .i64 (a:Int),rv (1-x),.int .i64 ((p+40:Nat):Int)] (ivN A B)) (hA:(lim A).length<=100:=by omega) (hB:(lim B).length<=100:=by omega) :
  Go.Ev.Fn CX 62 [.int .i64 (a:Int),.int .i64 (b:Int),v,.int .i64 ((p:Int)+20)] (.tup [ballR (mkRat (((2^(p+40):Nat):Int)-(B:Int)) (2^(p+40))) (mkRat (((2^(p+40):Nat):Int)-(A:Int)) (2^(p+40))),.bool true]):=by
 have zx:=szR_of hv hL1;have i1:=ref2_Int 1;have i0:=ref2_Int 0;have z0:szR ((0:Int):Rat) 2:=int_szR;have z1:szR ((1:Int):Rat) 2:=int_szR;have o:=ref4_Of (RatA_rv z0);have c0:=ref2_Cmp hv (RatA_rv z0) hL1;have c1:=ref2_Cmp hv (RatA_rv z1) hL1;have zr:=ref2_Zero hv hL1;have sm:=ref2_Same hv (RatA_rv z1) hL1;have ho:=ref10_Hold (p:=p+20);have oh:=ref2_Of false [1] [2] (by simp[okL]) (by simp[okL]) (by simp) (by simp);rw[show wth [1]=1 from rfl,show wth [2]=2 from rfl]at oh;have oh':Go.Ev.Fn CX 39 [.bool false,.sl 1 [.int .u32 1],.sl 1 [.int .u32 2]] (rv (mkRat 1 2)):=oh
 have ch:=ref2_Cmp hv (RatA_rv half_len) hL1;have lP:=lim_len_p2 (n:=2^(p+40)) (xQ _);have n1:=ref4_NumN (w:=p+40) (RatA_rv (one_szR')) (by omega) (by omega) (by omega) (show (0:Rat)<=1 by decide);have u1:unN 1 (p+40)=2^(p+40):=by show 1*2^(p+40)/1=_;rw[xe,zK]
 have u2:upN 1 (p+40)=2^(p+40):=by show cdv (1*2^(p+40)) 1=_;unfold cdv;rw[xe,zK];omega
 rw[u1,u2]at n1;have mi:=ref4_MinusN (x:=((2^(p+40):Nat):Int)) (y:=((2^(p+40):Nat):Int)) (c:=A) (d:=B) (by rw[xJ];omega) (by rw[xJ];omega);rw[ivN_eq]at mi;have sb:=ref2_Sub (RatA_rv z1) hv (by omega) hL1;have la:=lim_len_add (a:=2^(p+40)) (b:=A) (L:=200);have lb:=lim_len_add (a:=2^(p+40)) (b:=B) (L:=200);have bl:=ref4_Ball (a:=((2^(p+40):Nat):Int)-(B:Int)) (b:=((2^(p+40):Nat):Int)-(A:Int)) (xH (lim_len_mono (show _<=2^(p+40)+B by omega)) (by omega)) (xH (lim_len_mono (show _<=2^(p+40)+A by omega)) (by omega)) (p+40) (by omega);rw[show ((0:Int):Rat)=0 from rfl]at i0 o c0
 rw[show ((1:Int):Rat)=1 from rfl]at i1 c1 sm sb;rw[decide_eq_false (by grind)]at zr;rw[decide_eq_false (show ¬x=1 by grind)]at sm;have e0:decide (cmpR x 0<0)=false:=by rw[cmpR_lt];exact decide_eq_false (by grind)
 have e1:decide (cmpR x 1>0)=false:=by rw[cmpR_gt];exact decide_eq_false (by grind)
 have eh:decide (cmpR x (mkRat 1 2)<=0)=false:=by
  rw[cmpR_le];have:mkRat 1 2*2=1:=by decide +kernel
  exact decide_eq_false (by grind)
 have e3:(p:Int)+20+20=(p:Int)+40:=by omega
 rw[show ((p+20:Nat):Int)=(p:Int)+20 from rfl]at ho;rw[show ((p+40:Nat):Int)=(p:Int)+40 from rfl]at co bl n1;clear h0 h1 oh u1 u2 la lb lP;generalize mkRat 1 2=hf at *
 generalize cmpR x 0=y0 at *
 generalize cmpR x 1=y1 at *
 generalize cmpR x hf=y2 at *
 generalize ((2^(p+40):Nat):Int)-(A:Int)=U1 at *
 generalize ((2^(p+40):Nat):Int)-(B:Int)=U2 at *
 generalize mkRat U1 (2^(p+40))=w1 at *
 generalize mkRat U2 (2^(p+40))=w2 at *
 generalize 2^(p+40)=PP at *
 generalize 1-x=xx at *
 obtain⟨s,n,d,rfl,-⟩:=hv;refine fni Tryz.f62 ?_;unfold Tryz.f62;repeat (first|simp only[go_sem,e0,e1,eh,e3]|simp (disch:=first|exact omg|fail) only[AX,e0,e1,eh,e3]|refine wki ?_|refine vpd 3 [] ?_|refine vpd 10 [59,60] ?_|refine vpd 13 [] ?_|refine vfa ?_)
end
end Go.Proofs.YtfknkoeagjonbaaGreat
namespace Go.Proofs.YtfknkoeagjonbaaGreat
open Go.Ev
def fRow (w Y1 Y2:Nat):Nat->Nat->Nat->Nat->Nat×Nat
 |0,_,a,b=>(a,b)
 |f+1,k,a,b=>fRow w Y1 Y2 f (k+2) (a*Y1/2^w/k*2) (cdv (cdv (b*Y2) (2^w)) k*2)
theorem fRow_enc {w Y1 Y2 k0:Nat} {x c:Rat} (hk0:1<=k0) (hx:Enc w Y1 Y2 x) : ∀ (f i a b:Nat),Enc w a b (c*tk (x*2) k0 i)->Enc w (fRow w Y1 Y2 f (k0+2*i) a b).1 (fRow w Y1 Y2 f (k0+2*i) a b).2 (c*tk (x*2) k0 (i+f))
 |0,i,a,b,h=>h
 |f+1,i,a,b,h=>by
  have e1:=enc_oftenN (enc_byN (n:=1) (m:=k0+2*i) (by omega) (enc_prodN h hx));rw[yD,yD]at e1;have e2:c*tk (x*2) k0 i*x*((1:Nat):Rat)/((k0+2*i:Nat):Rat)*2=c*tk (x*2) k0 (i+1):=by
   show _=c*(tk (x*2) k0 i*(x*2)*((1:Nat):Rat)/((k0+2*i:Nat):Rat))
   rw[xk,xk];grind
  rw[e2]at e1;have ih:=fRow_enc hk0 hx f (i+1) _ _ e1;rw[show i+1+f=i+(f+1) by omega]at ih;exact ih
section
variable {v:SV} {x:Rat} {w n:Nat}
theorem front_step (hx:0<=x) (hw0:8<=w) (hw:w<=1000) (lY:(lim (upN x w)).length<=40) : ∀ (k a b:Nat),0<k->k<1000->a<=b->(lim b).length<=3000->Go.Ev.Fn CX 190 [ivN a b,ivN (unN x w) (upN x w),.int .i64 (w:Int)] (ivN (a*unN x w/2^w) (cdv (b*upN x w) (2^w))) /\
  Go.Ev.Fn CX 259 [ivN (a*unN x w/2^w) (cdv (b*upN x w) (2^w)),.int .i64 (k:Int)] (ivN (a*unN x w/2^w/k) (cdv (cdv (b*upN x w) (2^w)) k)) /\
  Go.Ev.Fn CX 258 [ivN (a*unN x w/2^w/k) (cdv (cdv (b*upN x w) (2^w)) k),.int .i64 2] (ivN (a*unN x w/2^w/k*2) (cdv (cdv (b*upN x w) (2^w)) k*2)) /\
  a*unN x w/2^w/k*2<=cdv (cdv (b*upN x w) (2^w)) k*2/\(lim (cdv (cdv (b*upN x w) (2^w)) k*2)).length<=(lim b).length+41:=by
 intro k a b hk hk2 hab lb;have P:0<2^w:=xK (by omega);have y12:=un_up (q:=x) w;have z:=lim_len_mul (a:=b) (b:=upN x w);have z2:=lim_len_mono (cdv_self (b*upN x w) P);have v12:a*unN x w/2^w<=cdv (b*upN x w) (2^w):=div_le_cdv P (xO hab y12);have z3:=lim_len_mono v12;have w12:a*unN x w/2^w/k<=cdv (cdv (b*upN x w) (2^w)) k:=div_le_cdv hk v12;have z4:=lim_len_mono (cdv_self (cdv (b*upN x w) (2^w)) hk);have z5:=lim_len_mono w12;have z6:=lim_len_mul (a:=cdv (cdv (b*upN x w) (2^w)) k) (b:=2);have l2:(lim 2).length<=1:=lim_len_one (by decide)
 exact⟨ref4_ProdN hab y12,ref4_ByN (by omega) (by omega) hk,ref4_OftenN (n:=2),xC _ w12,by omega⟩
set_option maxHeartbeats 1000000 in
theorem ref11_front (hv:RatA v x 240) (h0:0<=x) (h64:x<=64) (hn:1<=n) (hn2:n<=30) (hw0:64<=w:=by omega) (hw:w<=400:=by omega) :
  ∃A B:Nat,∃lo hi:Rat,Go.Ev.Fn CX 221 [.int .i64 (n:Int),v,.int .i64 (w:Int)] (ivN A B)/\A<=B/\(lim B).length<=1000/\0<=lo/\0<=hi/\lo*lo<=x/\x<=hi*hi /\ ∀s,lo<=s->s<=hi->Enc w A B (igC n s*tk (x*2) (2+n%2) (n/2)):=by
 have nb:=ref4_NumN (w:=w) hv (by omega) (by omega) (by omega) h0;have n1:=ref4_NumN (w:=w) (RatA_rv (one_szR')) (by omega) (by omega) (by omega) (show (0:Rat)<=1 by decide);have u1:unN 1 w=2^w:=by show 1*2^w/1=_;rw[xe,zK]
 have u2:upN 1 w=2^w:=by show cdv (1*2^w) 1=_;unfold cdv;rw[xe,zK];omega
 rw[u1,u2]at n1;have i1:=ref2_Int 1;rw[show ((1:Int):Rat)=1 from rfl]at i1;have en:=num_enc h0 w;have y12:=un_up (q:=x) w;have yT:upN x w<=2^w*64:=upN_le (n:=64) (m:=1) h0 (by
  rw[show ((64:Nat):Rat)=64 from rfl,show ((1:Nat):Rat)=1 from rfl];grind)
 have e6:2^(w+6)=2^w*64:=xM _ _ _;have e3:2^(w+3)=2^w*8:=xM _ _ _;have P:2^8<=2^w:=xD (by omega) (by omega);have lY:=lim_len_p2 (n:=upN x w) (w:=w+6);have step:=front_step h0 (show 8<=w by omega) (by omega) lY;have rem:(n:Int).tmod 2=((n%2:Nat):Int):=_root_.id rfl;have l2:(lim 2).length<=1:=lim_len_one (by decide);obtain⟨s1,s2,a0,a1,a2,a3,es⟩:=sqrt_pts h0 en;by_cases hod:n%2=1
 ·obtain⟨PL,PH,hpi,p1,p2',p3,p4,p5⟩:=iv_piB (W:=w);have fp:=ref8_PiIv (w:=w) (by omega) hpi;have lPH:=lim_len_p2 (n:=PH) p5;have lPL:=lim_len_mono p4;have sq1:=ref4_SqrtN (a:=unN x w) (b:=upN x w) (w:=w) (xH (lim_len_mono y12) (by omega));have sq2:=ref4_SqrtN (a:=PL) (b:=PH) (w:=w);have q12:rtN (unN x w*2^w)<=rtN (upN x w*2^w)+1:=yP (rtN_mono (xC _ y12));have r12:rtN (PL*2^w)<=rtN (PH*2^w)+1:=yP (rtN_mono (xC _ p4));have rl:2^w<=rtN (PL*2^w):=by
   have h:=rtN_mono (xC (2^w) p3);rw[<- rtN_eq (a:=2^w*2^w) (r:=2^w) (xQ _) (Nat.mul_lt_mul'' (by omega) (by omega))]at h;exact h
  have big : ∀m,m<=2^(w+6)->(lim (rtN (m*2^w)+1)).length<=40:=by
   intro m hm;have a:m*2^w<=2^(w+6+w):=by rw[xM _ (w+6) w];exact xC _ hm
   have b:=rtN_self (m*2^w);refine lim_len_p2 (w:=w+6+w+1) ?_;rw[xU];have:0<2^(w+6+w):=xK (by omega);omega
  have lq:=big _ (show upN x w<=2^(w+6) by omega);have lr:=big PH (xH p5 (xD (by omega) (by omega)));have lq1:=lim_len_mono q12;have lr1:=lim_len_mono r12;have rp:0<rtN (PL*2^w):=by omega
  have of1:=ref4_OftenN (a:=rtN (unN x w*2^w)) (b:=rtN (upN x w*2^w)+1) (n:=2);have iv:=ref4_InvN (a:=rtN (PL*2^w)) (b:=rtN (PH*2^w)+1) (w:=w) rp r12;have i12:2^(2*w)/(rtN (PH*2^w)+1)<=cdv (2^(2*w)) (rtN (PL*2^w)):=xH (ww r12 rp) (div_le_cdv rp (xQ _));have li:=lim_len_p2 (n:=cdv (2^(2*w)) (rtN (PL*2^w))) (w:=2*w) (cdv_self _ rp);have lo:=lim_len_mul (a:=rtN (upN x w*2^w)+1) (b:=2);have pr:=ref4_ProdN (a:=rtN (unN x w*2^w)*2) (b:=(rtN (upN x w*2^w)+1)*2) (c:=2^(2*w)/(rtN (PH*2^w)+1)) (d:=cdv (2^(2*w)) (rtN (PL*2^w))) (w:=w) (xC _ q12) i12
  have S12:rtN (unN x w*2^w)*2*(2^(2*w)/(rtN (PH*2^w)+1))/2^w<=cdv ((rtN (upN x w*2^w)+1)*2*cdv (2^(2*w)) (rtN (PL*2^w))) (2^w):=div_le_cdv (by omega) (xO (xC _ q12) i12);have lS:=xH (lim_len_mono (cdv_self ((rtN (upN x w*2^w)+1)*2*cdv (2^(2*w)) (rtN (PL*2^w))) (show 0<2^w by omega))) lim_len_mul;have st : ∀s,s1<=s->s<=s2->Enc w (rtN (unN x w*2^w)*2*(2^(2*w)/(rtN (PH*2^w)+1))/2^w) (cdv ((rtN (upN x w*2^w)+1)*2*cdv (2^(2*w)) (rtN (PL*2^w))) (2^w)) (igC n s*tk (x*2) 3 0):=by
   intro s g1 g2;have e:=enc_prodN (enc_oftenN (es s g1 g2)) (enc_invN rp (rt_encB p1 p2'));rw[show igC n s=s*(1/SQ)*2 from if_pos hod];show Enc w _ _ (_*1);rw[yA,show s*(1/SQ)*2=s*2*(1/SQ) by grind];exact e
  clear es p1 p2' p3 p4 p5 big rl e3 e6 en;generalize 2^(2*w)/(rtN (PH*2^w)+1)=I1 at *
  generalize cdv (2^(2*w)) (rtN (PL*2^w))=I2 at *
  generalize rtN (PH*2^w)+1=r2 at *
  generalize rtN (PL*2^w)=r1 at *
  generalize rtN (unN x w*2^w)=q1 at *
  generalize rtN (upN x w*2^w)+1=q2 at *
  generalize q1*2*I1/2^w=S1 at *
  generalize cdv (q2*2*I2) (2^w)=S2 at *
  have pe : ∀s,s1<=s->s<=s2->Enc w (fRow w (unN x w) (upN x w) (n/2) 3 S1 S2).1 (fRow w (unN x w) (upN x w) (n/2) 3 S1 S2).2 (igC n s*tk (x*2) (2+n%2) (n/2)):=by
   intro s g1 g2;have h:=fRow_enc (c:=igC n s) (k0:=3) (by omega) (num_enc h0 w) (n/2) 0 _ _ (st s g1 g2);rw[yV]at h;rw[show 2+n%2=3 by omega];exact h
  have fin : ∀ (f k a b:Nat),0<k->k+2*f<1000->a<=b->(lim b).length+41*f<=3000->(fRow w (unN x w) (upN x w) f k a b).1<=(fRow w (unN x w) (upN x w) f k a b).2/\(lim (fRow w (unN x w) (upN x w) f k a b).2).length<=(lim b).length+41*f:=by
   intro f;induction f with
   |zero=>intro k a b h1 h2 h3 h4;exact⟨h3,wI _ _⟩
   |succ f ih=>
    intro k a b h1 h2 h3 h4;obtain⟨-,-,-,t1,t2⟩:=step k a b h1 (by omega) h3 (by omega);obtain⟨r1,r2⟩:=ih (k+2) _ _ (by omega) (by omega) t1 (by omega);exact⟨r1,xH r2 (by omega)⟩
  obtain⟨F1,F2⟩:=fin (n/2) 3 S1 S2 (by omega) (by omega) S12 (by omega);obtain⟨A,B,hAB⟩ : ∃A B:Nat,fRow w (unN x w) (upN x w) (n/2) 3 S1 S2=(A,B):=⟨_,_,rfl⟩
  rw[hAB]at F1 F2 pe;refine⟨A,B,s1,s2,?_,F1,xH F2 (by omega),a0,a2,a1,a3,pe⟩;rw[hod]at rem;clear pe st fin F1 F2 a0 a1 a2 a3 yT;have lS2:(lim S2).length<=200:=by omega
  clear lS;generalize unN x w=y1 at *
  generalize upN x w=y2 at *
  obtain⟨W1,hW1⟩ : ∃W1:Nat,W1=2^w:=⟨_,rfl⟩
  rw[<- hW1]at n1;obtain⟨s0,n0,d0,rfl,-⟩:=hv;refine fni Tryz.f221 ?_;unfold Tryz.f221;repeat (first|simp only[go_sem,rem]|simp (disch:=first|exact omg|fail) only[AX,rem]|refine wki ?_|refine vpd 5 [] ?_|refine vfa ?_)
  refine vp_loop_inv (fun s=>s.tmp 0 = .sv (.int .i64 (n:Int))/\s.tmp 2 = .sv (.int .i64 (w:Int))/\s.tmp 6 = .ptr 6 0 0/\s.obj 6 0=some [.bool false,.sl 0 [],.bool false,.sl 0 []]/\s.tmp 7 = .ptr 7 0 0/\s.obj 7 0=some [.bool false,natV (lim y1),.bool false,natV (lim y2)]/\s.tmp 8 = .ptr 8 0 0 /\
    ∃f i a b:Nat,s.tmp 9 = .sv (.int .i64 ((3+2*i:Nat):Int))/\f+i=n/2/\fRow w y1 y2 f (3+2*i) a b=(A,B)/\s.obj 8 0=some [.bool false,natV (lim a),.bool false,natV (lim b)]/\a<=b/\(lim b).length<=200+41*i)
   (fun s=>match s.tmp 9 with | .sv (.int _ i)=>1000-i.toNat|_=>0) ⟨rfl,rfl,rfl,rfl,rfl,rfl,rfl,n/2,0,S1,S2,rfl,by omega,hAB,rfl,S12,by omega⟩ ?_
  rintro s ⟨i0,i2,i6,o6,i7,o7,i8,f,i,a,b,i9,hfi,hgo,o8,hab,hlb⟩
  cases f with
  |zero=>
   have hgo':(a,b)=(A,B):=hgo;simp only[Prod.mk.injEq]at hgo';obtain⟨rfl,rfl⟩:=hgo';clear step hAB;repeat (first|simp only[go_sem,i0,i2,i6,o6,i7,o7,i8,i9,o8]|simp (disch:=first|exact omg|fail) only[AX,i0,i2,i6,o6,i7,o7,i8,i9,o8]|refine wki ?_|refine vpd 5 [] ?_)
  |succ f=>
   obtain⟨pr2,by2,of2,t1,t2⟩:=step (3+2*i) a b (by omega) (by omega) hab (by omega);have hgo':fRow w y1 y2 f (3+2*i+2) (a*y1/2^w/(3+2*i)*2) (cdv (cdv (b*y2) (2^w)) (3+2*i)*2)=(A,B):=hgo;clear step hAB hgo;generalize a*y1/2^w=v1 at *
   generalize cdv (b*y2) (2^w)=v2' at *
   generalize v1/(3+2*i)=w1 at *
   generalize cdv v2' (3+2*i)=w2 at *
   generalize w1*2=x1 at *
   generalize w2*2=x2 at *
   repeat (first|simp only[go_sem,i0,i2,i6,o6,i7,o7,i8,i9,o8]|simp (disch:=first|exact omg|fail) only[AX,i0,i2,i6,o6,i7,o7,i8,i9,o8]|refine wki ?_|refine vpd 5 [] ?_|refine vfa ?_)
   exact⟨⟨f,i+1,x1,x2,by first|rfl|(congr 2;omega),by omega,hgo',rfl,t1,by omega⟩,by omega⟩
 ·have pe : ∀s,s1<=s->s<=s2->Enc w (fRow w (unN x w) (upN x w) (n/2) 2 (2^w) (2^w)).1 (fRow w (unN x w) (upN x w) (n/2) 2 (2^w) (2^w)).2 (igC n s*tk (x*2) (2+n%2) (n/2)):=by
   intro s g1 g2;have h:=fRow_enc (c:=igC n s) (k0:=2) (by omega) (num_enc h0 w) (n/2) 0 _ _ (by
    rw[show igC n s=1 from if_neg hod];show Enc w _ _ (1*1);rw[yA];exact sq_one)
   rw[yV]at h;rw[show 2+n%2=2 by omega];exact h
  have fin : ∀ (f k a b:Nat),0<k->k+2*f<1000->a<=b->(lim b).length+41*f<=3000->(fRow w (unN x w) (upN x w) f k a b).1<=(fRow w (unN x w) (upN x w) f k a b).2/\(lim (fRow w (unN x w) (upN x w) f k a b).2).length<=(lim b).length+41*f:=by
   intro f;induction f with
   |zero=>intro k a b h1 h2 h3 h4;exact⟨h3,wI _ _⟩
   |succ f ih=>
    intro k a b h1 h2 h3 h4;obtain⟨-,-,-,t1,t2⟩:=step k a b h1 (by omega) h3 (by omega);obtain⟨r1,r2⟩:=ih (k+2) _ _ (by omega) (by omega) t1 (by omega);exact⟨r1,xH r2 (by omega)⟩
  have lS2:=lim_len_p2 (n:=2^w) (w:=w) (xQ _);obtain⟨F1,F2⟩:=fin (n/2) 2 (2^w) (2^w) (by omega) (by omega) (by omega) (by omega);obtain⟨A,B,hAB⟩ : ∃A B:Nat,fRow w (unN x w) (upN x w) (n/2) 2 (2^w) (2^w)=(A,B):=⟨_,_,rfl⟩
  rw[hAB]at F1 F2 pe;refine⟨A,B,s1,s2,?_,F1,xH F2 (by omega),a0,a2,a1,a3,pe⟩;rw[show n%2=0 by omega]at rem;clear pe fin F1 F2 a0 a1 a2 a3 yT es en;generalize unN x w=y1 at *
  generalize upN x w=y2 at *
  obtain⟨W1,hW1⟩ : ∃W1:Nat,W1=2^w:=⟨_,rfl⟩
  rw[<- hW1]at n1 hAB lS2;obtain⟨s0,n0,d0,rfl,-⟩:=hv;refine fni Tryz.f221 ?_;unfold Tryz.f221;repeat (first|simp only[go_sem,rem]|simp (disch:=first|exact omg|fail) only[AX,rem]|refine wki ?_|refine vpd 5 [] ?_|refine vfa ?_)
  refine vp_loop_inv (fun s=>s.tmp 0 = .sv (.int .i64 (n:Int))/\s.tmp 2 = .sv (.int .i64 (w:Int))/\s.tmp 6 = .ptr 6 0 0/\s.obj 6 0=some [.bool false,.sl 0 [],.bool false,.sl 0 []]/\s.tmp 7 = .ptr 7 0 0/\s.obj 7 0=some [.bool false,natV (lim y1),.bool false,natV (lim y2)]/\s.tmp 8 = .ptr 8 0 0 /\
    ∃f i a b:Nat,s.tmp 9 = .sv (.int .i64 ((2+2*i:Nat):Int))/\f+i=n/2/\fRow w y1 y2 f (2+2*i) a b=(A,B)/\s.obj 8 0=some [.bool false,natV (lim a),.bool false,natV (lim b)]/\a<=b/\(lim b).length<=200+41*i)
   (fun s=>match s.tmp 9 with | .sv (.int _ i)=>1000-i.toNat|_=>0) ⟨rfl,rfl,rfl,rfl,rfl,rfl,rfl,n/2,0,W1,W1,rfl,by omega,hAB,rfl,by omega,by omega⟩ ?_
  rintro s ⟨i0,i2,i6,o6,i7,o7,i8,f,i,a,b,i9,hfi,hgo,o8,hab,hlb⟩
  cases f with
  |zero=>
   have hgo':(a,b)=(A,B):=hgo;simp only[Prod.mk.injEq]at hgo';obtain⟨rfl,rfl⟩:=hgo';clear step hAB;repeat (first|simp only[go_sem,i0,i2,i6,o6,i7,o7,i8,i9,o8]|simp (disch:=first|exact omg|fail) only[AX,i0,i2,i6,o6,i7,o7,i8,i9,o8]|refine wki ?_|refine vpd 5 [] ?_)
  |succ f=>
   obtain⟨pr2,by2,of2,t1,t2⟩:=step (2+2*i) a b (by omega) (by omega) hab (by omega);have hgo':fRow w y1 y2 f (2+2*i+2) (a*y1/2^w/(2+2*i)*2) (cdv (cdv (b*y2) (2^w)) (2+2*i)*2)=(A,B):=hgo;clear step hAB hgo;generalize a*y1/2^w=v1 at *
   generalize cdv (b*y2) (2^w)=v2' at *
   generalize v1/(2+2*i)=w1 at *
   generalize cdv v2' (2+2*i)=w2 at *
   generalize w1*2=x1 at *
   generalize w2*2=x2 at *
   repeat (first|simp only[go_sem,i0,i2,i6,o6,i7,o7,i8,i9,o8]|simp (disch:=first|exact omg|fail) only[AX,i0,i2,i6,o6,i7,o7,i8,i9,o8]|refine wki ?_|refine vpd 5 [] ?_|refine vfa ?_)
   exact⟨⟨f,i+1,x1,x2,by first|rfl|(congr 2;omega),by omega,hgo',rfl,t1,by omega⟩,by omega⟩
end
end Go.Proofs.YtfknkoeagjonbaaGreat
namespace Go.Proofs.YtfknkoeagjonbaaGreat
open Go.Ev
theorem ref4_AddE {a b c d:Rat} {L M:Nat} (ha:szR a L) (hb:szR b L) (hc:szR c M) (hd:szR d M) (hL1:1<=L) (hM1:1<=M) (hL:L+M<=100000):Go.Ev.Fn CX 186 [ballR a b,ballR c d] (ballR (a+c) (b+d)):=by
 have s1:=ref2_Add (RatA_rv ha) (RatA_rv hc) hL1 hM1;have s2:=ref2_Add (RatA_rv hb) (RatA_rv hd) hL1 hM1;generalize a+c=x at *
 generalize b+d=y at *
 refine fni Tryz.f186 ?_;unfold Tryz.f186;repeat (first|simp only[go_sem]|simp (disch:=first|exact omg|fail) only[AX]|refine wki ?_|refine vpd 1 [] ?_|refine vfa ?_)
theorem half_mk:mkRat 1 2=(1/2:Rat):=by decide +kernel
section
variable {z:Rat} {p:Int} {s:Bool} {n d:List Nat}
end
end Go.Proofs.YtfknkoeagjonbaaGreat
namespace Go.Proofs.YtfknkoeagjonbaaGreat
open Go.Ev
theorem mk_in {w A B:Nat} {V:Rat} (h:Enc w A B V):mkRat (A:Int) (2^w)<=V/\V<=mkRat (B:Int) (2^w):=by
 have P:=p2_pos w;exact⟨le_by P (by rw[mk_p2];exact h.1),le_by P (by rw[mk_p2];exact h.2)⟩
theorem lim_len_p2k {n w:Nat} (h:n<=2^w):(lim n).length<=w/32+2:=by
 have:=lim_len_pw (n:=n) (w:=w+1) (yM h (zS (by omega) (by omega)));omega
section
variable {v:SV} {x:Rat} {w n p:Nat}
set_option maxHeartbeats 1000000 in
theorem ref11_iv (hv:RatA v x 240) (h0:0<=x) (h64:x<=64) (hn:1<=n) (hn2:n<=30) (hw0:20<=w:=by omega) (hw:w<=170:=by omega) :
  ∃A B:Nat,∃lo hi:Rat,Go.Ev.Fn CX 152 [.int .i64 (n:Int),v,.int .i64 (w:Int)] (ivN A B)/\A<=B/\(lim B).length<=1200/\0<=lo/\0<=hi/\lo*lo<=x/\x<=hi*hi /\ ∀s,lo<=s->s<=hi -> ∃L0,∀L,L0<=L->Enc w A B (igV n s x L):=by
 obtain⟨W,hW,hw1,hw2,hwi⟩ : ∃W:Nat,(∀Q:Nat->Prop,Q W->Q (w+230))/\250<=W/\W<=400/\(w:Int)+230=(W:Int):=⟨w+230,fun Q h=>h,by omega,by omega,rfl⟩
 have zx:=szR_of hv;have ng:=ref2_Neg hv;have nx0 : -x<=0:=by grind
 have nx64 : -64 <= -x:=by grind
 obtain⟨A1,B1,lo,hi,ff,f1,f2,a0,a1,a2,a3,ef⟩:=ref11_front (n:=n) (w:=W) hv h0 h64 hn hn2;obtain⟨A2,B2,g1,g2,fe,s1,ee⟩:=ref6_Iv (w:=W) (RatA_rv (szR_neg zx)) (by omega) (by omega) nx0 nx64;obtain⟨A3,B3,fr,r1,r2,s2,es⟩:=ref11_row (n:=n) (w:=W) hv h0 h64 hn hn2;have P:0<2^W:=xK (by omega);have lB2:=lim_len_p2k g2;clear g2;have pr1:=ref4_ProdN (a:=A1) (b:=B1) (c:=A2) (d:=B2) (w:=W) f1 g1;have m12:A1*A2/2^W<=cdv (B1*B2) (2^W):=div_le_cdv P (xO f1 g1);have lm:=xH (lim_len_mono (cdv_self (B1*B2) P)) lim_len_mul;have pr2:=ref4_ProdN (a:=A1*A2/2^W) (b:=cdv (B1*B2) (2^W)) (c:=A3) (d:=B3) (w:=W) m12 r1
 have z12:A1*A2/2^W*A3/2^W<=cdv (cdv (B1*B2) (2^W)*B3) (2^W):=div_le_cdv P (xO m12 r1);have lz:=xH (lim_len_mono (cdv_self (cdv (B1*B2) (2^W)*B3) P)) lim_len_mul;have en : ∀s,lo<=s->s<=hi -> ∀L,s1+s2<=L->Enc W (A1*A2/2^W*A3/2^W) (cdv (cdv (B1*B2) (2^W)*B3) (2^W)) (igV n s x L):=by
  intro s q1 q2 L hL;have e:=enc_prodN (enc_prodN (ef s q1 q2) (ee L (by omega))) (es L (by omega));have e2:igV n s x L=igC n s*tk (x*2) (2+n%2) (n/2)*evX (-x) L*sk (x*2) (n+2) L:=by unfold igV;grind
  rw[e2];exact e
 generalize A1*A2/2^W=M1 at *
 generalize cdv (B1*B2) (2^W)=M2 at *
 generalize M1*A3/2^W=Z1 at *
 generalize cdv (M2*B3) (2^W)=Z2 at *
 have bk:=ref4_BackN (a:=Z1) (b:=Z2) (n:=230) (xH (lim_len_mono z12) (by omega));have o12:=div_le_cdv (d:=2^230) (wP 230) z12;have lO:=lim_len_mono (cdv_self Z2 (wP 230));refine⟨_,_,lo,hi,?_,o12,by omega,a0,a1,a2,a3,fun s q1 q2=>⟨s1+s2,fun L hL=>enc_backN (w:=w) (n:=230) (hW (fun W=>Enc W Z1 Z2 (igV n s x L)) (en s q1 q2 L hL))⟩⟩;clear en ef ee es z12 o12 a0 a1 a2 a3 h0 h64 nx0 nx64 zx;generalize -x=nx at *
 generalize Z1/2^230=O1 at *
 generalize cdv Z2 (2^230)=O2 at *
 obtain⟨s0,n0,d0,rfl,-⟩:=hv;refine fni Tryz.f152 ?_;unfold Tryz.f152;repeat (first|simp only[go_sem,hwi]|simp (disch:=first|exact omg|fail) only[AX,hwi]|refine wki ?_|refine vpd 3 [] ?_|refine vfa ?_)
theorem ref11_in {nI:Int} (hv:RatA v x 240) (h0:0<=x) (h64:x<=64) (hn:1<=nI:=by omega) (hn2:nI<=256:=by omega):Go.Ev.Fn CX 151 [.int .i64 nI,v] (.bool false):=by
 have nm:=ref2_Norm hv;have zx:=szR_of hv;have i6:=ref2_Int 64;have c2:=ref2_Cmp (RatA_rv zx) (RatA_rv (int_szR (n:=64)));have e2:decide (cmpR x ((64:Int):Rat)>0)=false:=by rw[cmpR_gt];exact decide_eq_false (yZ.2 h64)
 rw[ervP h0]at nm c2;generalize cmpR x ((64:Int):Rat)=y2 at *
 clear h0 h64;obtain⟨s,N,D,rfl,-⟩:=hv;refine fni Tryz.f151 ?_;unfold Tryz.f151;repeat (first|simp only[go_sem,e2]|simp (disch:=first|exact omg|fail) only[AX,e2]|refine wki ?_|refine vpd 2 [] ?_|refine vfa ?_)
theorem ref11_P (hv:RatA v x 240) (h0:0<x) (h64:x<=64) (hn:1<=n) (hn2:n<=30:=by omega) (hp:p<=150:=by omega) :
  ∃l h lo hi:Rat,Go.Ev.Fn CX 101 [.int .i64 (n:Int),v,.int .i64 (p:Int)] (.tup [ballR l h,.bool true])/\szR l 1200/\szR h 1200/\0<=lo/\0<=hi/\lo*lo<=x/\x<=hi*hi /\ ∀s,lo<=s->s<=hi -> ∃L0,∀L,L0<=L->l<=igV n s x L/\igV n s x L<=h:=by
 obtain⟨A,B,lo,hi,fi,i12,lB,a0,a1,a2,a3,en⟩:=ref11_iv (n:=n) (w:=p+20) hv (xG h0) h64 hn hn2;have lA:=lim_len_mono i12;have lp:=lim_len_p2k (n:=2^(p+20)) (w:=p+20) (xQ _);have bl:=ref4_Ball (a:=(A:Int)) (b:=(B:Int)) (by rw[xJ];omega) (by rw[xJ];omega) (p+20) (by omega);rw[ivN_eq]at bl;refine⟨mkRat (A:Int) (2^(p+20)),mkRat (B:Int) (2^(p+20)),lo,hi,?_,szR_nat,szR_nat,a0,a1,a2,a3,fun s q1 q2 => ?_⟩;rotate_left
 ·obtain⟨L0,h⟩:=en s q1 q2;exact⟨L0,fun L hL=>mk_in (h L hL)⟩
 have bd:=ref11_in (nI:=(n:Int)) hv (xG h0) h64;have i0:=ref2_Int 0;have o:=ref4_Of (RatA_rv (int_szR (n:=0)));have zr:=ref2_Zero hv;rw[decide_eq_false (show ¬x=0 by clear en;grind)]at zr;rw[show ((0:Int):Rat)=0 from rfl]at i0 o;have ho:=ref10_Hold (p:=p);rw[show ((p+20:Nat):Int)=(p:Int)+20 from rfl]at fi bl;clear en h0 h64 a0 a1 a2 a3;generalize mkRat (A:Int) (2^(p+20))=q1 at *
 generalize mkRat (B:Int) (2^(p+20))=q2 at *
 obtain⟨s,N,D,rfl,-⟩:=hv;refine fni Tryz.f101 ?_;unfold Tryz.f101;repeat (first|simp only[go_sem]|simp (disch:=first|exact omg|fail) only[AX]|refine wki ?_|refine vfa ?_)
theorem ref4_NegI {a b:Rat} {L:Nat} (ha:szR a L) (hb:szR b L) (hL1:1<=L) (hL:L<=100000:=by omega):Go.Ev.Fn CX 187 [ballR a b] (ballR (-b) (-a)):=by
 have n1:=ref2_Neg (RatA_rv ha) hL1;have n2:=ref2_Neg (RatA_rv hb) hL1;generalize -a=u at *
 generalize -b=w at *
 refine fni Tryz.f187 ?_;unfold Tryz.f187;repeat (first|simp only[go_sem]|simp (disch:=first|exact omg|fail) only[AX]|refine wki ?_|refine vpd 1 [] ?_|refine vfa ?_)
theorem ref4_SubI {a b c d:Rat} {L M:Nat} (ha:szR a L) (hb:szR b L) (hc:szR c M) (hd:szR d M) (hL1:1<=L:=by omega) (hM1:1<=M:=by omega) (hL:L+M<=100000:=by omega):Go.Ev.Fn CX 116 [ballR a b,ballR c d] (ballR (a-d) (b-c)):=by
 have s1:=ref4_NegI hc hd hM1;have s2:=ref4_AddE ha hb (szR_neg hd) (szR_neg hc) hL1 hM1 hL;rw[<- wm,<- wm]at s2;generalize a-d=x at *
 generalize b-c=y at *
 generalize -c=u at *
 generalize -d=w at *
 refine fni Tryz.f116 ?_;unfold Tryz.f116;repeat (first|simp only[go_sem]|simp (disch:=first|exact omg|fail) only[AX]|refine wki ?_|refine vpd 1 [] ?_|refine vfa ?_)
end
end Go.Proofs.YtfknkoeagjonbaaGreat
namespace Go.Proofs.YtfknkoeagjonbaaGreat
open Go.Ev
theorem root_width4 {lo lo' hi' hi A B P:Rat} (hP:0<P) (a2:lo<=lo') (a4:A<=lo'*lo') (a5:(lo'-lo)*P<=1) (h0:0<=lo) (b1:0<=hi') (b3:hi'*hi'<=B) (b5:(hi-hi')*P<=1) (hA:1<=A) (hAB:(B-A)*P<=2) (hAB0:A<=B):(hi-lo)*P<=4:=by
 have l0:0<=lo':=xE h0 a2;have l1:1<=lo':=sq_mono (by decide) l0 (by rw[yA];exact xE hA a4);have key:hi'-lo'<=B-A:=by
  rcases zC (a:=hi') (b:=lo') with g|g
  ·grind
  ·have h1:(hi'-lo')*1<=(hi'-lo')*(hi'+lo'):=xB (by grind) (by grind);have h2:(hi'-lo')*(hi'+lo')=hi'*hi'-lo'*lo':=by grind
   grind
 have k2:=xA key (show 0<=P by grind);have e:(hi-lo)*P=(hi-hi')*P+(hi'-lo')*P+(lo'-lo)*P:=by grind
 grind
def beR:Nat×Nat:=match wSt 129 41 300 3 9 1 9 1 with
 |(_,_,s,e)=>(s+20000,e+100000)
def beOk:Bool:=match wSt 129 41 300 3 9 1 9 1 with
 |(t',d',s,e)=>Nat.ble t' 4&&Nat.ble d' 20&&pin ((s+20001)*2+1) fun u=>pin ((e+100008)*2+(s+20001)*2+2) fun v=>Nat.ble (v*2+u*8+2) (2^120)
theorem be_ok:beOk=true:=by kernel_rfl
theorem be_at:(((beR.2+8)*2+(beR.1+1)*2+2)*2+((beR.1+1)*2+1)*8+2<=2^120)/\(wRow 129 41 5200 3 9 1 9 1).1<=beR.1/\(wRow 129 41 5200 3 9 1 9 1).2<=beR.2:=by
 have h:=be_ok;unfold beOk at h;unfold beR;have st:=fun t' d' s' e'=>wRow_st 300 4900 3 9 1 9 1 (t':=t') (d':=d') (s':=s') (e':=e')
 rw[show 300+4900=5200 from rfl]at st;generalize wRow 129 41 5200 3 9 1 9 1=R at *
 generalize wSt 129 41 300 3 9 1 9 1=r at *
 obtain⟨t',d',s,e⟩:=r;generalize 2^120=K1 at *
 simp only[pin_eq,xh]at h;obtain⟨⟨g1,g2⟩,g3⟩:=h;obtain⟨a,b⟩:=st t' d' s e rfl (xj g1) (xj g2) (by omega);exact⟨xj g3,xH a (show s+4*4900<=s+20000 by omega),xH b (show e+20*4900<=e+100000 by omega)⟩
theorem two_64 {y m c:Rat} (h:y<=64*m) (g:m*128<=c):y+y<=c:=by grind
theorem le_64 {z:Rat} (a:z*z<=z*8) (h:z<=8):z*z<=64:=by grind
section
variable {n d w many:Nat}
theorem bell_rowE (hd:0<d) (hn:n<=8*d) (hm:1<=many) (hm2:many<=2) (ln:(lim n).length<=100) (ld:(lim d).length<=100) (hw0:8<=w) (hw:w<=1000:=by omega) :
  ∃A B:Nat,A<=B/\B<2^(w+10014)/\B<=(beR.1+1)*2^w/\B<=A+(beR.2+8)/\(∀s:Bool,Go.Ev.Fn CX 300 [ratV s (lim n) (lim d),.int .u64 (many:Int),.int .i64 (w:Int)] (spanV A B)) /\
   ∀z:Rat,z*(d:Rat)=(n:Rat) -> ∃s0,∀L,s0<=L->Enc w A B (z*sk (z*z*(many:Rat)) 3 L):=by
 have fr:=fun s=>fix_RatS (s:=s) (n:=n) (d:=d) (w:=w) hd
 have P:2^8<=2^w:=xD (by omega) hw0;have Tle:n*2^w/d<=2^w*8:=by
  refine(yL hd).2 ?_;have m:=xC (2^w) hn;have e:8*d*2^w=2^w*8*d:=by rw[xV,<- xP]
  omega
 have dR:(0:Rat)<(d:Rat):=by exact_mod_cast hd
 have ez : ∀z:Rat,z*(d:Rat)=(n:Rat)->Enc w (n*2^w/d) (n*2^w/d+1) z:=by
  intro z hz;have f:=floor_le (a:=n*2^w) (d:=d);have g:=le_floor (a:=n*2^w) (d:=d) hd;have k:((n*2^w:Nat):Rat)=z*p2 w*(d:Rat):=by
   have:((n*2^w:Nat):Rat)=(n:Rat)*p2 w:=by exact_mod_cast rfl
   rw[this,<- hz];grind
  rw[k]at f g;exact⟨le_by dR f,le_by dR g⟩
 have z8 : ∀z:Rat,z*(d:Rat)=(n:Rat)->z<=8:=by
  intro z hz;refine le_by dR ?_;rw[hz];have:=Ex.castle hn;rw[Ex.castmul]at this;exact this
 generalize n*2^w/d=T at *
 have e9:2^(w+9)=2^w*512:=xM _ _ _;have e8:2^(w+8)=2^w*256:=xM _ _ _;have e10:2^(w+10)=2^w*1024:=xM _ _ _;have lT:=lim_len_pw (n:=T) (w:=w+9);have lT1:=lim_len_pw (n:=T+1) (w:=w+9);have sq:=fix_Mul (a:=T) (b:=T+1) (c:=T) (d:=T+1) (w:=w);have S2:(T+1)*(T+1)/2^w<=2^w*64+17:=by
  refine(yL (by omega)).2 ?_;have m:=xO (show T+1<=2^w*8+1 by omega) (show T+1<=2^w*8+1 by omega);have e:(2^w*8+1)*(2^w*8+1)=(2^w*64+16)*2^w+1:=by generalize 2^w=y;grind
  have e':(2^w*64+17)*2^w=(2^w*64+16)*2^w+2^w:=by generalize 2^w=y;grind
  omega
 have S12:T*T/2^w<=(T+1)*(T+1)/2^w:=xf (xO (by omega) (by omega));have S3:(T+1)*(T+1)/2^w<=T*T/2^w+18:=by
  have h:(T+1)*(T+1)<=T*T+17*2^w:=by
   have:(T+1)*(T+1)=T*T+2*T+1:=by grind
   omega
  have h2:=xf (c:=2^w) h;rw[Nat.add_mul_div_right _ _ (by omega)]at h2;omega
 have es : ∀z:Rat,z*(d:Rat)=(n:Rat)->Enc w (T*T/2^w) ((T+1)*(T+1)/2^w+1) (z*z):=fun z hz=>enc_mul (ez z hz) (ez z hz)
 generalize T*T/2^w=s1 at *
 generalize (T+1)*(T+1)/2^w=s2 at *
 have om:=nat_Of many;have o1:=fix_One;have l1:=lim_len1;have lm:(lim many).length<=2:=lim_len_lt;have ls1:=lim_len_pw (n:=s1) (w:=w+8);have ls2:=lim_len_pw (n:=s2+1) (w:=w+8);have ti:=fix_Times (a:=s1) (b:=s2+1) (n:=many) (d:=1);have et : ∀z:Rat,z*(d:Rat)=(n:Rat)->Enc w (s1*many/1) ((s2+1)*many/1+1) (z*z*(many:Rat)):=by
  intro z hz;have e:=enc_times (n:=many) (d:=1) (by omega) (es z hz);have e2:z*z*((many:Nat):Rat)/((1:Nat):Rat)=z*z*(many:Rat):=by
   rw[show ((1:Nat):Rat)=1 from rfl];generalize z*z*(many:Rat)=q;have:=xd (a:=q) (b:=1) (by decide);rw[yA]at this;exact this
  rw[e2]at e;exact e
 have q1:s1*many/1<=(s2+1)*many/1+1:=yP (xf (xC _ (by omega)));have q2:(s2+1)*many/1+1<=129*2^w:=by
  rw[zK];have:=xI (s2+1) hm2;omega
 have q3:(s2+1)*many/1+1<=s1*many/1+41:=by
  rw[zK,zK];have:=xC many (show s2+1<=s1+19 by omega);rw[xZ s1 19]at this;omega
 generalize s1*many/1=Q1 at *
 generalize (s2+1)*many/1+1=Q2 at *
 have lQ1:=lim_len_pw (n:=Q1) (w:=w+9);have lQ2:=lim_len_pw (n:=Q2) (w:=w+9);have i0:=tInv_0 (w:=w) (k0:=3) (t1:=T) (t2:=T+1) (a1:=T) (a2:=T+1);obtain⟨F,hF⟩ : ∃F:Nat,F=5200:=⟨_,rfl⟩
 obtain⟨A,B,hr,hAB,hB⟩:=tRow_end (w:=w) (Y1:=Q1) (Y2:=Q2) (M:=many*128) (k0:=3) (by omega) q1 (by omega) (by omega) (by omega) 1023 F 0 3 T (T+1) T (T+1) i0 (by omega) (by omega) (by omega);obtain⟨-,w1,w2⟩:=tRow_wide (W:=129) (D:=41) q2 q1 q3 F F 3 _ _ _ _ 9 1 9 1 A B (xQ _) (by omega) hr (by omega) (by omega) (by omega) (by omega) (by omega) (by omega);obtain⟨-,w3,w4⟩:=be_at;rw[hF]at w1 w2;generalize wRow 129 41 5200 3 9 1 9 1=wr at *
 have w5:=xC (2^w) w3;refine⟨A,B,hAB,hB,by rw[xZ,xe];omega,by omega,fun s => ?_,fun z hz => ?_⟩;rotate_left
 ·have en:=et z hz;have z0:=enc_nonneg (ez z hz);have zz:z*z*(many:Rat)<=64*(many:Rat):=by
   have a:=xB (z8 z hz) z0;exact xA (le_64 a (z8 z hz)) (nat_nonneg many)
  exact tRow_enc (c:=z) (k0:=3) (by omega) en z0 (fun i hM _=>by
   have c:=Ex.castle hM;rw[Ex.castmul,show ((128:Nat):Rat)=128 from rfl]at c;exact two_64 zz c) F 0 _ _ _ _ A B hr (by show Enc w _ _ (z*1);rw[yA];exact ez z hz) (by show Enc w _ _ (z*(0+1));rw[Rat.zero_add,yA];exact ez z hz)
 have lens:=fun (i k t1 t2 a1 a2:Nat) (hi:i<=F) (h:tInv w 3 i k t1 t2 a1 a2)=>(show (lim t1).length<=1000/\(lim t2).length<=1000/\(lim a1).length<=1000/\(lim a2).length<=1000 from by
  obtain⟨h1,h2,h3,h4,h5⟩:=h;have a:=lim_len_pw h4;have b:=lim_len_mono h2;have up:(i+2)*2^(w+10000)<=2^(w+10014):=by
   have e:2^(w+10014)=16384*2^(w+10000):=by rw[show w+10014=14+(w+10000) by omega,xM 2 14]
   rw[e];exact xC _ (by omega)
  have c:=lim_len_pw (n:=a2) (w:=w+10014);have d:=lim_len_mono h3;exact⟨by omega,by omega,by omega,by omega⟩)
 have step:=fun (i k t1 t2 a1 a2:Nat) (h:tInv w 3 i k t1 t2 a1 a2)=>tInv_step (Y1:=Q1) (Y2:=Q2) (by omega) q1 (by omega) h
 have frs:=fr s;have shl:(many:Int)*2^7=((many*128:Nat):Int):=by omega
 clear fr ls1 ls2 S2 S12 S3 Tle e8 e9 e10 hB hAB w1 w2 w3 w4 w5 q2 q3 ez es et z8 P dR;refine fni Tryz.f300 ?_;unfold Tryz.f300;repeat (first|simp only[go_sem]|simp (disch:=first|exact omg|fail) only[AX]|refine wki ?_|refine vfa ?_)
 refine vp_loop_inv (fun s'=>s'.tmp 1 = .sv (.int .u64 (many:Int))/\s'.tmp 2 = .sv (.int .i64 (w:Int))/\s'.tmp 6 = .ptr 6 0 0/\s'.obj 6 0=some [.sl 0 [],.sl 0 []]/\s'.tmp 7 = .ptr 7 0 0/\s'.tmp 8 = .ptr 8 0 0/\s'.obj 8 0=some [natV (lim Q1),natV (lim Q2)]/\s'.tmp 9 = .ptr 9 0 0 /\
   ∃f i k t1 t2 a1 a2:Nat,s'.tmp 10 = .sv (.int .u64 (k:Int))/\f+i=F/\tRow w Q1 Q2 (many*128) f k t1 t2 a1 a2=some (A,B)/\s'.obj 7 0=some [natV (lim t1),natV (lim t2)]/\s'.obj 9 0=some [natV (lim a1),natV (lim a2)]/\tInv w 3 i k t1 t2 a1 a2)
  (fun s'=>match s'.tmp 10 with | .sv (.int _ i)=>20000-i.toNat|_=>0) ⟨rfl,rfl,rfl,rfl,rfl,rfl,rfl,rfl,F,0,3,T,T+1,T,T+1,rfl,by omega,hr,rfl,rfl,i0⟩ ?_
 rintro s' ⟨i1,i2,i6,o6,i7,i8,o8,i9,f,i,k,t1,t2,a1,a2,i10,hfi,hgo,o7,o9,hok⟩
 obtain⟨lt1,lt2,la1,la2⟩:=lens i k t1 t2 a1 a2 (by omega) hok;have hk:=hok.1;have st:=step i k t1 t2 a1 a2 hok;have sm:=fix_Small (a:=t1) (b:=t2) (k:=2);cases f with
 |zero=>simp only[tRow]at hgo;cases hgo
 |succ f=>
  rw[tRow]at hgo;by_cases hs:many*128<=k/\t2<4
  ·rw[if_pos hs]at hgo;simp only[Option.some.injEq,Prod.mk.injEq]at hgo;obtain⟨rfl,rfl⟩:=hgo;rw[decide_eq_true (show t2<2^2 from hs.2)]at sm;have wd:=fix_Wider (a:=a1) (b:=a2) (n:=8);have hs1:=hs.1;clear step lens st hr;repeat (first|simp only[go_sem,i1,i2,i6,o6,i7,i8,o8,i9,i10,o7,o9,shl,xL]|simp (disch:=first|exact omg|fail) only[AX,i1,i2,i6,o6,i7,i8,o8,i9,i10,o7,o9,shl,xL]|refine wki ?_|refine vfa ?_)
  ·rw[if_neg hs]at hgo;obtain⟨lu1,lu2,lb1,lb2⟩:=lens (i+1) (k+2) _ _ _ _ (by omega) st;have mu:=fix_Mul (a:=t1) (b:=t2) (c:=Q1) (d:=Q2) (w:=w);have qk:=nat_Of k;have lq:(lim k).length<=2:=lim_len_lt;have z1:=lim_len_mul (a:=t1) (b:=Q1);have z2:=lim_len_mul (a:=t2) (b:=Q2);have z3:=lim_len_mono (xv (t1*Q1) (2^w));have z4:=lim_len_add (a:=t2*Q2/2^w) (b:=1) (L:=5000) (xH (lim_len_mono (xv (t2*Q2) (2^w))) (by omega));have tk:=fix_Times (a:=t1*Q1/2^w) (b:=t2*Q2/2^w+1) (n:=1) (d:=k);generalize t1*Q1/2^w*1/k=u1 at *
   generalize (t2*Q2/2^w+1)*1/k+1=u2 at *
   generalize t1*Q1/2^w=v1 at *
   generalize t2*Q2/2^w+1=v2 at *
   have ad:=fix_Add (a:=a1) (b:=a2) (c:=u1) (d:=u2);clear step lens hr;by_cases hs1:k<many*128
   ·clear sm;repeat (first|simp only[go_sem,i1,i2,i6,o6,i7,i8,o8,i9,i10,o7,o9,shl]|simp (disch:=first|exact omg|fail) only[AX,i1,i2,i6,o6,i7,i8,o8,i9,i10,o7,o9,shl]|refine wki ?_|refine vf_of (by first|exact mu|exact o1|exact qk|exact tk|exact ad) ?_)
    exact⟨⟨f,i+1,k+2,u1,u2,a1+u1,a2+u2,rfl,by omega,hgo,rfl,rfl,st⟩,by omega⟩
   ·rw[decide_eq_false (show ¬t2<2^2 from fun h=>hs ⟨by omega,h⟩)]at sm;repeat (first|simp only[go_sem,i1,i2,i6,o6,i7,i8,o8,i9,i10,o7,o9,shl,xg]|simp (disch:=first|exact omg|fail) only[AX,i1,i2,i6,o6,i7,i8,o8,i9,i10,o7,o9,shl,xg]|refine wki ?_|refine vf_of (by first|exact sm|exact mu|exact o1|exact qk|exact tk|exact ad) ?_)
    exact⟨⟨f,i+1,k+2,u1,u2,a1+u1,a2+u2,rfl,by omega,hgo,rfl,rfl,st⟩,by omega⟩
theorem bell_shareE (hm:1<=many:=by omega) (hm2:many<=2:=by omega) (hw0:8<=w:=by omega) (hw:w<233\/w=256\/w=328:=by omega) :
  ∃A B:Nat,∃r1 r2:Rat,Go.Ev.Fn CX 266 [.int .i64 (many:Int),.int .i64 (w:Int)] (spanV A B)/\A<=B/\B<=2*2^w/\B<=A+8/\0<=r1/\r1<=r2/\r1*r1<=(many:Rat)*(SQ*SQ)/\(many:Rat)*(SQ*SQ)<=r2*r2 /\ ∀r,r1<=r->r<=r2->Enc w A B (1/r):=by
 obtain⟨m1,m2,fp,h1,h2,h3,h4,z1,z2⟩:=many_pi hw0 hw;have ri:=rat_Int (many:Int);have zi:=int_szR (n:=(many:Int));have o:=ball_Of (RatA_rv zi);have c1:(1:Rat)<=((many:Int):Rat):=by
  have:((1:Nat):Rat)<=(many:Rat):=Ex.castle hm;exact this
 have c2:((many:Int):Rat)<=2:=by
  have:(many:Rat)<=((2:Nat):Rat):=Ex.castle hm2;exact this
 have W:=p2_pos w;have W8:((256:Nat):Rat)<=p2 w:=Ex.castle (show 2^8<=2^w from xD (by omega) hw0);rw[show ((256:Nat):Rat)=256 from rfl]at W8;have g12:m1<=m2:=xE h1 h2;have m3:3<=m1:=by
  have q:(31/10:Rat)<=SQ*SQ:=by decide +kernel
  have q2:(31/10:Rat)*10=31:=by decide +kernel
  refine yZ.1 fun g => ?_
  have:=xB W8 (show 0<=m2-m1 by grind);grind
 have bm:=ball_Mul (L:=80) (szR_mono zi) (szR_mono zi) (szR_mono z1) (szR_mono z2);rw[(lohi1 (show (0:Rat)<=((many:Int):Rat) by grind) g12).1,(lohi1 (show (0:Rat)<=((many:Int):Rat) by grind) g12).2]at bm;have k1:(3:Rat)<=((many:Int):Rat)*m1:=by
  have:=xB m3 (show (0:Rat)<=((many:Int):Rat) by grind);grind
 have k2:=xB g12 (show (0:Rat)<=((many:Int):Rat) by grind);have k3:=xB h1 (show (0:Rat)<=((many:Int):Rat) by grind);have k4:=xB h2 (show (0:Rat)<=((many:Int):Rat) by grind);have k5:(((many:Int):Rat)*m2-((many:Int):Rat)*m1)*p2 w<=2:=by
  have e:(((many:Int):Rat)*m2-((many:Int):Rat)*m1)*p2 w=((many:Int):Rat)*((m2-m1)*p2 w):=by grind
  rw[e];have a:=xB h3 (show (0:Rat)<=((many:Int):Rat) by grind);grind
 obtain⟨lo,lo',hi',hi,fr,r1,r2,r3,r4,r5,r6,r7,r8,r9,r10,y1,y2⟩:=root_Of (L:=82) (p:=w) (A:=((many:Int):Rat)*m1) (B:=((many:Int):Rat)*m2) (by grind) (by grind) (szR_mono (szR_mul zi z1)) (szR_mono (szR_mul zi z2));have fb:=fix_Ball (w:=w) (szR_mono y1 (show _<=200 by omega)) (szR_mono y2 (show _<=200 by omega));have wd:=root_width4 W r2 r4 r5 r1 r6 r8 r10 (show (1:Rat)<=((many:Int):Rat)*m1 by grind) k5 k2;have l1:3/2<=lo':=by
  refine yZ.1 fun g => ?_
  have e:(3/2:Rat)*(3/2)=9/4:=by decide +kernel
  have e2:(9/4:Rat)<3:=by decide +kernel
  have p:(0:Rat)<3/2:=by decide +kernel
  have a:=mul_le (xG g) (xG g) (xG p) (xE r1 r2);rw[e]at a;grind
 have lo1:1<=lo:=by
  refine yZ.1 fun g => ?_
  have:=xB W8 (show 0<=lo'-lo by grind);have p:(3/2:Rat)*2=3:=by decide +kernel
  grind
 have lh:lo<=hi:=by
  have a:lo*lo<=hi*hi:=xE r3 (xE k2 r9);have h0:0<=hi:=xE r6 r7;exact sq_mono r1 h0 a
 obtain⟨i1,i2,i3,i4,i5⟩:=inv_ball (w:=w) (g:=4) lo1 lh wd (by have:=xD (n:=2) (by omega) hw0;omega);have P:2^8<=2^w:=xD (by omega) hw0;have hi5:hi<=5:=by
  have q:SQ*SQ<=32/10:=by decide +kernel
  have q2:(32/10:Rat)*10=32:=by decide +kernel
  have m2le:m2<=4:=by
   refine yZ.1 fun g => ?_
   have:=xB W8 (show 0<=m2-m1 by grind);grind
  have q8:((many:Int):Rat)*m2<=8:=by
   have a:=xA c2 (show 0<=m2 by grind);grind
  have h4':hi'<=4:=by
   refine yZ.1 fun h => ?_
   have:=xA (xG h) r6;grind
  refine yZ.1 fun h => ?_
  have:=xB W8 (show 0<=hi-hi' by grind);grind
 have t2:unN hi w<=5*2^w:=by
  have u:=(unN_le (show 0<=hi by grind) w).1;have m5:=xA hi5 (xG W);have t:((unN hi w:Nat):Rat)<=((5*2^w:Nat):Rat):=by
   rw[Ex.castmul];exact xE u m5
  exact_mod_cast t
 have um:=unN_mono (show 0<=lo by grind) lh w;have e9:2^(w+9)=2^w*512:=xM _ _ _;have lA:=lim_len_pw (n:=unN lo w) (w:=w+9);have lB:=lim_len_pw (n:=unN hi w+1) (w:=w+9);have iv:=fix_Inverse (a:=unN lo w) (b:=unN hi w+1) (w:=w);refine⟨2^(2*w)/(unN hi w+1),2^(2*w)/unN lo w+1,lo,hi,?_,i1,i2,i3,by grind,lh,xE r3 k3,xE k4 r9,fun r a b=>(enc_inv (w:=w) (show 0<unN lo w by omega) (ball_enc r1 a b w)).1⟩;clear k1 k2 k3 k4 k5 r1 r2 r3 r4 r5 r6 r7 r8 r9 r10 lo1 lh h1 h2 h3 h4 g12 c1 c2 m3 wd l1 i1 i2 i3 i4 i5 hi5 t2 um;generalize 2^(2*w)/(unN hi w+1)=A at *
 generalize 2^(2*w)/unN lo w+1=B at *
 generalize ((many:Int):Rat)*m1=q1 at *
 generalize ((many:Int):Rat)*m2=q2 at *
 generalize unN hi w+1=u2 at *
 generalize unN lo w=u1 at *
 refine fni Tryz.f266 ?_;unfold Tryz.f266;repeat (first|simp only[go_sem]|simp (disch:=first|exact omg|fail) only[AX]|refine wki ?_|refine vfa ?_)
end
end Go.Proofs.YtfknkoeagjonbaaGreat
namespace Go.Proofs.YtfknkoeagjonbaaGreat
open Go.Ev
def arV (z y q r:Rat) (L:Nat):Rat:=z*sk y 3 L*evX (-q) L*(1/r)
section
variable {z:Rat} {w P:Nat} {pI:Int}
theorem bell_areaE {many S1 S2:Nat} (hz:szR z 7) (h0:0<=z) (h8:z<=8) (hm:1<=many) (hm2:many<=2) (hw0:8<=w) (hw:w<=400) (hS:S1<=S2) (hS2:S2<=2*2^w) (hS3:S2<=S1+8) :
  ∃A B:Nat,A<=B/\B<=2^(w+120)/\B<=A+2^120/\(∀r,Enc w S1 S2 (1/r) -> ∃s0,∀L,s0<=L->Enc w A B (arV z (z*z*(many:Rat)) (if many=1 then z*z/2 else z*z) r L)) /\ ∀y:Rat,y=z\/y = -z->Go.Ev.Fn CX 265 [rv y,.int .u64 (many:Int),spanV S1 S2,.int .i64 (w:Int)] (spanV A B):=by
 have zp:=xH hz.1 (show 7<=100 by omega);have zd:=xH hz.2 (show 7<=100 by omega);obtain⟨R1,R2,r1,r2,r3,r4,fr,er⟩:=bell_rowE (n:=z.num.natAbs) (d:=z.den) (many:=many) (w:=w) z.den_pos (num_le8 h0 h8) hm hm2 zp zd hw0;obtain⟨g1,-,-⟩:=be_at;generalize beR=bR at *
 obtain⟨q0,q64⟩:=sq_bd h0 h8;obtain⟨sq,hsq,sqz,sq1,sq2⟩ : ∃sq:Rat,sq=(if many=1 then z*z/2 else z*z)/\szR sq 15/\0<=sq/\sq<=64:=by
  by_cases e:many=1
  ·refine⟨_,rfl,?_,?_⟩<;>rw[if_pos e]
   ·exact szR_mono (szR_div (szR_mul hz hz) two_len)
   ·have hh:z*z/2*2=z*z:=xd (by decide);generalize z*z/2=t at *
    clear r1 r2 fr;constructor<;>grind
  ·refine⟨_,rfl,?_,?_⟩<;>rw[if_neg e]
   ·exact szR_mono (szR_mul hz hz)
   ·exact⟨q0,q64⟩
 have zn:=szR_neg sqz;obtain⟨F1,F2,f1,f3,f2,ff,s2,ef⟩:=bell_fall (z := -sq) (w:=w) (RatA_rv zn) (by omega) (by omega) (neg64 sq1 sq2).1 (neg64 sq1 sq2).2 (den_le zn);have ng:=rat_Neg (RatA_rv sqz);have i2:=rat_Int 2;have dv:=rat_Div (RatA_rv (szR_mul hz hz)) (RatA_rv (int_szR (n:=2)));rw[show ((2:Int):Rat)=2 from rfl]at i2 dv;rw[decide_eq_true (show ¬(2:Rat)=0 by decide)]at dv;have P2:2^8<=2^w:=xD (by omega) hw0;have e1:2^(w+2)=2^w*4:=xM _ _ _;have lR2:=lim_len_pw r2;have lR1:=lim_len_mono r1;have lF2:=lim_len_pw (n:=F2) (w:=w+2);have lF1:=lim_len_mono f1;have lS2:=lim_len_pw (n:=S2) (w:=w+2)
 have lS1:=lim_len_mono hS;have m1:=fix_Mul (a:=R1) (b:=R2) (c:=F1) (d:=F2) (w:=w);obtain⟨u1,u2,u3⟩:=mulS (w:=w) (β:=2) (δ:=2) r1 f1 r3 (show F2<=2*2^w by omega) r4 f3;obtain⟨y1,y2,y3⟩:=mulS (w:=w) (β:=2) (δ:=8) u1 hS u2 hS2 u3 hS3;have hx:z*(z.den:Rat)=((z.num.natAbs:Nat):Rat):=by rw[Ex.denR z,<- castZn,num_abs h0]
 obtain⟨s1,es⟩:=er z hx;have en : ∀r,Enc w S1 S2 (1/r) -> ∃s0,∀L,s0<=L->Enc w (R1*F1/2^w*S1/2^w) ((R2*F2/2^w+1)*S2/2^w+1) (arV z (z*z*(many:Rat)) (if many=1 then z*z/2 else z*z) r L):=by
  intro r hr;refine⟨s1+s2,fun L hL => ?_⟩;have e:=enc_mul (enc_mul (es L (by omega)) (ef L (by omega))) hr;rw[hsq]at e;exact e
 have tw : ∀k q Z,q<=2^k->Z<=q*2^w->Z<=2^(w+k):=by
  intro k q Z hz hZ;rw[wM w,xM];exact xH hZ (xC _ hz)
 have uB:=tw 118 _ _ (by omega) u2;have sB:=tw 120 _ _ (by omega) y2;have gap:(R2*F2/2^w+1)*S2/2^w+1<=R1*F1/2^w*S1/2^w+2^120:=by omega
 clear es ef er tw g1 u2 u3 y2 y3 r3 r4 f3;generalize R1*F1/2^w=U1 at *
 generalize R2*F2/2^w+1=U2 at *
 have lU2:=lim_len_p2k uB;have lU1:=lim_len_mono u1;have m2:=fix_Mul (a:=U1) (b:=U2) (c:=S1) (d:=S2) (w:=w);refine⟨U1*S1/2^w,U2*S2/2^w+1,y1,sB,gap,en,fun y hy => ?_⟩;clear en sB gap uB;obtain⟨s,hs⟩ : ∃s:Bool,rv y=ratV s (lim z.num.natAbs) (lim z.den):=by
  rcases hy with rfl|rfl
  ·exact⟨_,rfl⟩
  ·exact rv_neg z
 have zy:szR y 7:=by
  rcases hy with rfl|rfl
  ·exact hz
  ·exact szR_neg hz
 have mu:=rat_Mul (RatA_rv zy) (RatA_rv zy);have yy:=sq_same hy;rw[yy,hs]at mu;rw[hs];have frs:=fr s;generalize U1*S1/2^w=V1 at *
 generalize U2*S2/2^w+1=V2 at *
 clear fr yy zy hy hs e1 P2 u1 r1 r2 y1 hx;by_cases e:many=1
 ·subst e;rw[if_pos rfl]at hsq;rw[<- hsq]at dv;clear hsq sqz sq1 sq2 q0 q64;generalize z*z=zz at *
  generalize -sq=nsq at *
  refine fni Tryz.f265 ?_;unfold Tryz.f265;repeat (first|simp only[go_sem]|simp (disch:=first|exact omg|fail) only[AX]|refine wki ?_|refine vpd 3 [] ?_|refine vpd 4 [] ?_|refine vfa ?_)
 ·have e2:many=2:=by omega
  subst e2;rw[if_neg (by omega)]at hsq;rw[<- hsq]at mu;clear hsq sqz sq1 sq2 q0 q64 dv;generalize -sq=nsq at *
  refine fni Tryz.f265 ?_;unfold Tryz.f265;repeat (first|simp only[go_sem]|simp (disch:=first|exact omg|fail) only[AX]|refine wki ?_|refine vpd 3 [] ?_|refine vpd 4 [] ?_|refine vfa ?_)
theorem bell_PhiG (hz:szR z 7) (h0:0<z) (h8:z<=8) (hpI:(pI<=0/\P=0)\/pI=(P:Int)) (hP:P<=104\/P=128\/P=200:=by omega) :
  ∃l h r1 r2:Rat,l<=h/\szR l 400/\szR h 400/\(h-l)*p2 P<=1/\0<=r1/\r1<=r2/\r1*r1<=2*(SQ*SQ)/\2*(SQ*SQ)<=r2*r2/\(∀r,r1<=r->r<=r2 -> ∃s0,∀L,s0<=L->l<=arV z (z*z) (z*z/2) r L/\arV z (z*z) (z*z/2) r L<=h)/\(∀v,RatA v z 7->Go.Ev.Fn CX 206 [v,.int .i64 pI] (.tup [ballR (1/2+l) (1/2+h),.bool true]))/\(∀v,RatA v (-z) 7->Go.Ev.Fn CX 206 [v,.int .i64 pI] (.tup [ballR (1/2 + -h) (1/2 + -l),.bool true])):=by
 have g1 : -8<=z:=by grind
 have g2 : -8 <= -z:=by grind
 have g3 : -z<=8:=by grind
 have g4 : ¬z=0:=by grind
 have g5 : ¬-z=0:=by grind
 obtain⟨S1,S2,r1,r2,fs,s1,s2,s3,a0,a1,a2',a3,sE⟩:=bell_shareE (many:=2) (w:=P+128);obtain⟨A,B,a1',a2,gap,ae,fa⟩:=bell_areaE (many:=2-1) (w:=P+128) hz (xG h0) h8 (by omega) (by omega) (by omega) (by omega) s1 s2 s3;obtain⟨K,hK⟩ : ∃K:Nat,K=10040:=⟨_,rfl⟩
 have e40:2^(P+128+120)<2^(P+128+K):=zS (by omega) (by omega);rw[hK]at e40;obtain⟨l,h,t1,t2,t3,t4,t5,t6,ft⟩:=told_span (w:=P+128) (p:=P+2) a1' (yM a2 e40);have thin:=told_thin (w:=P+128) (p:=P) (by omega) (show B<=A+2^(P+128-(P+2)) from xH gap (Nat.add_le_add_left (xD (by omega) (by omega)) _));rw[<- t5,<- t6]at thin;have ve : ∀r,r1<=r->r<=r2 -> ∃s0,∀L,s0<=L->l<=arV z (z*z) (z*z/2) r L/\arV z (z*z) (z*z/2) r L<=h:=by
  intro r q1 q2;obtain⟨s0,hs⟩:=ae r (sE r q1 q2);refine⟨s0,fun L hL => ?_⟩;have e:=told_in (w:=P+128) (q:=P+2) (by omega) (hs L hL);rw[<- t5,<- t6,if_pos rfl,show z*z*((2-1:Nat):Rat)=z*z by rw[show ((2-1:Nat):Rat)=1 from rfl,yA]]at e;exact e
 rw[show ((2:Nat):Rat)=2 from rfl]at a2' a3;clear ae sE gap e40 hK a2;have hh:=bell_held hpI (show P<=200 by omega);have i1:=rat_Int 1;have i2:=rat_Int 2;have dv:=rat_Div (RatA_rv (int_szR (n:=1))) (RatA_rv (int_szR (n:=2)));rw[half_div,decide_eq_true (show ¬((2:Int):Rat)=0 by decide)]at dv;have oh:=ball_Of (RatA_rv hlf_len);have ng:=ball_Neg t3 t4;have ad1:=ball_Add hlf_len hlf_len t3 t4;have ad2:=ball_Add hlf_len hlf_len (szR_neg t4) (szR_neg t3);obtain⟨n1,n2⟩:=num_neg_iff h0;rw[show ((P+128:Nat):Int)=(P:Int)+128 from rfl]at fs fa ft;rw[show ((P+2:Nat):Int)=(P:Int)+2 from rfl]at ft
 refine⟨l,h,r1,r2,t1,t3,t4,thin,a0,a1,a2',a3,ve,fun v hv => ?_,fun v hv => ?_⟩
 ·have fr:=bell_nigh hv (by omega) (by omega) g1 h8;have nm:=rat_Norm hv;have zr:=rat_Zero (RatA_rv hz);rw[decide_eq_false g4]at zr;have fa1:=fa z (.inl rfl);have erz:rv z=ratV false (lim z.num.natAbs) (lim z.den):=by show ratV (decide (z.num<0)) _ _=_;rw[n1]
  rw[erz]at nm zr fa1;clear fa ad2 ng n2 hz h0 h8 t1 t2 t3 t4 t5 t6 thin ve a0 a1 a2' a3 a1' s1 s2 s3;obtain⟨s,n,d,rfl,-⟩:=hv;generalize 1/2+l=q1 at *
  generalize 1/2+h=q2 at *
  generalize (1/2:Rat)=hf at *
  refine fni Tryz.f206 ?_;unfold Tryz.f206;repeat (first|simp only[go_sem]|simp (disch:=first|exact omg|fail) only[AX]|refine wki ?_|refine vpd 8 [] ?_|refine vpd 11 [] ?_|refine vfa ?_)
 ·have zn:=szR_neg hz;have fr:=bell_nigh hv (by omega) (by omega) g2 g3;have nm:=rat_Norm hv;have zr:=rat_Zero (RatA_rv zn);rw[decide_eq_false g5]at zr;have fa1:=fa (-z) (.inr rfl);have erz:rv (-z)=ratV true (lim (-z).num.natAbs) (lim (-z).den):=by show ratV (decide ((-z).num<0)) _ _=_;rw[n2]
  rw[erz]at nm zr fa1;clear fa ad1 n1 hz h0 h8 t1 t2 t3 t4 t5 t6 thin ve a0 a1 a2' a3 a1' s1 s2 s3 zn;obtain⟨s,n,d,rfl,-⟩:=hv;generalize 1/2 + -h=q1 at *
  generalize 1/2 + -l=q2 at *
  generalize (1/2:Rat)=hf at *
  generalize -h=mh at *
  generalize -l=ml at *
  refine fni Tryz.f206 ?_;unfold Tryz.f206;repeat (first|simp only[go_sem]|simp (disch:=first|exact omg|fail) only[AX]|refine wki ?_|refine vpd 8 [] ?_|refine vpd 11 [] ?_|refine vfa ?_)
end
end Go.Proofs.YtfknkoeagjonbaaGreat
namespace Go.Proofs.YtfknkoeagjonbaaGreat
open Go.Ev
def arT (j:Nat) (u:Rat):Rat:=8*u*tk (8*u*(8*u)) 3 j
def arTs:Nat->Rat->Rat
 |0,_=>8
 |j+1,u=>64*u*arT j u
theorem arT_step (j:Nat) (u:Rat):arT (j+1) u*((3+2*j:Nat):Rat)=arT j u*(64*(u*u)):=by
 have h:=tk_step (y:=8*u*(8*u)) (k0:=3) (by omega) j;unfold arT;generalize tk (8*u*(8*u)) 3 (j+1)=a at *
 generalize tk (8*u*(8*u)) 3 j=b at *
 generalize ((3+2*j:Nat):Rat)=c at *
 have e:8*u*a*c=8*u*(c*a):=by grind
 rw[e,h];grind
theorem dif_sq (c:Rat):Dif (fun u=>c*(u*u)) (fun u=>c*(u+u)):=
 dif_congr (dif_mul (dif_const c) (dif_mul dif_id dif_id)) (fun u=>rfl) (fun u=>by
  show c*(u*1+1*u)+0*(u*u)=c*(u+u);grind)
theorem dif_arT : ∀j,Dif (arT j) (arTs j)
 |0=>dif_congr (dif_mul (dif_const 8) dif_id) (fun u=>by show 8*u=8*u*1;grind) (fun u=>by show 8*1+0*u=(8:Rat);grind)
 |j+1=>by
  have ih:=dif_arT j;obtain⟨c,hc⟩ : ∃c:Rat,((3+2*j:Nat):Rat)*c=1:=⟨1/((3+2*j:Nat):Rat),Ex.mul_div _ 1 (by have:(0:Rat)<((3+2*j:Nat):Rat):=Ex.castlt (a:=0) (by omega);grind)⟩
  refine dif_congr (dif_mul ih (dif_sq (64*c))) (fun u => ?_) (fun u => ?_)
  ·show arT j u*(64*c*(u*u))=arT (j+1) u;have h:=arT_step j u;have e:arT j u*(64*c*(u*u))=arT j u*(64*(u*u))*c:=by grind
   rw[e,<- h,zG,hc,yA]
  ·show arT j u*(64*c*(u+u))+arTs j u*(64*c*(u*u))=64*u*arT j u;cases j with
   |zero=>
    have e0:arT 0 u=8*u:=by show 8*u*1=8*u;grind
    have e1:arTs 0 u=8:=rfl;have e3:((3+2*0:Nat):Rat)=3:=rfl;rw[e3]at hc;rw[e0,e1];have:8*u*(64*c*(u+u))+8*(64*c*(u*u))=512*(u*u)*(3*c):=by grind
    rw[this,hc];grind
   |succ j=>
    have h:=arT_step j u;have e1:arTs (j+1) u=64*u*arT j u:=rfl;have e5:((3+2*(j+1):Nat):Rat)=((3+2*j:Nat):Rat)+2:=by
     rw[show 3+2*(j+1)=3+2*j+2 by omega,Ex.castadd (3+2*j) 2];rfl
    rw[e5]at hc;rw[e1];have a:arT (j+1) u*(64*c*(u+u))+64*u*arT j u*(64*c*(u*u))=64*u*c*(arT (j+1) u*2+arT j u*(64*(u*u))):=by grind
    rw[a,<- h];have b:64*u*c*(arT (j+1) u*2+arT (j+1) u*((3+2*j:Nat):Rat))=64*u*arT (j+1) u*((((3+2*j:Nat):Rat)+2)*c):=by grind
    rw[b,hc,yA]
def arM (j:Nat) (u:Rat):Rat:=Ex.tm (-32*(u*u)) j
def arMs:Nat->Rat->Rat
 |0,_=>0
 |j+1,u => -64*u*arM j u
theorem arM_step (j:Nat) (u:Rat):((j+1:Nat):Rat)*arM (j+1) u = -32*(u*u)*arM j u:=Ex.tm_succ _ j
theorem dif_arM : ∀j,Dif (arM j) (arMs j)
 |0=>dif_const 1
 |j+1=>by
  have ih:=dif_arM j;obtain⟨c,hc⟩ : ∃c:Rat,((j+1:Nat):Rat)*c=1:=⟨1/((j+1:Nat):Rat),Ex.mul_div _ 1 (Ex.nsucc_ne j)⟩
  refine dif_congr (dif_mul ih (dif_sq (-32*c))) (fun u => ?_) (fun u => ?_)
  ·show arM j u*(-32*c*(u*u))=arM (j+1) u;have h:=arM_step j u;have e:arM j u*(-32*c*(u*u)) = -32*(u*u)*arM j u*c:=by grind
   rw[e,<- h];have e2:((j+1:Nat):Rat)*arM (j+1) u*c=((j+1:Nat):Rat)*c*arM (j+1) u:=by grind
   rw[e2,hc,xc]
  ·show arM j u*(-32*c*(u+u))+arMs j u*(-32*c*(u*u)) = -64*u*arM j u;cases j with
   |zero=>
    have e1:arMs 0 u=0:=rfl;have e3:((0+1:Nat):Rat)=1:=rfl;rw[e3,xc]at hc;rw[e1,hc];grind
   |succ j=>
    have h:=arM_step j u;have e1:arMs (j+1) u = -64*u*arM j u:=rfl;have e5:((j+1+1:Nat):Rat)=((j+1:Nat):Rat)+1:=by rw[Ex.castadd (j+1) 1];rfl
    rw[e5]at hc;rw[e1];have a:arM (j+1) u*(-32*c*(u+u)) + -64*u*arM j u*(-32*c*(u*u)) = -64*u*c*(arM (j+1) u + -32*(u*u)*arM j u):=by grind
    rw[a,<- h];have b : -64*u*c*(arM (j+1) u+((j+1:Nat):Rat)*arM (j+1) u) = -64*u*arM (j+1) u*((((j+1:Nat):Rat)+1)*c):=by grind
    rw[b,hc,yA]
def arA (u:Rat):Nat->Rat
 |0=>0
 |L+1=>arA u L+arT L u
theorem arA_is (u:Rat) : ∀L,arA u L=8*u*sk (8*u*(8*u)) 3 L
 |0=>by show (0:Rat)=8*u*0;grind
 |L+1=>by
  have ih:=arA_is u L;show arA u L+8*u*tk (8*u*(8*u)) 3 L=8*u*(sk (8*u*(8*u)) 3 L+tk (8*u*(8*u)) 3 L)
  rw[ih];grind
theorem dif_arA : ∀L,Dif (fun u=>arA u (L+1)) (fun u=>8+64*u*arA u L)
 |0=>dif_congr (dif_arT 0) (fun u=>by show arT 0 u=0+arT 0 u;grind) (fun u=>by show (8:Rat)=8+64*u*0;grind)
 |L+1=>dif_congr (dif_add (dif_arA L) (dif_arT (L+1))) (fun u=>rfl) (fun u=>by
  show 8+64*u*arA u L+64*u*arT L u=8+64*u*(arA u L+arT L u);grind)
theorem dif_arE : ∀L,Dif (fun u=>Ex.E (-32*(u*u)) (L+1)) (fun u => -64*u*Ex.E (-32*(u*u)) L)
 |0=>dif_congr (dif_arM 0) (fun u=>by show arM 0 u=0+Ex.tm _ 0;rw[Rat.zero_add];rfl) (fun u=>by show (0:Rat) = -64*u*0;grind)
 |L+1=>dif_congr (dif_add (dif_arE L) (dif_arM (L+1))) (fun u=>rfl) (fun u=>by
  show -64*u*Ex.E (-32*(u*u)) L + -64*u*Ex.tm (-32*(u*u)) L = -64*u*(Ex.E (-32*(u*u)) L+Ex.tm (-32*(u*u)) L);grind)
theorem tk_le_tm {y:Rat} (h:0<=y) : ∀j,tk y 3 j<=Ex.tm y j
 |0=>xN
 |j+1=>by
  have ih:=tk_le_tm h j;have s1:=tk_step (y:=y) (k0:=3) (by omega) j;have s2:=Ex.tm_succ y j;have n1:=tk_nn (k0:=3) (by omega) h (j+1);have c:((j+1:Nat):Rat)<=((3+2*j:Nat):Rat):=Ex.castle (by omega);have p:(0:Rat)<((j+1:Nat):Rat):=Ex.nsucc_pos j;refine le_by p ?_;have m:=xA c n1;have m2:=xA ih h;grind
theorem sk_le_E {y:Rat} (h:0<=y) : ∀L,sk y 3 L<=Ex.E y L
 |0=>xN
 |L+1=>by
  have ih:=sk_le_E h L;have:=tk_le_tm h L;show sk y 3 L+tk y 3 L<=Ex.E y L+Ex.tm y L;grind
theorem sq_unit {u:Rat} (h0:0<=u) (h1:u<=1):0<=u*u/\u*u<=1:=by
 have a:=xF h0 h0;have b:=xB h1 h0;exact⟨a,by grind⟩
theorem ar_near {u e:Rat} {L:Nat} (h0:0<=u) (h1:u<=1) (hL:1<=L) (hm:2*Ex.tm 64 L<=e) (hL2:(64:Rat)+64<=((L+1:Nat):Rat)) :
  Ex.Bdd (Ex.E (-32*(u*u)) L-1/Ex.E (32*(u*u)) L) e/\Ex.Bdd (arM L u) e/\0<=arT L u/\arT L u<=8*e/\0<=arA u L/\arA u L<=8*Ex.t2 102/\1/Ex.t2 102<=1/Ex.E (32*(u*u)) L/\1/Ex.E (32*(u*u)) L<=1:=by
 obtain⟨q0,q1⟩:=sq_unit h0 h1;have y0:0<=32*(u*u):=by grind
 have n32 : -(32*(u*u)) = -32*(u*u):=by grind
 have a:=E_inv y0 hL (show (32*(u*u)+32*(u*u))+(32*(u*u)+32*(u*u))<=_ from xE (by grind) hL2);have m64:=Ex.tm_mono (x:=32*(u*u)+32*(u*u)) (y:=64) (by grind) (by grind) L;have m32:=Ex.tm_mono (x:=32*(u*u)) (y:=64) (by grind) (by grind) L;have t0:=Ex.tm_nn (x:=64) (by decide) L;have b:=tm_negB y0 L;rw[n32]at a b;have z0:0<=8*u*(8*u):=by grind
 have z64:8*u*(8*u)<=64:=by grind
 have tz:=tk_nn (k0:=3) (by omega) z0 L;have tl:=xE (tk_le_tm z0 L) (Ex.tm_mono z0 z64 L);have sz:=sk_nn (k0:=3) (by omega) z0 L;have sl:=xE (sk_le_E z0 L) (E_big z0 z64 L);have one:=E_one y0 hL;have big:=E_big y0 (by grind) L;have K:=Ex.t2_pos 102;have i1:Ex.E (32*(u*u)) L*(1/Ex.E (32*(u*u)) L)=1:=Ex.mul_div _ 1 (by grind);have i2:Ex.t2 102*(1/Ex.t2 102)=1:=Ex.mul_div _ 1 (by grind);have p1:0<=1/Ex.E (32*(u*u)) L:=Ex.div_nn (by decide) (by grind);have p2:0<=1/Ex.t2 102:=Ex.div_nn (by decide) K;have r1:=xA one p1;have r2:=xA big (xF p1 p2)
 have k1:Ex.E (32*(u*u)) L*(1/Ex.E (32*(u*u)) L*(1/Ex.t2 102))=1/Ex.t2 102:=by rw[<- zG,i1,xc]
 have k2:Ex.t2 102*(1/Ex.E (32*(u*u)) L*(1/Ex.t2 102))=1/Ex.E (32*(u*u)) L:=by
  have:Ex.t2 102*(1/Ex.E (32*(u*u)) L*(1/Ex.t2 102))=1/Ex.E (32*(u*u)) L*(Ex.t2 102*(1/Ex.t2 102)):=by grind
  rw[this,i2,yA]
 rw[k1,k2]at r2;rw[i1,xc]at r1;refine⟨Ex.Bdd_mono a (by grind),Ex.Bdd_mono b (by grind),xF (by grind) tz,?_,?_,?_,r2,r1⟩
 ·show 8*u*tk (8*u*(8*u)) 3 L<=8*e;have m:=mul_le (show 8*u<=8 by grind) tl (by decide) tz;grind
 ·rw[arA_is];exact xF (by grind) sz
 ·rw[arA_is];exact mul_le (show 8*u<=8 by grind) sl (by decide) sz
end Go.Proofs.YtfknkoeagjonbaaGreat
namespace Go.Proofs.YtfknkoeagjonbaaGreat
open Go.Ev
theorem ar_slopeG {u e K A M T B B1:Rat} (h0:0<=u) (h1:u<=1) (K1:1<=K) (he:0<=e) (hk:e*(K*(K*2000))<=1) (hA0:0<=A) (hA:A<=8*K) (hM:Ex.Bdd M e) (hT0:0<=T) (hT:T<=8*e) (hB:Ex.Bdd B 2) (hB1:1/K-e<=B1):1/K<=8*B1+64*u*(A*M-T*B):=by
 have K0:0<K:=by grind
 have i2:K*(1/K)=1:=Ex.mul_div _ 1 (by grind);have e1:e*(K*2000)<=1/K:=by
  refine le_by K0 ?_;have:e*(K*2000)*K=e*(K*(K*2000)):=by grind
  rw[this,ya (1/K),i2];exact hk
 have eK:e<=e*K:=by
  have:=xB K1 he;rw[yA]at this;exact this
 have eK0:0<=e*K:=xF he (by grind);have b1:=Ex.Bdd_mul (show Ex.Bdd A (8*K) from⟨by grind,hA⟩) hM;have b2:=Ex.Bdd_mul (show Ex.Bdd T (8*e) from⟨by grind,hT⟩) hB;have b3:=Ex.Bdd_mul (show Ex.Bdd u 1 from⟨by grind,h1⟩) (Ex.Bdd_sub b1 b2);obtain⟨l,-⟩:=b3;have g:8*K*e=8*(e*K):=by grind
 have g2:1*(8*K*e+8*e*2)<=24*(e*K):=by grind
 have g3:64*u*(A*M-T*B)=64*(u*(A*M-T*B)):=by grind
 have g4:e*(K*2000)=2000*(e*K):=by grind
 rw[g3];generalize u*(A*M-T*B)=X at *
 generalize e*K=Z at *
 generalize 1/K=R at *
 clear b1 b2 hA hM hT hB hk;grind
theorem area_grows {x y e:Rat} (hx:0<x) (hxy:x<=y) (hy:y<=8) (he:0<e) : ∃N:Nat,∀L,N<=L->x*sk (x*x) 3 L*evX (-(x*x/2)) L+(y-x)/8*(1/Ex.t2 102)<=y*sk (y*y) 3 L*evX (-(y*y/2)) L+e:=by
 obtain⟨K,hK⟩ : ∃K:Rat,K=Ex.t2 102:=⟨_,rfl⟩
 have K1:1<=K:=by rw[hK];exact Ex.castle (show 1<=2^102 by decide +kernel)
 have Kp:0<K:=by grind
 obtain⟨d,hd0,hd1,hd2⟩ : ∃d:Rat,0<d/\d*(K*(K*2000))<=1/\d*(16*K)<=e:=by
  have KK:=xt Kp (xt Kp (show (0:Rat)<2000 by decide));have E0:0<16*K/e:=by rw[xk];exact xt (by grind) (zU.2 he)
  have ee:16*K/e*e=16*K:=xd (by grind);obtain⟨D,hD⟩ : ∃D,D=K*(K*2000)+16*K/e:=⟨_,rfl⟩
  have Dp:0<D:=by rw[hD];grind
  have i:D*(1/D)=1:=Ex.mul_div _ 1 (by grind);have ip:0<1/D:=by rw[xk,xc];exact zU.2 Dp
  refine⟨1/D,ip,?_,?_⟩
  ·have:=xB (show K*(K*2000)<=D by rw[hD];grind) (xG ip);rw[ya (1/D) D,i]at this;exact this
  ·have m:=xB (show 16*K/e<=D by rw[hD];grind) (xG ip);rw[ya (1/D) D,i]at m;have m2:=xA m (xG he);rw[zG,ee,xc]at m2;exact m2
 obtain⟨N,hN⟩:=Ex.tm_small (y:=64) (by decide) hd0;refine⟨N+2,fun L hL => ?_⟩;obtain⟨u,hu⟩ : ∃u:Rat,x=8*u:=⟨x/8,by rw[Ex.mul_div _ _ (by decide)]⟩
 obtain⟨v,hv⟩ : ∃v:Rat,y=8*v:=⟨y/8,by rw[Ex.mul_div _ _ (by decide)]⟩
 obtain⟨k,rfl⟩ : ∃k,L=k+1:=⟨L-1,by omega⟩
 have near:=fun (t:Rat) (t0:0<=t) (t1:t<=1) (m:Nat) (hm:N+1<=m)=>ar_near (u:=t) (e:=d) (L:=m) t0 t1 (by omega) (hN m (by omega)).2 (hN m (by omega)).1
 obtain⟨R,hR⟩ : ∃R:Rat,R=1/K:=⟨_,rfl⟩
 have mono:arA u (k+1)*Ex.E (-32*(u*u)) (k+1) + -R*u<=arA v (k+1)*Ex.E (-32*(v*v)) (k+1) + -R*v:=by
  refine dif_mono (dif_add (dif_mul (dif_arA k) (dif_arE k)) (dif_mul (dif_const (-R)) dif_id)) (show 0<=u by grind) (show u<=v by grind) (show v<=1 by grind) fun t h1 h2 => ?_
  have t0:0<=t:=by grind
  have t1:t<=1:=by grind
  obtain⟨n1,n2,n3,n4,n5,n6,n7,n8⟩:=near t t0 t1 k (by omega);obtain⟨g1,g2,g3,g4,g5,g6,g7,g8⟩:=near t t0 t1 (k+1) (by omega);have e1:arA t (k+1)=arA t k+arT k t:=rfl;have e2:Ex.E (-32*(t*t)) (k+1)=Ex.E (-32*(t*t)) k+arM k t:=rfl;have s:=ar_slopeG (u:=t) (e:=d) (K:=K) (A:=arA t k) (M:=arM k t) (T:=arT k t) (B:=Ex.E (-32*(t*t)) k) (B1:=Ex.E (-32*(t*t)) (k+1)) t0 t1 K1 (xG hd0) hd1 n5 (by rw[hK];exact n6) n2 n3 n4 (by
   obtain⟨a,b⟩:=n1;have d1:d<=1:=by
    have KK:1<=K*(K*2000):=by
     have a:=mul_le (show 1<=K from K1) (show 1<=K*2000 by grind) (by grind) (by decide);rw[xc]at a;exact a
    have:=xB KK (xG hd0);grind
   have p:0<=1/Ex.E (32*(t*t)) k:=xE (Ex.div_nn (by decide) (Ex.t2_pos 102)) n7;constructor<;>grind) (by
   obtain⟨a,b⟩:=g1;rw[hK];grind)
  have fin:arA t (k+1)*(-64*t*Ex.E (-32*(t*t)) k)+(8+64*t*arA t k)*Ex.E (-32*(t*t)) (k+1)=8*Ex.E (-32*(t*t)) (k+1)+64*t*(arA t k*arM k t-arT k t*Ex.E (-32*(t*t)) k):=by
   rw[e1,e2];grind
  show 0<=arA t (k+1)*(-64*t*Ex.E (-32*(t*t)) k)+(8+64*t*arA t k)*Ex.E (-32*(t*t)) (k+1)+(-R*1+0*t)
  rw[fin,hR];generalize 8*Ex.E (-32*(t*t)) (k+1)+64*t*(arA t k*arM k t-arT k t*Ex.E (-32*(t*t)) k)=Z at *
  generalize 1/K=R' at *
  clear near hN n1 n2 g1 g2 e2 fin;grind
 have val : ∀t z:Rat,z=8*t->0<z->z<=8->Ex.Bdd (z*sk (z*z) 3 (k+1)*evX (-(z*z/2)) (k+1)-arA t (k+1)*Ex.E (-32*(t*t)) (k+1)) (8*K*d):=by
  intro t z hz z0 z8;obtain⟨g1,g2,g3,g4,g5,g6,g7,g8⟩:=near t (by grind) (by grind) (k+1) (by omega);have zz:0<z*z:=xt z0 z0;have q:z*z/2=32*(t*t):=by
   have h:=xd (a:=z*z) (b:=2) (by decide);have:z*z=32*(t*t)*2:=by rw[hz];grind
   generalize z*z/2=w at *
   grind
  have ev:evX (-(z*z/2)) (k+1)=1/Ex.E (32*(t*t)) (k+1):=by
   have tt:0<32*(t*t):=by rw[<- q];have h:=xd (a:=z*z) (b:=2) (by decide);generalize z*z/2=w at *;grind
   unfold evX;rw[q,if_pos (by grind),Rat.neg_neg]
  have ea:z*sk (z*z) 3 (k+1)=arA t (k+1):=by rw[arA_is,hz]
  rw[ev,ea];have b:=Ex.Bdd_mul (show Ex.Bdd (arA t (k+1)) (8*K) from⟨by grind,by rw[hK];exact g6⟩) g1;obtain⟨b1,b2⟩:=b;constructor<;>grind
 obtain⟨v1,v2⟩:=val u x hu hx (by grind);obtain⟨w1,w2⟩:=val v y hv (by grind) hy;rw[<- hK,<- hR];have ex:(y-x)/8*R=R*v-R*u:=by
  rw[hu,hv];grind
 rw[ex];generalize x*sk (x*x) 3 (k+1)*evX (-(x*x/2)) (k+1)=X at *
 generalize y*sk (y*y) 3 (k+1)*evX (-(y*y/2)) (k+1)=Y at *
 have e8:8*K*d+8*K*d=d*(16*K):=by grind
 clear ex near hN;grind
theorem arV_grows {x y r l h:Rat} {s1 s2:Nat} (hx:0<x) (hxy:x<=y) (hy:y<=8) (hr:0<r) (h1 : ∀L,s1<=L->l<=arV x (x*x) (x*x/2) r L) (h2 : ∀L,s2<=L->arV y (y*y) (y*y/2) r L<=h):l+(y-x)/8*(1/Ex.t2 102)*(1/r)<=h:=by
 refine yZ.1 fun g => ?_
 obtain⟨R,hR⟩ : ∃R:Rat,R=1/r:=⟨_,rfl⟩
 have R0:0<R:=by
  rw[hR,xk,xc];exact zU.2 hr
 obtain⟨G,hG⟩ : ∃G:Rat,G=(y-x)/8*(1/Ex.t2 102):=⟨_,rfl⟩
 rw[<- hR,<- hG]at g;obtain⟨e,he,hee⟩ : ∃e:Rat,0<e/\e*(R+1)=l+G*R-h:=⟨(l+G*R-h)/(R+1),by rw[xk];exact xt (by grind) (zU.2 (by grind)),xd (by grind)⟩
 obtain⟨N,hN⟩:=area_grows hx hxy hy he;have a:=h1 (s1+s2+N) (by omega);have b:=h2 (s1+s2+N) (by omega);have c:=xA (hN (s1+s2+N) (by omega)) (xG R0);rw[<- hG]at c;unfold arV at a b;rw[<- hR]at a b;generalize x*sk (x*x) 3 (s1+s2+N)*evX (-(x*x/2)) (s1+s2+N)=X at *
 generalize y*sk (y*y) 3 (s1+s2+N)*evX (-(y*y/2)) (s1+s2+N)=Y at *
 have:e*R<l+G*R-h:=by rw[<- hee];grind
 grind
end Go.Proofs.YtfknkoeagjonbaaGreat
namespace Go.Proofs.YtfknkoeagjonbaaGreat
open Go.Ev
structure RtP (r1 r2:Rat):Prop where
 nn:0<=r1
 le:r1<=r2
 low:r1*r1<=2*(SQ*SQ)
 high:2*(SQ*SQ)<=r2*r2
def LoP (z l:Rat):Prop := ∃r1 r2,RtP r1 r2 /\ ∀r,r1<=r->r<=r2 -> ∃s:Nat,∀L,s<=L->l<=arV z (z*z) (z*z/2) r L
def HiP (z h:Rat):Prop := ∃r1 r2,RtP r1 r2 /\ ∀r,r1<=r->r<=r2 -> ∃s:Nat,∀L,s<=L->arV z (z*z) (z*z/2) r L<=h
theorem sq_two:2*(SQ*SQ)<=(251/100)*(251/100)/\0<2*(SQ*SQ):=by decide +kernel
section
variable {a1 a2 b1 b2 x y z l h:Rat}
theorem root_le (ha:0<=a1) (hb:0<=b2) (h1:a1*a1<=x) (h2:x<=b2*b2):a1<=b2:=by
 refine yZ.1 fun g => ?_
 have m1:=Rat.mul_lt_mul_of_pos_left g (show 0<a1 by grind);have m2:=xB (xG g) hb;grind
theorem rt_common (A:RtP a1 a2) (B:RtP b1 b2) : ∃r:Rat,0<r/\r<=251/100/\a1<=r/\r<=a2/\b1<=r/\r<=b2:=by
 obtain⟨u,w⟩:=sq_two;have c0:(0:Rat)<=251/100:=by decide +kernel
 have A2:0<=a2:=xE A.nn A.le;have B2:0<=b2:=xE B.nn B.le;have pos : ∀t:Rat,0<=t->2*(SQ*SQ)<=t*t->0<t:=by
  intro t t0 tt;rcases Rat.le_iff_lt_or_eq.1 t0 with g|g
  ·exact g
  ·subst g;grind
 have pa:=pos a2 A2 A.high;have pb:=pos b2 B2 B.high;have pc:(0:Rat)<251/100:=by decide +kernel
 have k1:=root_le A.nn c0 A.low u;have k2:=root_le B.nn c0 B.low u;have k3:=root_le A.nn B2 A.low B.high;have k4:=root_le B.nn A2 B.low A.high;have k5:=A.le;have k6:=B.le;generalize (251/100:Rat)=c at *
 by_cases g1:a2<=b2
 ·by_cases g2:a2<=c
  ·exact⟨a2,pa,g2,k5,xN,k4,g1⟩
  ·exact⟨c,pc,xN,k1,by grind,k2,by grind⟩
 ·by_cases g2:b2<=c
  ·exact⟨b2,pb,g2,k3,by grind,k6,xN⟩
  ·exact⟨c,pc,xN,k1,by grind,k2,by grind⟩
theorem rt_self (A:RtP a1 a2) : ∃r:Rat,0<r/\r<=251/100/\a1<=r/\r<=a2:=by
 obtain⟨r,h0,h1,h2,h3,-⟩:=rt_common A A;exact⟨r,h0,h1,h2,h3⟩
theorem third_le {r:Rat} (h0:0<r) (h1:r<=251/100):1/3<=1/r:=by
 refine le_by h0 ?_;rw[xd (by grind)];have e:(251/100:Rat)*(1/3)<=1:=by decide +kernel
 have m:=xA h1 (show (0:Rat)<=1/3 by decide +kernel);generalize (1/3:Rat)=t at *
 generalize (251/100:Rat)=c at *
 grind
abbrev gG:Rat:=121694457621910022543683507716096
theorem grow_num {d r:Rat} (hd:0<=d) (h0:0<r) (h1:r<=251/100):d<=d/8*(1/Ex.t2 102)*(1/r)*gG:=by
 have e:1/8*(1/Ex.t2 102)*(1/3)*gG=1:=by decide +kernel
 have e8:d/8=d*(1/8):=by rw[xk,xk,xc]
 have t:=third_le h0 h1;have p:0<=d*(1/8)*(1/Ex.t2 102):=xF (xF hd (by decide +kernel)) (by decide +kernel);have m:=xB t p;have m2:=xA m (show (0:Rat)<=gG by decide +kernel);rw[e8];have e2:d*(1/8)*(1/Ex.t2 102)*(1/3)*gG=d*(1/8*(1/Ex.t2 102)*(1/3)*gG):=by
  generalize (1/8:Rat)=q8;generalize (1/3:Rat)=q3;generalize 1/Ex.t2 102=qt;generalize gG=qg;grind
 rw[e2,e,yA]at m2;exact m2
theorem bell_grows (hx:0<x) (hxy:x<=y) (hy:y<=8) (A:LoP x l) (B:HiP y h):y-x<=(h-l)*gG:=by
 obtain⟨a1,a2,RA,A⟩:=A;obtain⟨b1,b2,RB,B⟩:=B;obtain⟨r,h0,h1,k1,k2,k3,k4⟩:=rt_common RA RB;obtain⟨s1,A⟩:=A r k1 k2;obtain⟨s2,B⟩:=B r k3 k4;have g:=arV_grows hx hxy hy h0 A B;have n:=grow_num (show 0<=y-x by grind) h0 h1;have m:=xA (show (y-x)/8*(1/Ex.t2 102)*(1/r)<=h-l by grind) (show (0:Rat)<=gG by decide +kernel);exact xE n m
theorem arV_n0 {z r:Rat} {L:Nat} (h:0<z) (hr:0<=r) (hL:1<=L):0<=arV z (z*z) (z*z/2) r L:=by
 have zz:=xt h h;have q:0<z*z/2:=by have e:=xd (a:=z*z) (b:=2) (by decide);generalize z*z/2=w at *;grind
 have R0:0<=1/r:=by
  rw[xk,xc];by_cases e:r=0
  ·rw[e];decide +kernel
  ·exact xG (zU.2 (by grind))
 exact xF (xF (xF (xG h) (sk_nn (by omega) (xG zz) L)) (ev_le1 (z := -(z*z/2)) (by grind) hL).2) R0
theorem bell_above (hy0:0<y) (hy:y<=8) (B:HiP y h):y<=h*(2*gG):=by
 obtain⟨b1,b2,RB,B⟩:=B;obtain⟨r,h0,h1,k3,k4⟩:=rt_self RB;obtain⟨s2,B⟩:=B r k3 k4;have y2:y/2+y/2=y:=by
  have:=xd (a:=y) (b:=2) (by decide);grind
 generalize hx:y/2=x at *
 have x0:0<x:=by grind
 have g:=arV_grows (l:=0) (s1:=1) x0 (show x<=y by grind) hy h0 (fun L hL=>arV_n0 x0 (xG h0) hL) B;have n:=grow_num (show 0<=y-x by grind) h0 h1;have m:=xA (show (y-x)/8*(1/Ex.t2 102)*(1/r)<=h by grind) (show (0:Rat)<=gG by decide +kernel);have k:=xE n m;generalize gG=G at *
 grind
def LoN (z l:Rat):Prop:=(z=0/\l=1/2)\/(0<z/\LoP z (l-1/2))\/(z<0/\HiP (-z) (1/2-l))
def HiN (z h:Rat):Prop:=(z=0/\h=1/2)\/(0<z/\HiP z (h-1/2))\/(z<0/\LoP (-z) (1/2-h))
theorem share_grows (hx : -8<=x) (hxy:x<=y) (hy:y<=8) (A:LoN x l) (B:HiN y h):y-x<=(h-l)*(2*gG):=by
 have G0:(0:Rat)<=gG:=by decide +kernel
 generalize hh:(1/2:Rat)=f at *
 unfold LoN at A;unfold HiN at B;rw[hh]at A B;have n1 : ∀ {x y l h:Rat},0<x->x<=y->y<=8->LoP x l->HiP y h->y-x<=(h-l)*gG:=fun h1 h2 h3 A B=>bell_grows h1 h2 h3 A B
 have n2 : ∀ {y h:Rat},0<y->y<=8->HiP y h->y<=h*(2*gG):=fun h1 h2 A=>bell_above h1 h2 A
 generalize gG=G at *
 rcases A with⟨e,A⟩|⟨e,A⟩|⟨e,A⟩<;>rcases B with⟨e',B⟩|⟨e',B⟩|⟨e',B⟩
 ·grind
 ·have:=n2 e' hy B;grind
 ·grind
 ·grind
 ·have g:=n1 e hxy hy A B;have:0<=(h-l)*G:=by grind
  grind
 ·grind
 ·have:=n2 (show 0 < -x by grind) (by grind) A;grind
 ·have a:=n2 (show 0 < -x by grind) (by grind) A;have b:=n2 e' hy B;grind
 ·have g:=n1 (show 0 < -y by grind) (show -y <= -x by grind) (by grind) B A;have:0<=(h-l)*G:=by grind
  grind
end
end Go.Proofs.YtfknkoeagjonbaaGreat
namespace Go.Proofs.YtfknkoeagjonbaaGreat
open Go.Ev
def Ds (c:Rat) (w J:Nat) (x:Rat):Prop := ∃y,Dy J y/\x=c+p2 w*y
section
variable {c x y t:Rat} {w J s:Nat}
end
structure SrT (Lo Hi:Tells) (q c:Rat) (w:Nat) (lo0 hi0:Rat) (k:Nat) (lo hi:Rat):Prop where
 low:lo=lo0\/(lo0<lo /\ ∃h,Hi lo h/\h<q)
 high:hi=hi0\/(hi<hi0 /\ ∃l,Lo hi l/\q<l)
 lt:lo<hi
 dlo:Ds c w (18+w+k) lo
 dhi:Ds c w (18+w+k) hi
 w:(hi-lo)*((4^k:Nat):Rat)<=128*((3^k:Nat):Rat)
section
variable {Lo Hi:Tells} {q c lo0 hi0 lo hi lo' hi':Rat} {w k:Nat}
end
end Go.Proofs.YtfknkoeagjonbaaGreat
namespace Go.Proofs.YtfknkoeagjonbaaGreat
open Go.Ev
section
variable {k n m:Int} {sa sb:Bool} {na da nb db:List Nat} {Lo Hi:Tells}
end
end Go.Proofs.YtfknkoeagjonbaaGreat
namespace Go.Proofs.YtfknkoeagjonbaaGreat
open Go.Ev
section
variable {k n m:Int} {sa sb:Bool} {na da nb db:List Nat} {Lo Hi:Tells}
end
end Go.Proofs.YtfknkoeagjonbaaGreat
namespace Go.Proofs.YtfknkoeagjonbaaGreat
open Go.Ev
section
variable {k n m:Int} {sa sb:Bool} {na da nb db:List Nat} {a b:Rat} {M:Nat}
theorem cdf_held {v:SV} {x l h:Rat} {L P Q:Nat} (hA:RatA (ratV sa na da) a M) (hB:RatA (ratV sb nb db) b M) (hM:1<=M) (hM2:M<=1000) (hc:chkD k n m a b=0) (hx:RatA v x L) (hP:P<=1000000) (hQ:Q=if P<=200 then P else 200)
  (f:Go.Ev.Fn CX 137 [distV k n m sa na da sb nb db,v,.int .i64 (Q:Int)] (.tup [ballR l h,.bool true])) :
  Go.Ev.Fn CX 84 [distV k n m sa na da sb nb db,v,.int .i64 (P:Int)] (.tup [ballR l h,.int .i64 0]):=by
 have c:=dist_Check (k:=k) (n:=n) (m:=m) hA hB hM;rw[hc]at c;have x1:(if (0:Int)>(P:Int) then (0:Int) else (P:Int))=(P:Int):=if_neg (by omega);have x2:(if (200:Int)<(P:Int) then (200:Int) else (P:Int))=(Q:Int):=by
  subst hQ;by_cases g:P<=200
  ·rw[if_neg (by omega),if_pos g]
  ·rw[if_pos (by omega),if_neg g];rfl
 clear hA hB;obtain⟨s,nn,dd,rfl,-⟩:=hx;refine fni Tryz.f84 ?_;unfold Tryz.f84;repeat (first|simp only[go_sem,x1,x2,xL]|simp (disch:=first|exact omg|fail) only[AX,x1,x2,xL]|refine wki ?_|refine vfa ?_)
end
end Go.Proofs.YtfknkoeagjonbaaGreat
namespace Go.Proofs.YtfknkoeagjonbaaGreat
open Go.Ev
def wideD (k:Int) (a b:Rat):Bool:=if k=1 then decide (1048576<b) else if k=2\/k=3 then decide (a<mkRat 1 (2^20)) else false
theorem bit20_sz:szR (mkRat 1 (2^20)) 1:=⟨lim_len_lt (by decide +kernel),lim_len_lt (by decide +kernel)⟩
section
variable {k n m:Int} {sa sb:Bool} {na da nb db:List Nat} {a b:Rat} {x l h:Rat} {v:SV} {L:Nat} {p:Int}
theorem quant_isWide (hA:RatA (ratV sa na da) a 2) (hB:RatA (ratV sb nb db) b 2):Go.Ev.Fn CX 30 [distV k n m sa na da sb nb db] (.bool (wideD k a b)):=by
 have i:=rat_Int 1048576;have c:=rat_Cmp hB (RatA_rv (int_szR (n:=1048576)));have e:decide (cmpR b ((1048576:Int):Rat)>0)=decide (1048576<b):=cmpR_gt;have bt:=q_bit 20;have c2:=rat_Cmp hA (RatA_rv bit20_sz);have e2:decide (cmpR a (mkRat 1 (2^20))<0)=decide (a<mkRat 1 (2^20)):=cmpR_lt;generalize cmpR b ((1048576:Int):Rat)=y1 at *
 generalize hy:mkRat 1 (2^20)=y2 at *
 generalize cmpR a y2=y3 at *
 unfold wideD;rw[hy];clear hA hB hy;by_cases k1:k=1
 ·subst k1;rw[if_pos rfl];refine fni Tryz.f30 ?_;unfold Tryz.f30;repeat (first|simp only[go_sem,e]|simp (disch:=first|exact omg|fail) only[AX,e]|refine wki ?_|refine vpd 3 [] ?_|refine vpd 6 [] ?_|refine vfa ?_)
 by_cases k2:k=2
 ·subst k2;rw[if_neg (by omega),if_pos (by omega)];refine fni Tryz.f30 ?_;unfold Tryz.f30;repeat (first|simp only[go_sem,e2]|simp (disch:=first|exact omg|fail) only[AX,e2]|refine wki ?_|refine vpd 3 [] ?_|refine vpd 6 [] ?_|refine vfa ?_)
 by_cases k3:k=3
 ·subst k3;rw[if_neg (by omega),if_pos (by omega)];refine fni Tryz.f30 ?_;unfold Tryz.f30;repeat (first|simp only[go_sem,e2]|simp (disch:=first|exact omg|fail) only[AX,e2]|refine wki ?_|refine vpd 3 [] ?_|refine vpd 6 [] ?_|refine vfa ?_)
 rw[if_neg k1,if_neg (by omega)];refine fni Tryz.f30 ?_;unfold Tryz.f30;repeat (first|simp only[go_sem]|simp (disch:=first|exact omg|fail) only[AX]|refine wki ?_|refine vpd 3 [] ?_|refine vpd 6 [] ?_)
theorem st_normal (hA:RatA (ratV sa na da) a 2) (hB:RatA (ratV sb nb db) b 2):Go.Ev.Fn CX 31 [distV 1 n m sa na da sb nb db] (.tup [rv (a-8*b),rv (a+8*b)]):=by
 have i:=rat_Int 8;have z8:=int_szR (n:=8);have zm:=szR_mul z8 (szR_of hB);have mu:=rat_Mul (RatA_rv z8) hB;have sb':=rat_Sub hA (RatA_rv zm);have ad:=rat_Add hA (RatA_rv zm);rw[show ((8:Int):Rat)=8 from rfl]at i mu sb' ad;generalize (8:Rat)*b=y at *
 clear hA hB z8 zm;generalize a-y=u at *
 generalize a+y=w at *
 refine fni Tryz.f31 ?_;unfold Tryz.f31;repeat (first|simp only[go_sem]|simp (disch:=first|exact omg|fail) only[AX]|refine wki ?_|refine vpd 3 [] ?_|refine vpd 4 [] ?_|refine vpd 7 [] ?_|refine vfa ?_)
theorem st_rate (hk:k=2\/k=3) (hA:RatA (ratV sa na da) a 2):Go.Ev.Fn CX 31 [distV k n m sa na da sb nb db] (.tup [rv 0,rv (64/a)]):=by
 have i0:=rat_Int 0;have i:=rat_Int 64;have ov:=q_over (RatA_rv (int_szR (n:=64))) hA;rw[show ((64:Int):Rat)=64 from rfl]at i ov;rw[show ((0:Int):Rat)=0 from rfl]at i0;generalize (64:Rat)/a=w at *
 clear hA;rcases hk with rfl|rfl
 ·refine fni Tryz.f31 ?_;unfold Tryz.f31;repeat (first|simp only[go_sem]|simp (disch:=first|exact omg|fail) only[AX]|refine wki ?_|refine vpd 3 [] ?_|refine vpd 4 [] ?_|refine vpd 7 [] ?_|refine vfa ?_)
 ·refine fni Tryz.f31 ?_;unfold Tryz.f31;repeat (first|simp only[go_sem]|simp (disch:=first|exact omg|fail) only[AX]|refine wki ?_|refine vpd 3 [] ?_|refine vpd 4 [] ?_|refine vpd 7 [] ?_|refine vfa ?_)
theorem st_fixed {lo hi:Int} (hk:(k=4/\lo=0/\hi=128)\/(k=5/\lo = -64/\hi=64)\/(k=6/\lo=0/\hi=64)\/(k=7/\lo=0/\hi=1):=by omega):Go.Ev.Fn CX 31 [distV k n m sa na da sb nb db] (.tup [rv (lo:Rat),rv (hi:Rat)]):=by
 have i:=rat_Int lo;have j:=rat_Int hi;generalize (lo:Rat)=u at *
 generalize (hi:Rat)=w at *
 rcases hk with⟨rfl,rfl,rfl⟩|⟨rfl,rfl,rfl⟩|⟨rfl,rfl,rfl⟩|⟨rfl,rfl,rfl⟩
 ·refine fni Tryz.f31 ?_;unfold Tryz.f31;repeat (first|simp only[go_sem]|simp (disch:=first|exact omg|fail) only[AX]|refine wki ?_|refine vpd 3 [] ?_|refine vpd 4 [] ?_|refine vpd 7 [] ?_|refine vfa ?_)
 ·refine fni Tryz.f31 ?_;unfold Tryz.f31;repeat (first|simp only[go_sem]|simp (disch:=first|exact omg|fail) only[AX]|refine wki ?_|refine vpd 3 [] ?_|refine vpd 4 [] ?_|refine vpd 7 [] ?_|refine vfa ?_)
 ·refine fni Tryz.f31 ?_;unfold Tryz.f31;repeat (first|simp only[go_sem]|simp (disch:=first|exact omg|fail) only[AX]|refine wki ?_|refine vpd 3 [] ?_|refine vpd 4 [] ?_|refine vpd 7 [] ?_|refine vfa ?_)
 ·refine fni Tryz.f31 ?_;unfold Tryz.f31;repeat (first|simp only[go_sem]|simp (disch:=first|exact omg|fail) only[AX]|refine wki ?_|refine vpd 3 [] ?_|refine vpd 4 [] ?_|refine vpd 7 [] ?_|refine vfa ?_)
theorem chance_zero (hk:k=2\/k=3\/k=4\/k=6\/k=7:=by omega):Go.Ev.Fn CX 137 [distV k n m sa na da sb nb db,rv 0,.int .i64 p] (.tup [ballR 0 0,.bool true]):=by
 have hx:RatA (rv 0) 0 1:=RatA_rv (szR_zero);have bl:=dist_below hx (by omega) (by omega) 0;have ab:=dist_above hx (by omega) (by omega) 0;have i0:=rat_Int 0;have o:=ball_Of hx;rw[show ((0:Int):Rat)=0 from rfl]at bl ab i0;rw[decide_eq_false (by decide)]at bl ab;have k1 : ¬k=1:=by omega
 have k5 : ¬k=5:=by omega
 have k8 : ¬k=8:=by omega
 have k9 : ¬k=9:=by omega
 clear hk;refine fni Tryz.f137 ?_;unfold Tryz.f137;repeat (first|simp only[go_sem,xg]|simp (disch:=first|exact omg|fail) only[AX,xg]|refine wki ?_|refine vpd 3 [] ?_|refine vpd 11 [] ?_|refine vpd 13 [] ?_|refine vpd 15 [] ?_|refine vpd 17 [] ?_|refine vpd 18 [] ?_|refine vpd 24 [] ?_|refine vpd 26 [] ?_|refine vfa ?_)
theorem fam_mk {Lo Hi:Tells} {c lo0 hi0:Rat} {W:Nat} (hA:RatA (ratV sa na da) a 2) (hB:RatA (ratV sb nb db) b 2) (hc:chkD k n m a b=0) (hk:k≠8/\k≠9) (hw:wideD k a b=false)
  (st:Go.Ev.Fn CX 31 [distV k n m sa na da sb nb db] (.tup [rv lo0,rv hi0])) (W0:0<W) (hW:W<18446744073709551616) (zc:szR c 10) (hl:c<=lo0) (hh:hi0<=c+134217728) (lt:lo0<hi0) (dl:Dz c W 22 lo0) (dh:Dz c W 22 hi0)
  (ch : ∀x,(∃J,J<=140/\Dz c W J x)->szR x 20->lo0<=x->x<=hi0 -> ∀Q:Nat,(Q=32\/Q=64\/Q=128\/Q=200) -> ∃l h:Rat,Go.Ev.Fn CX 137 [distV k n m sa na da sb nb db,rv x,.int .i64 (Q:Int)] (.tup [ballR l h,.bool true])/\szR l 500/\szR h 500/\(h-l)*p2 Q<=1/\Lo x l/\Hi x h) :
  Fam (p2 200) (distV k n m sa na da sb nb db) Lo Hi c W lo0 hi0:=by
 have ck:=dist_Check (k:=k) (n:=n) (m:=m) hA hB;rw[hc]at ck;have ct:=dist_Counts (k:=k) (n:=n) (m:=m) hA hB;rw[show cntD k n m a b=false by unfold cntD;rw[show (k==8)=false from beq_eq_false_iff_ne.2 hk.1,show (k==9)=false from beq_eq_false_iff_ne.2 hk.2];rfl]at ct;have iw:=quant_isWide (k:=k) (n:=n) (m:=m) hA hB;rw[hw]at iw;refine⟨ck,ct,iw,st,W0,hW,zc,hl,hh,lt,dl,dh,?_⟩;rintro x ⟨J,hJ,hx⟩ x0 x1 P hP
 have zx:szR x 20:=srg_sz (q:=0) hx hJ W0 hW zc hl hh x0 x1;obtain⟨l,h,f,z1,z2,w,A,B⟩:=ch x ⟨J,hJ,hx⟩ zx x0 x1 (if P<=200 then P else 200) (by rcases hP with rfl|rfl|rfl|rfl<;>simp);refine⟨l,h,cdf_held hA hB (by omega) (by omega) hc (RatA_rv zx) (by omega) rfl f,z1,z2,fun e => ?_,A,B⟩;subst e;exact w
end
end Go.Proofs.YtfknkoeagjonbaaGreat
namespace Go.Proofs.YtfknkoeagjonbaaGreat
open Go.Ev
section
variable {n m:Nat} {kn km:Int} {sa sb:Bool} {na da nb db:List Nat} {a b:Rat} {x l h:Rat} {v:SV} {L:Nat} {p:Int}
theorem chance_mid (hx:RatA v x L) (hL1:1<=L) (hL:L<=80) (hx0:0<x) (hx1:x<1) (f:Go.Ev.Fn CX 53 [.int .i64 kn,.int .i64 km,v,.int .i64 p] (.tup [ballR l h,.bool true])) :
  Go.Ev.Fn CX 137 [distV 7 kn km sa na da sb nb db,v,.int .i64 p] (.tup [ballR l h,.bool true]):=by
 have bl:=dist_below hx hL1 (by omega) 0;have ab:=dist_above hx hL1 (by omega) 0;have bl1:=dist_below hx hL1 (by omega) 1;rw[show ((0:Int):Rat)=0 from rfl]at bl ab;rw[show ((1:Int):Rat)=1 from rfl]at bl1;rw[decide_eq_false (by grind)]at bl;rw[decide_eq_true hx0]at ab;rw[decide_eq_true hx1]at bl1;clear hx0 hx1;obtain⟨s,nn,dd,rfl,-⟩:=hx;refine fni Tryz.f137 ?_;unfold Tryz.f137
 repeat (first|simp only[go_sem,xL]|simp (disch:=first|exact omg|fail) only[AX,xL]|refine wki ?_|refine vpd 3 [] ?_|refine vpd 11 [] ?_|refine vpd 13 [] ?_|refine vpd 15 [] ?_|refine vpd 17 [] ?_|refine vpd 18 [] ?_|refine vpd 24 [] ?_|refine vpd 26 [] ?_|refine vfa ?_)
theorem chance_end:Go.Ev.Fn CX 137 [distV 7 kn km sa na da sb nb db,rv 1,.int .i64 p] (.tup [ballR 1 1,.bool true]):=by
 have hx:RatA (rv 1) 1 1:=RatA_rv one_q;have bl:=dist_below hx (by omega) (by omega) 0;have ab:=dist_above hx (by omega) (by omega) 0;have bl1:=dist_below hx (by omega) (by omega) 1;have o:=dist_one1;rw[show ((0:Int):Rat)=0 from rfl]at bl ab;rw[show ((1:Int):Rat)=1 from rfl]at bl1;rw[decide_eq_false (by decide)]at bl bl1;rw[decide_eq_true (by decide)]at ab;refine fni Tryz.f137 ?_;unfold Tryz.f137
 repeat (first|simp only[go_sem,xL,xg]|simp (disch:=first|exact omg|fail) only[AX,xL,xg]|refine wki ?_|refine vpd 3 [] ?_|refine vpd 11 [] ?_|refine vpd 13 [] ?_|refine vpd 15 [] ?_|refine vpd 17 [] ?_|refine vpd 18 [] ?_|refine vpd 24 [] ?_|refine vpd 26 [] ?_|refine vfa ?_)
theorem incb_D {y:Rat} {Q:Nat} (zy:szR y 50) (hn:1<=n/\n<=16) (hm:1<=m/\m<=16) (hQ:Q<=200) (y0:0<y) (y1:y<1) :
  ∃l h:Rat,Go.Ev.Fn CX 53 [.int .i64 (n:Int),.int .i64 (m:Int),rv y,.int .i64 (Q:Int)] (.tup [ballR l h,.bool true])/\szR l 200/\szR h 200/\l<=h/\(h-l)*p2 Q<=1/\(LoS n m y l/\Dya l)/\HiS n m y h/\Dya h:=by
 obtain⟨l,h,f,z1,z2,le,w,g⟩:=incb_ballX (RatA_rv zy) (by omega) (by omega) hn.1 (by omega) hm.1 (by omega) hQ y0 y1;obtain⟨A,B⟩:=ball_LoHi g;obtain⟨C,D⟩:=ball_dya hQ g;exact⟨l,h,f,z1,z2,le,w,⟨A,C⟩,B,D⟩
theorem none_wide {q:Rat} {Q:Nat}:(q-q)*p2 Q<=1:=by
 rw[zg,xw];decide
theorem fam_beta (hA:RatA (ratV sa na da) a 2) (hB:RatA (ratV sb nb db) b 2) (hc:chkD 7 (n:Int) (m:Int) a b=0) (hn:1<=n/\n<=16) (hm:1<=m/\m<=16) :
  Fam (p2 200) (distV 7 (n:Int) (m:Int) sa na da sb nb db) (LoB n m) (HiB n m) 0 1 0 1:=by
 refine fam_mk hA hB hc ⟨by omega,by omega⟩ rfl (st_fixed (lo:=0) (hi:=1)) (by omega) (by omega) (szR_zero) xN (by decide +kernel) (by decide +kernel) ⟨0,by decide +kernel⟩ ⟨4194304,by decide +kernel⟩ ?_;rintro x-zx x0 x1 Q hQ
 by_cases e:x=0
 ·subst e;exact⟨0,0,chance_zero,szR_zero,szR_zero,none_wide,.inl ⟨xN,rfl⟩,.inl ⟨xN,rfl⟩⟩
 by_cases e1:x=1
 ·subst e1;exact⟨1,1,chance_end,szR_mono one_q,szR_mono one_q,none_wide,.inr (.inr xN),.inr (.inr ⟨xN,rfl⟩)⟩
 have y0:0<x:=by grind
 have y1:x<1:=by grind
 obtain⟨l,h,f,z1,z2,le,w,A,B⟩:=incb_D (Q:=Q) (szR_mono zx) hn hm (by omega) y0 y1;exact⟨l,h,chance_mid (RatA_rv zx) (by omega) (by omega) y0 y1 f,szR_mono z1,szR_mono z2,w,.inr (.inl ⟨y0,y1,A⟩),.inr (.inl ⟨y0,y1,B⟩)⟩
theorem fam_fisher (hA:RatA (ratV sa na da) a 2) (hB:RatA (ratV sb nb db) b 2) (hc:chkD 6 (n:Int) (m:Int) a b=0) (hn:1<=n/\n<=16) (hm:1<=m/\m<=16) :
  Fam (p2 200) (distV 6 (n:Int) (m:Int) sa na da sb nb db) (LoF n m) (HiF n m) 0 1 0 64:=by
 refine fam_mk hA hB hc ⟨by omega,by omega⟩ rfl (st_fixed (lo:=0) (hi:=64)) (by omega) (by omega) (szR_zero) xN (by decide +kernel) (by decide +kernel) ⟨0,by decide +kernel⟩ ⟨268435456,by decide +kernel⟩ ?_;rintro x-zx x0 x1 Q hQ
 by_cases e:x=0
 ·subst e;exact⟨0,0,chance_zero,szR_zero,szR_zero,none_wide,.inl ⟨xN,rfl⟩,.inl ⟨xN,rfl⟩⟩
 have y0:0<x:=by grind
 obtain⟨u0,u1,-⟩:=fis_y hn.1 hm.1 y0;obtain⟨l,h,f,z1,z2,le,w,A,B⟩:=incb_D (Q:=Q) (szR_mono (fisY_sz (n:=(n:Int)) (m:=(m:Int)) (by omega) (by omega) zx)) hn hm (by omega) u0 u1;exact⟨l,h,chance_fisher (by omega) (by omega) (RatA_rv zx) (by omega) (by omega) y0 f,szR_mono z1,szR_mono z2,w,.inr ⟨y0,A⟩,.inr ⟨y0,B⟩⟩
theorem fam_student (hA:RatA (ratV sa na da) a 2) (hB:RatA (ratV sb nb db) b 2) (hc:chkD 5 (n:Int) km a b=0) (hn:1<=n/\n<=16) :
  Fam (p2 200) (distV 5 (n:Int) km sa na da sb nb db) (LoV n) (HiV n) (-64) 1 (-64) 64:=by
 refine fam_mk hA hB hc ⟨by omega,by omega⟩ rfl (st_fixed (lo := -64) (hi:=64)) (by omega) (by omega) ⟨lim_len_lt (by decide +kernel),lim_len_lt (by decide +kernel)⟩ xN (by decide +kernel) (by decide +kernel) ⟨0,by decide +kernel⟩ ⟨536870912,by decide +kernel⟩ ?_;rintro x-zx x0 x1 Q hQ
 have hf2:(1/2:Rat)+1/2=1:=by decide +kernel
 by_cases e:x=0
 ·subst e;have y1:stuY (n:Int) 0=1:=by
   unfold stuY;rw[zM,show (n:Rat)+0*0=(n:Rat) by grind];have N1:(1:Rat)<=(n:Rat):=by exact_mod_cast hn.1
   generalize (n:Rat)=N at *
   have:=xd (a:=N) (b:=N) (by grind);generalize N/N=q at *
   have e:(q-1)*N=0:=by grind
   rcases Rat.mul_eq_zero.1 e with g|g<;>grind
  have f:=incb_I_ends (a:=(n:Int)) (b:=1) (pI:=(Q:Int)) (RatA_rv one_len) (by omega) (by omega) (by omega) (by omega) (.inr rfl);rw[<- y1]at f;have s:=dist_student (n:=(n:Int)) (p:=(Q:Int)) (by omega) (RatA_rv zx) (by omega) (by omega) (by rw[y1]at f ⊢;exact f) (szR_mono one_len) (szR_mono one_len) xN;have eq:stuB 0 1 1=(1/2,1/2):=by
   unfold stuB;rw[if_neg (by decide),xc];generalize (1/2:Rat)=c at *
   rw[show 1-c=c by grind]
  rw[eq]at s;exact⟨1/2,1/2,chance_student (RatA_rv zx) s ⟨_,_,rfl⟩,szR_mono hfQ_len,szR_mono hfQ_len,none_wide,.inl ⟨rfl,rfl⟩,.inl ⟨rfl,rfl⟩⟩
 ·obtain⟨y0,y1,-⟩:=stu_y hn.1 e;obtain⟨l,h,f,z1,z2,le,w,⟨A,dl⟩,B,dh⟩:=incb_D (m:=1) (Q:=Q) (szR_mono (stuY_sz (n:=(n:Int)) (by omega) zx)) hn (by omega) (by omega) y0 y1;have s:=dist_student (n:=(n:Int)) (p:=(Q:Int)) (by omega) (RatA_rv zx) (by omega) (by omega) f z1 z2 le;have c:=chance_student (m:=km) (sa:=sa) (na:=na) (da:=da) (sb:=sb) (nb:=nb) (db:=db) (RatA_rv zx) s ⟨_,_,rfl⟩;have zl:=szR_mul z1 hfQ_len;have zh:=szR_mul z2 hfQ_len;have c0:(0:Rat)<=1/2:=by decide +kernel
  have W:=p2_pos Q;have w2:(h*(1/2)-l*(1/2))*p2 Q<=1:=by
   have w0:0<=(h-l)*p2 Q:=xF (by grind) (xG W);generalize (1/2:Rat)=t at *
   have:(h*t-l*t)*p2 Q=(h-l)*p2 Q*t:=by grind
   rw[this];generalize (h-l)*p2 Q=u at *
   have:=xA w c0;grind
  unfold stuB at c;by_cases g:x<0
  ·rw[if_pos g]at c;exact⟨_,_,c,szR_mono zl,szR_mono zh,w2,.inr (.inl ⟨g,l,A,dl,rfl⟩),.inr (.inl ⟨g,h,B,dh,rfl⟩)⟩
  ·rw[if_neg g]at c;refine⟨_,_,c,szR_mono (szR_sub one_len zh),szR_mono (szR_sub one_len zl),?_,.inr (.inr ⟨by grind,h,B,dh,rfl⟩),.inr (.inr ⟨by grind,l,A,dl,rfl⟩)⟩;generalize l*(1/2)=u at *
   generalize h*(1/2)=v at *
   rw[show 1-u-(1-v)=v-u by grind];exact w2
end
end Go.Proofs.YtfknkoeagjonbaaGreat
namespace Go.Proofs.YtfknkoeagjonbaaGreat
open Go.Ev
def wT:Nat->Rat->Rat
 |0,_=>1
 |1,t=>t*(1/SQ)*2
 |m+2,t=>wT m t*(t*t*2)*((1:Nat):Rat)/((m+2:Nat):Rat)
theorem wT_step (m:Nat) (t:Rat):((m+2:Nat):Rat)*wT (m+2) t=wT m t*(t*t*2):=by
 have c:((m+2:Nat):Rat)≠0:=Ex.nsucc_ne (m+1);show _*(wT m t*(t*t*2)*((1:Nat):Rat)/_)=_;rw[Ex.mul_div _ _ c,show ((1:Nat):Rat)=1 from rfl,yA]
theorem wT_tk (n:Nat) (t:Rat) : ∀j,wT (n+2*j) t=wT n t*tk (t*t*2) (n+2) j
 |0=>by show wT n t=wT n t*1;rw[yA]
 |j+1=>by
  have ih:=wT_tk n t j;have e:wT (n+2*(j+1)) t=wT (n+2*j) t*(t*t*2)*((1:Nat):Rat)/((n+2*j+2:Nat):Rat):=rfl;rw[e,ih,show n+2*j+2=n+2+2*j by omega];show _=wT n t*(tk (t*t*2) (n+2) j*(t*t*2)*((1:Nat):Rat)/((n+2+2*j:Nat):Rat))
  rw[xk,xk];grind
theorem wT_ig (n:Nat) (t:Rat):wT n t=igC n t*tk (t*t*2) (2+n%2) (n/2):=by
 rcases zO n with h|h
 ·have e:=wT_tk 0 t (n/2);rw[show 0+2*(n/2)=n by omega]at e;rw[e,h,show igC n t=1 from if_neg (by omega)];rfl
 ·have e:=wT_tk 1 t (n/2);rw[show 1+2*(n/2)=n by omega]at e;rw[e,h,show igC n t=t*(1/SQ)*2 from if_pos h];rfl
def wA (n:Nat) (t:Rat):Nat->Rat
 |0=>0
 |L+1=>wA n t L+wT (n+2*L) t
theorem wA_is (n:Nat) (t:Rat) : ∀L,wA n t L=wT n t*sk (t*t*2) (n+2) L
 |0=>by show (0:Rat)=_*0;rw[wC]
 |L+1=>by
  have ih:=wA_is n t L;show wA n t L+wT (n+2*L) t=wT n t*(sk (t*t*2) (n+2) L+tk (t*t*2) (n+2) L)
  rw[ih,wT_tk,Rat.mul_add]
theorem igV_sq (n:Nat) (t:Rat) (L:Nat):igV n t (t*t) L=wA n t L*evX (-(t*t)) L:=by
 unfold igV;rw[<- wT_ig,wA_is,xc]
theorem wT_one (m:Nat) (t:Rat) (h:0<=t) (h8:t<=8):0<=wT m t/\wT m t<=16*Ex.tm (t*t) (m/2):=by
 induction m using Nat.strongRecOn with
 |_ m ih=>
  match m with
  |0=>exact⟨by show (0:Rat)<=1;decide,by show (1:Rat)<=16*1;decide +kernel⟩
  |1=>
   have q:=SQ_one.1;have i1:SQ*(1/SQ)=1:=Ex.mul_div _ 1 (by grind);have i0:0<=1/SQ:=Ex.div_nn (by decide) (by grind);have i2:=xA q i0;rw[i1,xc]at i2;have a:=xF h i0;have b:=mul_le h8 i2 (by decide) i0;show 0<=t*(1/SQ)*2/\t*(1/SQ)*2<=16*1;constructor<;>grind
  |k+2=>
   obtain⟨i1,i2⟩:=ih k (by omega);have s:=wT_step k t;have c:(0:Rat)<((k+2:Nat):Rat):=Ex.nsucc_pos (k+1);have s2:=Ex.tm_succ (t*t) (k/2);have tt:=xF h h;have tn:=Ex.tm_nn tt (k/2+1);rw[show (k+2)/2=k/2+1 by omega];refine⟨le_by c ?_,le_by c ?_⟩
   ·rw[xw,ya,s];exact xF i1 (by grind)
   ·rw[ya (wT (k+2) t),s];have m1:=xA i2 (show 0<=t*t*2 by grind);have c2:((2*(k/2+1):Nat):Rat)<=((k+2:Nat):Rat):=Ex.castle (by omega);rw[Ex.castmul,show ((2:Nat):Rat)=2 from rfl]at c2;have m2:=xA c2 (show 0<=16*Ex.tm (t*t) (k/2+1) by grind);have e:16*Ex.tm (t*t) (k/2)*(t*t*2)=2*((k/2+1:Nat):Rat)*(16*Ex.tm (t*t) (k/2+1)):=by
     have:t*t*Ex.tm (t*t) (k/2)=((k/2+1:Nat):Rat)*Ex.tm (t*t) (k/2+1):=s2.symm;grind
    rw[e]at m1;grind
theorem wA_le (n:Nat) (t:Rat) (h:0<=t) (h8:t<=8) : ∀L,0<=wA n t L/\wA n t L<=16*(Ex.E (t*t) (n/2+L)-Ex.E (t*t) (n/2))
 |0=>by show (0:Rat)<=0/\0<=16*(Ex.E (t*t) (n/2)-Ex.E (t*t) (n/2));rw[zg,wC];exact⟨xN,xN⟩
 |L+1=>by
  obtain⟨i1,i2⟩:=wA_le n t h h8 L;obtain⟨a,b⟩:=wT_one (n+2*L) t h h8;rw[show (n+2*L)/2=n/2+L by omega]at b;show 0<=wA n t L+wT (n+2*L) t/\wA n t L+wT (n+2*L) t<=16*(Ex.E (t*t) (n/2+L)+Ex.tm (t*t) (n/2+L)-Ex.E (t*t) (n/2))
  constructor<;>grind
def wD:Nat->Rat->Rat
 |0,_=>0
 |1,_=>8*((1/SQ)*2)
 |m+2,u=>128*u*wT m (8*u)
theorem dif_wT : ∀m,Dif (fun u=>wT m (8*u)) (wD m):=by
 intro m;induction m using Nat.strongRecOn with
 |_ m ih=>
  match m with
  |0=>exact dif_const 1
  |1=>exact dif_congr (dif_mul (dif_const (8*((1/SQ)*2))) dif_id) (fun u=>by show 8*((1/SQ)*2)*u=8*u*(1/SQ)*2;grind) (fun u=>by show 8*((1/SQ)*2)*1+0*u=8*((1/SQ)*2);grind)
  |k+2=>
   have ihk:=ih k (by omega);obtain⟨c,hc⟩ : ∃c:Rat,((k+2:Nat):Rat)*c=1:=⟨1/((k+2:Nat):Rat),Ex.mul_div _ 1 (Ex.nsucc_ne (k+1))⟩
   have st:=fun u:Rat=>wT_step k (8*u)
   refine dif_congr (dif_mul ihk (dif_sq (128*c))) (fun u => ?_) (fun u => ?_)
   ·show wT k (8*u)*(128*c*(u*u))=wT (k+2) (8*u);have h:=st u;have e:wT k (8*u)*(128*c*(u*u))=wT k (8*u)*(8*u*(8*u)*2)*c:=by grind
    rw[e,<- h];have e2:((k+2:Nat):Rat)*wT (k+2) (8*u)*c=((k+2:Nat):Rat)*c*wT (k+2) (8*u):=by grind
    rw[e2,hc,xc]
   ·show wT k (8*u)*(128*c*(u+u))+wD k u*(128*c*(u*u))=128*u*wT k (8*u);match k with
    |0=>
     have e1:wD 0 u=0:=rfl;have e2:wT 0 (8*u)=1:=rfl;have e3:((0+2:Nat):Rat)=2:=rfl;rw[e3]at hc;rw[e1,e2];have:1*(128*c*(u+u))+0*(128*c*(u*u))=128*u*(2*c):=by grind
     rw[this,hc]
    |1=>
     have e1:wD 1 u=8*((1/SQ)*2):=rfl;have e2:wT 1 (8*u)=8*u*(1/SQ)*2:=rfl;have e3:((1+2:Nat):Rat)=3:=rfl;rw[e3]at hc;rw[e1,e2];generalize 1/SQ=q;have:8*u*q*2*(128*c*(u+u))+8*(q*2)*(128*c*(u*u))=2048*(u*u)*q*(3*c):=by grind
     rw[this,hc];grind
    |j+2=>
     have e1:wD (j+2) u=128*u*wT j (8*u):=rfl;have h:=wT_step j (8*u);have e5:((j+2+2:Nat):Rat)=((j+2:Nat):Rat)+2:=by rw[Ex.castadd (j+2) 2];rfl
     rw[e5]at hc;rw[e1];generalize wT (j+2) (8*u)=X at *
     generalize wT j (8*u)=Y at *
     generalize ((j+2:Nat):Rat)=z at *
     have a:X*(128*c*(u+u))+128*u*Y*(128*c*(u*u))=128*u*c*(2*X+Y*(8*u*(8*u)*2)):=by grind
     rw[a,<- h];have b:128*u*c*(2*X+z*X)=128*u*X*((z+2)*c):=by grind
     rw[b,hc,yA]
theorem dif_wA (n:Nat) (hn:1<=n) : ∀L,Dif (fun u=>wA n (8*u) (L+1)) (fun u=>wD n u+128*u*wA n (8*u) L)
 |0=>dif_congr (dif_wT n) (fun u=>by show wT n (8*u)=0+wT n (8*u);grind) (fun u=>by show wD n u=wD n u+128*u*0;grind)
 |L+1=>dif_congr (dif_add (dif_wA n hn L) (dif_wT (n+2*(L+1)))) (fun u=>rfl) (fun u=>by
  show wD n u+128*u*wA n (8*u) L+wD (n+2*(L+1)) u=wD n u+128*u*(wA n (8*u) L+wT (n+2*L) (8*u))
  have:wD (n+2*(L+1)) u=128*u*wT (n+2*L) (8*u):=rfl;rw[this];grind)
def gM (j:Nat) (u:Rat):Rat:=Ex.tm (-64*(u*u)) j
def gMs:Nat->Rat->Rat
 |0,_=>0
 |j+1,u => -128*u*gM j u
theorem dif_gM : ∀j,Dif (gM j) (gMs j)
 |0=>dif_const 1
 |j+1=>by
  have ih:=dif_gM j;obtain⟨c,hc⟩ : ∃c:Rat,((j+1:Nat):Rat)*c=1:=⟨1/((j+1:Nat):Rat),Ex.mul_div _ 1 (Ex.nsucc_ne j)⟩
  have st:=fun (i:Nat) (u:Rat)=>show ((i+1:Nat):Rat)*gM (i+1) u = -64*(u*u)*gM i u from Ex.tm_succ _ i
  refine dif_congr (dif_mul ih (dif_sq (-64*c))) (fun u => ?_) (fun u => ?_)
  ·show gM j u*(-64*c*(u*u))=gM (j+1) u;have h:=st j u;have e:gM j u*(-64*c*(u*u)) = -64*(u*u)*gM j u*c:=by grind
   rw[e,<- h];have e2:((j+1:Nat):Rat)*gM (j+1) u*c=((j+1:Nat):Rat)*c*gM (j+1) u:=by grind
   rw[e2,hc,xc]
  ·show gM j u*(-64*c*(u+u))+gMs j u*(-64*c*(u*u)) = -128*u*gM j u;cases j with
   |zero=>
    have e1:gMs 0 u=0:=rfl;have e3:((0+1:Nat):Rat)=1:=rfl;rw[e3,xc]at hc;rw[e1,hc];grind
   |succ j=>
    have h:=st j u;have e1:gMs (j+1) u = -128*u*gM j u:=rfl;have e5:((j+1+1:Nat):Rat)=((j+1:Nat):Rat)+1:=by rw[Ex.castadd (j+1) 1];rfl
    rw[e5]at hc;rw[e1];have a:gM (j+1) u*(-64*c*(u+u)) + -128*u*gM j u*(-64*c*(u*u)) = -128*u*c*(gM (j+1) u + -64*(u*u)*gM j u):=by grind
    rw[a,<- h];have b : -128*u*c*(gM (j+1) u+((j+1:Nat):Rat)*gM (j+1) u) = -128*u*gM (j+1) u*((((j+1:Nat):Rat)+1)*c):=by grind
    rw[b,hc,yA]
theorem dif_gE : ∀L,Dif (fun u=>Ex.E (-64*(u*u)) (L+1)) (fun u => -128*u*Ex.E (-64*(u*u)) L)
 |0=>dif_congr (dif_gM 0) (fun u=>by show gM 0 u=0+Ex.tm _ 0;rw[Rat.zero_add];rfl) (fun u=>by show (0:Rat) = -128*u*0;grind)
 |L+1=>dif_congr (dif_add (dif_gE L) (dif_gM (L+1))) (fun u=>rfl) (fun u=>by
  show -128*u*Ex.E (-64*(u*u)) L + -128*u*Ex.tm (-64*(u*u)) L = -128*u*(Ex.E (-64*(u*u)) L+Ex.tm (-64*(u*u)) L);grind)
end Go.Proofs.YtfknkoeagjonbaaGreat
namespace Go.Proofs.YtfknkoeagjonbaaGreat
open Go.Ev
theorem evX_inv {q:Rat} {L:Nat} (h:0<=q) (hL:1<=L:=by omega):evX (-q) L=1/Ex.E q L:=by
 unfold evX;by_cases g : -q<0
 ·rw[if_pos g,Rat.neg_neg]
 ·have q0:q=0:=by grind
  subst q0;rw[if_neg g];obtain⟨k,rfl⟩ : ∃k,L=k+1:=⟨L-1,by omega⟩
  rw[Rat.neg_zero,Ex.E_zero];decide +kernel
theorem inv_bds {y:Rat} {L:Nat} (y0:0<=y) (y64:y<=64) (hL:1<=L):1/Ex.t2 102<=1/Ex.E y L/\1/Ex.E y L<=1:=by
 have one:=E_one y0 hL;have big:=E_big y0 y64 L;have K:=Ex.t2_pos 102;have i1:Ex.E y L*(1/Ex.E y L)=1:=Ex.mul_div _ 1 (by grind);have i2:Ex.t2 102*(1/Ex.t2 102)=1:=Ex.mul_div _ 1 (by grind);have p1:0<=1/Ex.E y L:=Ex.div_nn (by decide) (by grind);have p2:0<=1/Ex.t2 102:=Ex.div_nn (by decide) K;have r1:=xA one p1;have r2:=xA big (xF p1 p2);have k1:Ex.E y L*(1/Ex.E y L*(1/Ex.t2 102))=1/Ex.t2 102:=by rw[<- zG,i1,xc]
 have k2:Ex.t2 102*(1/Ex.E y L*(1/Ex.t2 102))=1/Ex.E y L:=by
  have:Ex.t2 102*(1/Ex.E y L*(1/Ex.t2 102))=1/Ex.E y L*(Ex.t2 102*(1/Ex.t2 102)):=by grind
  rw[this,i2,yA]
 rw[k1,k2]at r2;rw[i1,xc]at r1;exact⟨r2,r1⟩
theorem fall_near {u e:Rat} {L n:Nat} (h0:0<=u) (h1:u<=1) (hL:1<=L) (hm : ∀m,L<=m->2*Ex.tm 128 m<=e) (hL2:(128:Rat)+128<=((L+1:Nat):Rat)) :
  Ex.Bdd (Ex.E (-64*(u*u)) L-1/Ex.E (64*(u*u)) L) e/\Ex.Bdd (gM L u) e/\0<=wT (n+2*L) (8*u)/\wT (n+2*L) (8*u)<=8*e/\0<=wA n (8*u) L/\wA n (8*u) L<=16*Ex.t2 102/\1/Ex.t2 102<=1/Ex.E (64*(u*u)) L/\1/Ex.E (64*(u*u)) L<=1:=by
 obtain⟨q0,q1⟩:=sq_unit h0 h1;have y0:0<=64*(u*u):=by grind
 have y64:64*(u*u)<=64:=by grind
 have n64 : -(64*(u*u)) = -64*(u*u):=by grind
 have tt:8*u*(8*u)=64*(u*u):=by grind
 have a:=E_inv y0 hL (show (64*(u*u)+64*(u*u))+(64*(u*u)+64*(u*u))<=_ from xE (by grind) hL2);have m128:=Ex.tm_mono (x:=64*(u*u)+64*(u*u)) (y:=128) (by grind) (by grind) L;have m64:=Ex.tm_mono (x:=64*(u*u)) (y:=128) (by grind) (by grind) L;have m64':=Ex.tm_mono (x:=64*(u*u)) (y:=128) (by grind) (by grind) (n/2+L);have hm1:=hm L (xQ _);have hm2:=hm (n/2+L) (by omega);have t0:=Ex.tm_nn (x:=128) (by decide) L;have b:=tm_negB y0 L;rw[n64]at a b;obtain⟨w1,w2⟩:=wT_one (n+2*L) (8*u) (by grind) (by grind);obtain⟨x1,x2⟩:=wA_le n (8*u) (by grind) (by grind) L;rw[show (n+2*L)/2=n/2+L by omega,tt]at w2
 rw[tt]at x2;have big:=E_big y0 y64 (n/2+L);have nn:=Ex.E_nn y0 (n/2);obtain⟨i1,i2⟩:=inv_bds y0 y64 hL;exact⟨Ex.Bdd_mono a (by grind),Ex.Bdd_mono b (by grind),w1,by grind,x1,by grind,i1,i2⟩
theorem fall_rest {u e K A M T B A' T':Rat} (h0:0<=u) (h1:u<=1) (K1:1<=K) (he:0<=e) (hA0:0<=A) (hA:A<=16*K) (hM:Ex.Bdd M e) (hT0:0<=T) (hT:T<=8*e) (hB:Ex.Bdd B 2) (hA0':0<=A') (hA':A'<=16*K) (hT0':0<=T') (hT':T'<=8*e) :
  Ex.Bdd (128*u*((A*M-T*B)-(A'*M-T'*B))) (8192*(K*e)):=by
 have eK:e<=K*e:=by
  have:=xA K1 he;rw[xc]at this;exact this
 have b1:=Ex.Bdd_mul (show Ex.Bdd A (16*K) from⟨by grind,hA⟩) hM;have b2:=Ex.Bdd_mul (show Ex.Bdd T (8*e) from⟨by grind,hT⟩) hB;have c1:=Ex.Bdd_mul (show Ex.Bdd A' (16*K) from⟨by grind,hA'⟩) hM;have c2:=Ex.Bdd_mul (show Ex.Bdd T' (8*e) from⟨by grind,hT'⟩) hB;have b3:=Ex.Bdd_mul (show Ex.Bdd (128*u) 128 from⟨by grind,by grind⟩) (Ex.Bdd_sub (Ex.Bdd_sub b1 b2) (Ex.Bdd_sub c1 c2));refine Ex.Bdd_mono b3 ?_;have g:16*K*e=16*(K*e):=by grind
 rw[g];generalize K*e=Z at *
 grind
end Go.Proofs.YtfknkoeagjonbaaGreat
namespace Go.Proofs.YtfknkoeagjonbaaGreat
open Go.Ev
theorem wD_nn : ∀ (n:Nat) {v:Rat},0<=v->v<=1->0<=wD n v
 |0,_,_,_=>by show (0:Rat)<=0;decide
 |1,_,_,_=>by
  have i0:0<=1/SQ:=Ex.div_nn (by decide) (by have:=SQ_one.1;grind);show 0<=8*(1/SQ*2)
  grind
 |m+2,v,h0,h1=>by
  have w:=(wT_one m (8*v) (by grind) (by grind)).1;exact xF (by grind) w
theorem rise_split (d1 A T B M u:Rat):(A+T)*(-128*u*B)+(d1+128*u*A)*(B+M)=d1*(B+M)+128*u*(A*M-T*B):=by grind
set_option maxHeartbeats 1000000 in
theorem igV_rises {n:Nat} (hn:1<=n) {e:Rat} (he:0<e) :
  ∃N:Nat,∀L,N<=L -> ∀s t:Rat,0<=s->s<=t->t<=8->igV n s (s*s) L<=igV n t (t*t) L+e:=by
 obtain⟨K,hK⟩ : ∃K:Rat,K=Ex.t2 102:=⟨_,rfl⟩
 have K1:1<=K:=by rw[hK];exact Ex.castle (show 1<=2^102 by decide +kernel)
 have Kp:0<K:=by grind
 obtain⟨d,hd0,hd1,hd2⟩ : ∃d:Rat,0<d/\K*d<=1/\10000*(K*d)<=e:=by
  have E0:0<10000*K/e:=by rw[xk];exact xt (by grind) (zU.2 he)
  have ee:10000*K/e*e=10000*K:=xd (by grind);obtain⟨D,hD⟩ : ∃D,D=K+10000*K/e:=⟨_,rfl⟩
  have Dp:0<D:=by rw[hD];grind
  have i:D*(1/D)=1:=Ex.mul_div _ 1 (by grind);have ip:0<1/D:=by rw[xk,xc];exact zU.2 Dp
  refine⟨1/D,ip,?_,?_⟩
  ·have:=xA (show K<=D by rw[hD];grind) (xG ip);rw[i]at this;exact this
  ·have m:=xA (show 10000*K/e<=D by rw[hD];grind) (xG ip);rw[i]at m;have m2:=xA m (xG he);have q:10000*K/e*(1/D)*e=10000*(K*(1/D)):=by
    have:10000*K/e*(1/D)*e=10000*K/e*e*(1/D):=by grind
    rw[this,ee];grind
   rw[q,xc]at m2;exact m2
 obtain⟨N,hN⟩:=Ex.tm_small (y:=128) (by decide) hd0;have d1:d<=1:=by
  have:=xA K1 (xG hd0);grind
 refine⟨N+2,fun L hL s t s0 st t8 => ?_⟩;obtain⟨r,hr⟩ : ∃r:Rat,s=8*r:=⟨s/8,by rw[Ex.mul_div _ _ (by decide)]⟩
 obtain⟨u,hu⟩ : ∃u:Rat,t=8*u:=⟨t/8,by rw[Ex.mul_div _ _ (by decide)]⟩
 have r0:0<=r:=by grind
 have ru:r<=u:=by grind
 have u1:u<=1:=by grind
 obtain⟨k,rfl⟩ : ∃k,L=k+1:=⟨L-1,by omega⟩
 have near:=fun (m n:Nat) (hm:N+1<=m) (v:Rat) (v0:0<=v) (v1:v<=1)=>fall_near (u:=v) (e:=d) (L:=m) (n:=n) v0 v1 (by omega) (fun j hj=>(hN j (by omega)).2) (hN m (by omega)).1
 obtain⟨F,hF⟩ : ∃F:Nat->Rat->Rat,F=fun n v=>wA n (8*v) (k+1)*Ex.E (-64*(v*v)) (k+1):=⟨_,rfl⟩
 obtain⟨S,hS⟩ : ∃S:Nat->Rat->Rat,S=fun n v=>wA n (8*v) (k+1)*(-128*v*Ex.E (-64*(v*v)) k)+(wD n v+128*v*wA n (8*v) k)*Ex.E (-64*(v*v)) (k+1):=⟨_,rfl⟩
 have dF : ∀n,1<=n->Dif (F n) (S n):=fun n hn=>by rw[hF,hS];exact dif_mul (dif_wA n hn k) (dif_gE k)
 have sl : ∀v,0<=v->v<=1 -> -(8192*(K*d))<=S n v:=by
  intro v v0 v1;obtain⟨n1,n2,n3,n4,n5,n6,n7,n8⟩:=near k n (by omega) v v0 v1;obtain⟨g1,-,-,-,-,-,g7,-⟩:=near (k+1) n (by omega) v v0 v1;rw[<- hK]at n6 n7 g7;have iK:K*(1/K)=1:=Ex.mul_div _ 1 (by grind);have pK:d<=1/K:=by
   refine le_by Kp ?_;rw[ya (1/K),iK,ya];exact hd1
  have hB:Ex.Bdd (Ex.E (-64*(v*v)) k) 2:=by
   obtain⟨a,b⟩:=n1;have p:0<=1/Ex.E (64*(v*v)) k:=xE (Ex.div_nn (by decide) Kp) n7;constructor<;>grind
  have r:=fall_rest (u:=v) (e:=d) (K:=K) (A:=wA n (8*v) k) (M:=gM k v) (T:=wT (n+2*k) (8*v)) (B:=Ex.E (-64*(v*v)) k) (A':=0) (T':=0) v0 v1 K1 (xG hd0) n5 n6 n2 n3 n4 hB xN (by grind) xN (by grind);have b0:0<=Ex.E (-64*(v*v)) (k+1):=by
   obtain⟨a,b⟩:=g1;grind
  have p:=xF (wD_nn n v0 v1) b0;have q:=rise_split (wD n v) (wA n (8*v) k) (wT (n+2*k) (8*v)) (Ex.E (-64*(v*v)) k) (gM k v) v;have q2:S n v=wD n v*Ex.E (-64*(v*v)) (k+1)+128*v*(wA n (8*v) k*gM k v-wT (n+2*k) (8*v)*Ex.E (-64*(v*v)) k):=by rw[hS];exact q
  obtain⟨x4,x5⟩:=r;rw[q2];grind
 have val : ∀ (n:Nat) (v:Rat),0<=v->v<=1->Ex.Bdd (igV n (8*v) (8*v*(8*v)) (k+1)-F n v) (16*(K*d)):=by
  intro n v v0 v1;obtain⟨g1,g2,g3,g4,g5,g6,g7,g8⟩:=near (k+1) n (by omega) v v0 v1;obtain⟨q0,-⟩:=sq_unit v0 v1;rw[igV_sq,show 8*v*(8*v)=64*(v*v) by grind,evX_inv (by grind),hF];have b:=Ex.Bdd_mul (show Ex.Bdd (wA n (8*v) (k+1)) (16*K) from⟨by grind,by rw[hK];exact g6⟩) g1;obtain⟨b1,b2⟩:=b;show Ex.Bdd (wA n (8*v) (k+1)*(1/Ex.E (64*(v*v)) (k+1))-wA n (8*v) (k+1)*Ex.E (-64*(v*v)) (k+1)) (16*(K*d));constructor<;>grind
 obtain⟨H,hH⟩ : ∃H:Rat,H=8192*(K*d):=⟨_,rfl⟩
 have Kd0:0<=K*d:=xF (xG Kp) (xG hd0);have H0:0<=H:=by rw[hH];grind
 have f:=dif_mono (dif_add (dF n hn) (dif_mul (dif_const H) dif_id)) (x:=r) (y:=u) r0 ru u1 (fun v v0 vu=>by
  have:=sl v (by grind) (by grind);rw[<- hH]at this;show 0<=S n v+(H*1+0*v)
  grind)
 have f':F n r+H*r<=F n u+H*u:=f;have h1:=xF H0 r0;have h2:=xB u1 H0;obtain⟨v1,v2⟩:=val n r r0 (by grind);obtain⟨w1,w2⟩:=val n u (by grind) u1;rw[hr,hu];generalize igV n (8*r) (8*r*(8*r)) (k+1)=G1 at *
 generalize igV n (8*u) (8*u*(8*u)) (k+1)=G2 at *
 grind
end Go.Proofs.YtfknkoeagjonbaaGreat
namespace Go.Proofs.YtfknkoeagjonbaaGreat
open Go.Ev
theorem tk_join (y:Rat) (k0 m:Nat) : ∀j,tk y k0 m*tk y (k0+2*m) j=tk y k0 (m+j)
 |0=>by show tk y k0 m*1=_;rw[yA];rfl
 |j+1=>by
  have ih:=tk_join y k0 m j;show tk y k0 m*(tk y (k0+2*m) j*y*((1:Nat):Rat)/((k0+2*m+2*j:Nat):Rat))=tk y k0 (m+j)*y*((1:Nat):Rat)/((k0+2*(m+j):Nat):Rat)
  rw[<- ih,show k0+2*m+2*j=k0+2*(m+j) by omega,xk,xk];grind
theorem sk_join (y:Rat) (k0 m:Nat) : ∀L,tk y k0 m*sk y (k0+2*m) L=sk y k0 (m+L)-sk y k0 m
 |0=>by show tk y k0 m*0=sk y k0 m-sk y k0 m;rw[wC,zg]
 |L+1=>by
  have ih:=sk_join y k0 m L;have j:=tk_join y k0 m L;show tk y k0 m*(sk y (k0+2*m) L+tk y (k0+2*m) L)=sk y k0 (m+L)+tk y k0 (m+L)-sk y k0 m;rw[Rat.mul_add,ih,j];grind
theorem tk_tm (x:Rat) : ∀j,tk (x*2) 2 j=Ex.tm x j
 |0=>rfl
 |j+1=>by
  have ih:=tk_tm x j;have s:=tk_step (y:=x*2) (k0:=2) (by omega) j;have s2:=Ex.tm_succ x j;rw[ih]at s;have c:((j+1:Nat):Rat)≠0:=Ex.nsucc_ne j;have e:((2+2*j:Nat):Rat)=2*((j+1:Nat):Rat):=by rw[show 2+2*j=2*(j+1) by omega,Ex.castmul];rfl
  rw[e]at s;refine Ex.cancel_l c ?_;rw[s2];grind
theorem sk_E (x:Rat) : ∀L,sk (x*2) 2 L=Ex.E x L
 |0=>rfl
 |L+1=>by show sk (x*2) 2 L+tk (x*2) 2 L=Ex.E x L+Ex.tm x L;rw[sk_E x L,tk_tm]
theorem igV_even {n:Nat} (h:n%2=0) {s x:Rat} (hx:0<=x) {L:Nat} (hL:1<=L:=by omega):igV n s x L=(Ex.E x (n/2+L)-Ex.E x (n/2))*(1/Ex.E x L):=by
 unfold igV;rw[show igC n s=1 from if_neg (by omega),h,xc,xc,evX_inv hx hL];have j:=sk_join (x*2) 2 (n/2) L;rw[sk_E,sk_E,show 2+2*(n/2)=n+2 by omega]at j;rw[<- j]
theorem tm_ratio {x y:Rat} (hx:0<=x) (hxy:x<=y) (m:Nat) : ∀j,Ex.tm y m*Ex.tm x (m+j)<=Ex.tm x m*Ex.tm y (m+j)
 |0=>by rw[yE,ya];exact xN
 |j+1=>by
  have ih:=tm_ratio hx hxy m j;have c:(0:Rat)<((m+j+1:Nat):Rat):=Ex.nsucc_pos (m+j);have s1:=Ex.tm_succ x (m+j);have s2:=Ex.tm_succ y (m+j);refine le_by c ?_;show Ex.tm y m*Ex.tm x (m+j+1)*_<=Ex.tm x m*Ex.tm y (m+j+1)*_;have e1:Ex.tm y m*Ex.tm x (m+j+1)*((m+j+1:Nat):Rat)=x*(Ex.tm y m*Ex.tm x (m+j)):=by
   have:Ex.tm y m*Ex.tm x (m+j+1)*((m+j+1:Nat):Rat)=Ex.tm y m*(((m+j+1:Nat):Rat)*Ex.tm x (m+j+1)):=by grind
   rw[this,s1];grind
  have e2:Ex.tm x m*Ex.tm y (m+j+1)*((m+j+1:Nat):Rat)=y*(Ex.tm x m*Ex.tm y (m+j)):=by
   have:Ex.tm x m*Ex.tm y (m+j+1)*((m+j+1:Nat):Rat)=Ex.tm x m*(((m+j+1:Nat):Rat)*Ex.tm y (m+j+1)):=by grind
   rw[this,s2];grind
  rw[e1,e2];have y0:0<=y:=xE hx hxy;exact mul_le hxy ih y0 (xF (Ex.tm_nn y0 _) (Ex.tm_nn hx _))
theorem E_tm_ratio {x y:Rat} (hx:0<=x) (hxy:x<=y) (L:Nat) : ∀m,m<=L->Ex.E y m*Ex.tm x L<=Ex.E x m*Ex.tm y L
 |0,_=>by show (0:Rat)*_<=0*_;rw[xw,xw];exact xN
 |m+1,h=>by
  have ih:=E_tm_ratio hx hxy L m (by omega);have r:=tm_ratio hx hxy m (L-m);rw[show m+(L-m)=L by omega]at r;show (Ex.E y m+Ex.tm y m)*_<=(Ex.E x m+Ex.tm x m)*_;rw[wj,wj];grind
theorem E_ratio {x y:Rat} (hx:0<=x) (hxy:x<=y) (m:Nat) : ∀j,Ex.E y m*Ex.E x (m+j)<=Ex.E x m*Ex.E y (m+j)
 |0=>by rw[yE,ya];exact xN
 |j+1=>by
  have ih:=E_ratio hx hxy m j;have r:=E_tm_ratio hx hxy (m+j) m (by omega);show Ex.E y m*(Ex.E x (m+j)+Ex.tm x (m+j))<=Ex.E x m*(Ex.E y (m+j)+Ex.tm y (m+j))
  rw[Rat.mul_add,Rat.mul_add];grind
theorem even_rises {n:Nat} (h:n%2=0) {e:Rat} (he:0<e) : ∃N,∀L,N<=L -> ∀x y s s':Rat,0<=x->x<=y->y<=64->igV n s x L<=igV n s' y L+e:=by
 obtain⟨N,hN⟩:=Ex.tm_small (y:=64) (by decide) he;refine⟨N+n+1,fun L hL x y s s' hx hxy hy => ?_⟩;obtain⟨n1,n2⟩:=hN L (by omega);have y0:0<=y:=xE hx hxy;rw[igV_even h hx,igV_even h y0];have ox:=E_one hx (show 1<=L by omega);have oy:=E_one y0 (show 1<=L by omega);have i1:Ex.E x L*(1/Ex.E x L)=1:=Ex.mul_div _ 1 (by grind);have i2:Ex.E y L*(1/Ex.E y L)=1:=Ex.mul_div _ 1 (by grind);have p1:0<=1/Ex.E x L:=Ex.div_nn (by decide) (by grind);have p2:0<=1/Ex.E y L:=Ex.div_nn (by decide) (by grind);have q1:1/Ex.E x L<=1:=by
  have:=xA ox p1;rw[i1,xc]at this;exact this
 have tail:=Ex.E_tail_le (L:=n/2+L) hx (N:=L) (xE (by grind) n1);have tx:=Ex.tm_mono hx (show x<=64 by grind) L;have up:=Ex.E_mono y0 (show L<=n/2+L by omega);have r:=E_ratio hx hxy (n/2) (L-n/2);rw[show n/2+(L-n/2)=L by omega]at r;generalize 1/Ex.E x L=ix at *
 generalize 1/Ex.E y L=iy at *
 have k:=xA r (xF p1 p2);have k1:Ex.E y (n/2)*Ex.E x L*(ix*iy)=Ex.E y (n/2)*iy:=by
  have:Ex.E y (n/2)*Ex.E x L*(ix*iy)=Ex.E y (n/2)*iy*(Ex.E x L*ix):=by grind
  rw[this,i1,yA]
 have k2:Ex.E x (n/2)*Ex.E y L*(ix*iy)=Ex.E x (n/2)*ix:=by
  have:Ex.E x (n/2)*Ex.E y L*(ix*iy)=Ex.E x (n/2)*ix*(Ex.E y L*iy):=by grind
  rw[this,i2,yA]
 rw[k1,k2]at k;have t0:=Ex.tm_nn hx L;have a1:=xA (show Ex.E x (n/2+L)-Ex.E x L<=e by grind) p1;have a2:=xB q1 (xG he);have a3:=xA up p2;rw[wm,wm,wj,wj];have b1:(Ex.E x (n/2+L)-Ex.E x L)*ix=Ex.E x (n/2+L)*ix-Ex.E x L*ix:=by grind
 have b2 : -Ex.E x (n/2)*ix = -(Ex.E x (n/2)*ix):=by grind
 have b3 : -Ex.E y (n/2)*iy = -(Ex.E y (n/2)*iy):=by grind
 rw[b1,i1]at a1;rw[i2]at a3;rw[b2,b3];clear r up tail b1 b2 b3 k1 k2;grind
theorem tk2_le {y:Rat} (h:0<=y) : ∀j,tk (y*2) 3 j<=Ex.tm y j
 |0=>xN
 |j+1=>by
  have ih:=tk2_le h j;have s1:=tk_step (y:=y*2) (k0:=3) (by omega) j;have s2:=Ex.tm_succ y j;have n1:=tk_nn (k0:=3) (by omega) (show 0<=y*2 by grind) (j+1);have c:((2*(j+1):Nat):Rat)<=((3+2*j:Nat):Rat):=Ex.castle (by omega);rw[Ex.castmul,show ((2:Nat):Rat)=2 from rfl]at c;have p:(0:Rat)<((j+1:Nat):Rat):=Ex.nsucc_pos j;refine le_by p ?_;have m:=xA c n1;have m2:=xA ih h;generalize ((j+1:Nat):Rat)=z at *
  generalize ((3+2*j:Nat):Rat)=w at *
  grind
theorem sk2_le {y:Rat} (h:0<=y) : ∀L,sk (y*2) 3 L<=Ex.E y L
 |0=>xN
 |L+1=>by
  have ih:=sk2_le h L;have:=tk2_le h L;show sk (y*2) 3 L+tk (y*2) 3 L<=Ex.E y L+Ex.tm y L;grind
theorem tk_mono3 {a b:Rat} (ha:0<=a) (hab:a<=b) : ∀j,tk a 3 j<=tk b 3 j
 |0=>xN
 |j+1=>by
  have ih:=tk_mono3 ha hab j;have b0:0<=b:=xE ha hab;have c:(0:Rat)<((3+2*j:Nat):Rat):=Ex.castlt (a:=0) (by omega);have s1:=tk_step (y:=a) (k0:=3) (by omega) j;have s2:=tk_step (y:=b) (k0:=3) (by omega) j;refine le_by c ?_;rw[ya (tk a 3 (j+1)),s1,ya (tk b 3 (j+1)),s2];exact mul_le ih hab (tk_nn (by omega) b0 j) ha
theorem tk_lip {a b:Rat} (ha:0<=a) (hab:a<=b) : ∀j,tk b 3 (j+1)-tk a 3 (j+1)<=(b-a)*tk b 3 j
 |0=>by
  have s1:=tk_step (y:=a) (k0:=3) (by omega) 0;have s2:=tk_step (y:=b) (k0:=3) (by omega) 0;have e:((3+2*0:Nat):Rat)=3:=rfl;have o : ∀y,tk y 3 0=1:=fun y=>rfl
  rw[e,o]at s1 s2;rw[o];grind
 |j+1=>by
  have ih:=tk_lip ha hab j;have b0:0<=b:=xE ha hab;have c:(0:Rat)<((3+2*(j+1):Nat):Rat):=Ex.castlt (a:=0) (by omega);have s1:=tk_step (y:=a) (k0:=3) (by omega) (j+1);have s2:=tk_step (y:=b) (k0:=3) (by omega) (j+1);have s3:=tk_step (y:=b) (k0:=3) (by omega) j;have m:=tk_mono3 ha hab (j+1);have nb:=tk_nn (k0:=3) (by omega) b0 (j+1);have e:((3+2*(j+1):Nat):Rat)=((3+2*j:Nat):Rat)+2:=by rw[show 3+2*(j+1)=3+2*j+2 by omega,Ex.castadd (3+2*j) 2];rfl
  refine le_by c ?_;have m1:=xA ih b0;have m2:=xA m (show 0<=b-a by grind);have l:(tk b 3 (j+1+1)-tk a 3 (j+1+1))*((3+2*(j+1):Nat):Rat)=tk b 3 (j+1)*b-tk a 3 (j+1)*a:=by rw[<- s1,<- s2];grind
  rw[l,e];have z:(b-a)*tk b 3 j*b=(b-a)*(((3+2*j:Nat):Rat)*tk b 3 (j+1)):=by rw[s3];grind
  rw[z]at m1;have p:=xF (show 0<=b-a by grind) nb;generalize ((3+2*j:Nat):Rat)=w at *
  clear s1 s2 s3 l z c;grind
theorem sk_lip {a b:Rat} (ha:0<=a) (hab:a<=b) : ∀M,sk b 3 (M+1)-sk a 3 (M+1)<=(b-a)*sk b 3 M
 |0=>by show 0+1-(0+1)<=(b-a)*0;rw[wC];decide +kernel
 |M+1=>by
  have ih:=sk_lip ha hab M;have l:=tk_lip ha hab M;show sk b 3 (M+1)+tk b 3 (M+1)-(sk a 3 (M+1)+tk a 3 (M+1))<=(b-a)*(sk b 3 M+tk b 3 M)
  grind
theorem sk_mono3 {a b:Rat} (ha:0<=a) (hab:a<=b) : ∀j,sk a 3 j<=sk b 3 j
 |0=>xN
 |j+1=>by
  have:=sk_mono3 ha hab j;have:=tk_mono3 ha hab j;show sk a 3 j+tk a 3 j<=sk b 3 j+tk b 3 j;grind
theorem E_monoX {x y:Rat} (hx:0<=x) (hxy:x<=y) : ∀L,Ex.E x L<=Ex.E y L
 |0=>xN
 |L+1=>by
  have:=E_monoX hx hxy L;have:=Ex.tm_mono hx hxy L;show Ex.E x L+Ex.tm x L<=Ex.E y L+Ex.tm y L;grind
theorem odd_lip {n:Nat} (h:n%2=1) {x y s:Rat} {L:Nat} (hx:0<=x) (hxy:x<=y) (hy:y<=64) (s0:0<=s) (s8:s<=8) (hL:1<=L:=by omega):igV n s y L<=igV n s x L+32*Ex.t2 102*(y-x):=by
 have y0:0<=y:=xE hx hxy;have st : ∀z:Rat,0<=z->igV n s z L=s*(1/SQ)*2*(sk (z*2) 3 (n/2+L)-sk (z*2) 3 (n/2))*(1/Ex.E z L):=by
  intro z z0;unfold igV;rw[show igC n s=s*(1/SQ)*2 from if_pos h,h,xc,evX_inv z0 hL];have j:=sk_join (z*2) 3 (n/2) L;rw[show 3+2*(n/2)=n+2 by omega]at j;rw[<- j];grind
 rw[st x hx,st y y0];have ox:=E_one hx hL;have oy:=E_one y0 hL;have i1:Ex.E x L*(1/Ex.E x L)=1:=Ex.mul_div _ 1 (by grind);have i2:Ex.E y L*(1/Ex.E y L)=1:=Ex.mul_div _ 1 (by grind);have p1:0<=1/Ex.E x L:=Ex.div_nn (by decide) (by grind);have p2:0<=1/Ex.E y L:=Ex.div_nn (by decide) (by grind);have q1:1/Ex.E x L<=1:=by
  have:=xA ox p1;rw[i1,xc]at this;exact this
 have q2:1/Ex.E y L<=1/Ex.E x L:=by
  have:=xA (E_monoX hx hxy L) (xF p1 p2);have k1:Ex.E x L*(1/Ex.E x L*(1/Ex.E y L))=1/Ex.E y L:=by rw[<- zG,i1,xc]
  have k2:Ex.E y L*(1/Ex.E x L*(1/Ex.E y L))=1/Ex.E x L:=by
   have:Ex.E y L*(1/Ex.E x L*(1/Ex.E y L))=1/Ex.E x L*(Ex.E y L*(1/Ex.E y L)):=by grind
   rw[this,i2,yA]
  rw[k1,k2]at this;exact this
 obtain⟨M,hM⟩ : ∃M,n/2+L=M+1:=⟨n/2+L-1,by omega⟩
 have lip:=sk_lip (a:=x*2) (b:=y*2) (by grind) (by grind) M;have mn:=sk_mono3 (a:=x*2) (b:=y*2) (by grind) (by grind) (n/2);have kE:=xE (sk2_le y0 M) (E_big y0 hy M);rw[hM];have zx:0<=sk (x*2) 3 (M+1)-sk (x*2) 3 (n/2):=by
  have:=sk_up (y:=x*2) (k0:=3) (by omega) (by grind) (show n/2<=M+1 by omega);grind
 have zy:0<=sk (y*2) 3 (M+1)-sk (y*2) 3 (n/2):=by
  have:=sk_up (y:=y*2) (k0:=3) (by omega) (by grind) (show n/2<=M+1 by omega);grind
 have m1:=xB kE (show 0<=y*2-x*2 by grind);have dz:sk (y*2) 3 (M+1)-sk (y*2) 3 (n/2)<=sk (x*2) 3 (M+1)-sk (x*2) 3 (n/2)+2*Ex.t2 102*(y-x):=by grind
 have q:=SQ_one.1;have j1:SQ*(1/SQ)=1:=Ex.mul_div _ 1 (by grind);have j0:0<=1/SQ:=Ex.div_nn (by decide) (by grind);have j2:=xA q j0;rw[j1,xc]at j2;have c0:0<=s*(1/SQ)*2:=by have:=xF s0 j0;grind
 have c16:s*(1/SQ)*2<=16:=by have:=mul_le s8 j2 (by decide) j0;grind
 generalize s*(1/SQ)*2=c at *
 generalize sk (y*2) 3 (M+1)-sk (y*2) 3 (n/2)=ZY at *
 generalize sk (x*2) 3 (M+1)-sk (x*2) 3 (n/2)=ZX at *
 generalize 1/Ex.E x L=ix at *
 generalize 1/Ex.E y L=iy at *
 have K0:0<=Ex.t2 102*(y-x):=xF (xG (Ex.t2_pos 102)) (by grind);have a1:=xB q2 (xF c0 zy);have a2:=xA (xB dz c0) p1;have a3:=mul_le c16 q1 (by decide) p1;have a4:=xA a3 (show 0<=2*(Ex.t2 102*(y-x)) by grind);clear st lip mn kE m1 zx zy dz i1 i2 ox oy;generalize Ex.t2 102=K at *
 grind
theorem root_near {x lo hi d:Rat} (l0:0<=lo) (lh:lo<=hi) (l1:lo*lo<=x) (l2:x<=hi*hi) (hd:0<d) : ∃a b:Rat,lo<=a/\a<=b/\b<=hi/\a*a<=x/\x<=b*b/\b*b<=a*a+d:=by
 have bis : ∀k:Nat,∃a b:Rat,lo<=a/\a<=b/\b<=hi/\a*a<=x/\x<=b*b/\(b-a)*Ex.t2 k<=hi-lo:=by
  intro k;induction k with
  |zero=>exact⟨lo,hi,xN,lh,xN,l1,l2,by show (hi-lo)*((2^0:Nat):Rat)<=_;rw[show ((2^0:Nat):Rat)=1 from rfl,yA];exact xN⟩
  |succ k ih=>
   obtain⟨a,b,h1,h2,h3,h4,h5,h6⟩:=ih;have t:=Ex.t2_succ k;obtain⟨c,hc⟩ : ∃c:Rat,c*2=a+b:=⟨(a+b)/2,xd (by decide)⟩
   by_cases g:c*c<=x
   ·refine⟨c,b,by grind,by grind,h3,g,h5,?_⟩;rw[t];have:(b-c)*(Ex.t2 k+Ex.t2 k)=(b-a)*Ex.t2 k:=by
     have:b-a=(b-c)*2:=by grind
     rw[this];grind
    rw[this];exact h6
   ·refine⟨a,c,h1,by grind,by grind,h4,by grind,?_⟩;rw[t];have:(c-a)*(Ex.t2 k+Ex.t2 k)=(b-a)*Ex.t2 k:=by
     have:b-a=(c-a)*2:=by grind
     rw[this];grind
    rw[this];exact h6
 have hi0:0<=hi:=xE l0 lh;obtain⟨k,k1,k2⟩:=arch (D:=(hi-lo)*(hi+hi)) (xF (by grind) (by grind)) hd;obtain⟨a,b,h1,h2,h3,h4,h5,h6⟩:=bis k;refine⟨a,b,h1,h2,h3,h4,h5,?_⟩;have T:=Ex.t2_pos k;have kt:=Ex.nat_t2 k;have m1:=xA h6 (show 0<=hi+hi by grind);have m2:=xB kt (xG hd);have m3:=xB (show b+a<=hi+hi by grind) (xF (show 0<=b-a by grind) (xG T));have fin:(b*b-a*a)*Ex.t2 k<=d*Ex.t2 k:=by
  have e:(b*b-a*a)*Ex.t2 k=(b-a)*Ex.t2 k*(b+a):=by grind
  rw[e];exact xE m3 (xE m1 (xE k2 m2))
 have:=le_by T fin;grind
end Go.Proofs.YtfknkoeagjonbaaGreat
namespace Go.Proofs.YtfknkoeagjonbaaGreat
open Go.Ev
def LoI (n:Nat) (x l:Rat):Prop := ∃lo hi:Rat,0<=lo/\lo<=hi/\lo*lo<=x/\x<=hi*hi /\ ∀s,lo<=s->s<=hi -> ∃L0,∀L,L0<=L->l<=igV n s x L
def HiI (n:Nat) (x h:Rat):Prop := ∃lo hi:Rat,0<=lo/\lo<=hi/\lo*lo<=x/\x<=hi*hi /\ ∀s,lo<=s->s<=hi -> ∃L0,∀L,L0<=L->igV n s x L<=h
theorem pos_splitG {g C:Rat} (hg:0<g) (hC:0<C) : ∃e d:Rat,0<e/\0<d/\e+C*d+C*d<g:=by
 have e4:g/4*4=g:=xd (by decide);have i4:0<g/4:=by rw[xk];exact xt hg (by decide +kernel)
 have dC:g/4/C*C=g/4:=xd (by grind);have iC:0<g/4/C:=by rw[xk (g/4)];exact xt i4 (zU.2 hC)
 refine⟨g/4,g/4/C,i4,iC,?_⟩;generalize g/4/C=d at *
 generalize g/4=e at *
 grind
theorem min8G {x lo hi:Rat} (l0:0<=lo) (lh:lo<=hi) (l1:lo*lo<=x) (l2:x<=hi*hi) (h64:x<=64) : ∃h:Rat,lo<=h/\h<=hi/\h<=8/\x<=h*h:=by
 have lo8:lo<=8:=sq_mono l0 (by decide) (xE l1 (xE h64 (by decide +kernel)));rcases zC (a:=hi) (b:=8) with g|g
 ·exact⟨hi,lh,xN,g,l2⟩
 ·exact⟨8,lo8,g,xN,xE h64 (by decide +kernel)⟩
end Go.Proofs.YtfknkoeagjonbaaGreat
