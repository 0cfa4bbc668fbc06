/- Part 9 of the proof: the evaluator, contracts of functions and their plain laws (joined by program). No condition. -/
import Derived.Test.YtenjdajophfpcaaGreatPart8
set_option linter.unusedVariables false
set_option linter.unusedSimpArgs false
set_option maxRecDepth 100000
namespace Go.Proofs.YtenjdajophfpcaaGreat
open Go.Ev
def wT:Nat->Rat->Rat
 |0,_=>1
 |1,t=>t*(1/SQ)*2
 |m+2,t=>wT m t*(t*t*2)*((1:Nat):Rat)/((m+2:Nat):Rat)
theorem wT_step (m:Nat) (t:Rat):((m+2:Nat):Rat)*wT (m+2) t=wT m t*(t*t*2):=by
 have c:((m+2:Nat):Rat)≠0:=Ex.nsucc_ne (m+1)
 show _*(wT m t*(t*t*2)*((1:Nat):Rat)/_)=_
 rw[Ex.mul_div _ _ c,show ((1:Nat):Rat)=1 from rfl,Rat.mul_one]
theorem wT_tk (n:Nat) (t:Rat) : ∀j,wT (n+2*j) t=wT n t*tk (t*t*2) (n+2) j
 |0=>by show wT n t=wT n t*1;rw[Rat.mul_one]
 |j+1=>by
  have ih:=wT_tk n t j
  have e:wT (n+2*(j+1)) t=wT (n+2*j) t*(t*t*2)*((1:Nat):Rat)/((n+2*j+2:Nat):Rat):=rfl
  rw[e,ih,show n+2*j+2=n+2+2*j by omega]
  show _=wT n t*(tk (t*t*2) (n+2) j*(t*t*2)*((1:Nat):Rat)/((n+2+2*j:Nat):Rat))
  rw[Rat.div_def,Rat.div_def];grind
theorem wT_ig (n:Nat) (t:Rat):wT n t=igC n t*tk (t*t*2) (2+n%2) (n/2):=by
 rcases Nat.mod_two_eq_zero_or_one n with h|h
 ·have e:=wT_tk 0 t (n/2)
  rw[show 0+2*(n/2)=n by omega]at e
  rw[e,h,show igC n t=1 from if_neg (by omega)];rfl
 ·have e:=wT_tk 1 t (n/2)
  rw[show 1+2*(n/2)=n by omega]at e
  rw[e,h,show igC n t=t*(1/SQ)*2 from if_pos h];rfl
def wA (n:Nat) (t:Rat):Nat->Rat
 |0=>0
 |L+1=>wA n t L+wT (n+2*L) t
theorem wA_is (n:Nat) (t:Rat) : ∀L,wA n t L=wT n t*sk (t*t*2) (n+2) L
 |0=>by show (0:Rat)=_*0;rw[Rat.mul_zero]
 |L+1=>by
  have ih:=wA_is n t L
  show wA n t L+wT (n+2*L) t=wT n t*(sk (t*t*2) (n+2) L+tk (t*t*2) (n+2) L)
  rw[ih,wT_tk,Rat.mul_add]
theorem igV_sq (n:Nat) (t:Rat) (L:Nat):igV n t (t*t) L=wA n t L*evX (-(t*t)) L:=by
 unfold igV
 rw[<- wT_ig,wA_is,Rat.one_mul]
theorem wT_one (m:Nat) (t:Rat) (h:0<=t) (h8:t<=8):0<=wT m t/\wT m t<=16*Ex.tm (t*t) (m/2):=by
 induction m using Nat.strongRecOn with
 |_ m ih=>
  match m with
  |0=>exact⟨by show (0:Rat)<=1;decide,by show (1:Rat)<=16*1;decide +kernel⟩
  |1=>
   have q:=SQ_one.1
   have i1:SQ*(1/SQ)=1:=Ex.mul_div _ 1 (by grind)
   have i0:0<=1/SQ:=Ex.div_nn (by decide) (by grind)
   have i2:=Rat.mul_le_mul_of_nonneg_right q i0
   rw[i1,Rat.one_mul]at i2
   have a:=Rat.mul_nonneg h i0
   have b:=mul_le h8 i2 (by decide) i0
   show 0<=t*(1/SQ)*2/\t*(1/SQ)*2<=16*1
   constructor<;>grind
  |k+2=>
   obtain⟨i1,i2⟩:=ih k (by omega)
   have s:=wT_step k t
   have c:(0:Rat)<((k+2:Nat):Rat):=Ex.nsucc_pos (k+1)
   have s2:=Ex.tm_succ (t*t) (k/2)
   have tt:=Rat.mul_nonneg h h
   have tn:=Ex.tm_nn tt (k/2+1)
   rw[show (k+2)/2=k/2+1 by omega]
   refine⟨le_by c ?_,le_by c ?_⟩
   ·rw[Rat.zero_mul,Rat.mul_comm,s];exact Rat.mul_nonneg i1 (by grind)
   ·rw[Rat.mul_comm (wT (k+2) t),s]
    have m1:=Rat.mul_le_mul_of_nonneg_right i2 (show 0<=t*t*2 by grind)
    have c2:((2*(k/2+1):Nat):Rat)<=((k+2:Nat):Rat):=Ex.castle (by omega)
    rw[Ex.castmul,show ((2:Nat):Rat)=2 from rfl]at c2
    have m2:=Rat.mul_le_mul_of_nonneg_right c2 (show 0<=16*Ex.tm (t*t) (k/2+1) by grind)
    have e:16*Ex.tm (t*t) (k/2)*(t*t*2)=2*((k/2+1:Nat):Rat)*(16*Ex.tm (t*t) (k/2+1)):=by
     have:t*t*Ex.tm (t*t) (k/2)=((k/2+1:Nat):Rat)*Ex.tm (t*t) (k/2+1):=s2.symm
     grind
    rw[e]at m1
    grind
theorem wA_le (n:Nat) (t:Rat) (h:0<=t) (h8:t<=8) : ∀L,0<=wA n t L/\wA n t L<=16*(Ex.E (t*t) (n/2+L)-Ex.E (t*t) (n/2))
 |0=>by show (0:Rat)<=0/\0<=16*(Ex.E (t*t) (n/2)-Ex.E (t*t) (n/2));rw[Rat.sub_self,Rat.mul_zero];exact⟨Rat.le_refl,Rat.le_refl⟩
 |L+1=>by
  obtain⟨i1,i2⟩:=wA_le n t h h8 L
  obtain⟨a,b⟩:=wT_one (n+2*L) t h h8
  rw[show (n+2*L)/2=n/2+L by omega]at b
  show 0<=wA n t L+wT (n+2*L) t/\wA n t L+wT (n+2*L) t<=16*(Ex.E (t*t) (n/2+L)+Ex.tm (t*t) (n/2+L)-Ex.E (t*t) (n/2))
  constructor<;>grind
def wD:Nat->Rat->Rat
 |0,_=>0
 |1,_=>8*((1/SQ)*2)
 |m+2,u=>128*u*wT m (8*u)
theorem dif_wT : ∀m,Dif (fun u=>wT m (8*u)) (wD m):=by
 intro m
 induction m using Nat.strongRecOn with
 |_ m ih=>
  match m with
  |0=>exact dif_const 1
  |1=>exact dif_congr (dif_mul (dif_const (8*((1/SQ)*2))) dif_id) (fun u=>by show 8*((1/SQ)*2)*u=8*u*(1/SQ)*2;grind) (fun u=>by show 8*((1/SQ)*2)*1+0*u=8*((1/SQ)*2);grind)
  |k+2=>
   have ihk:=ih k (by omega)
   obtain⟨c,hc⟩ : ∃c:Rat,((k+2:Nat):Rat)*c=1:=⟨1/((k+2:Nat):Rat),Ex.mul_div _ 1 (Ex.nsucc_ne (k+1))⟩
   have st:=fun u:Rat=>wT_step k (8*u)
   refine dif_congr (dif_mul ihk (dif_sq (128*c))) (fun u => ?_) (fun u => ?_)
   ·show wT k (8*u)*(128*c*(u*u))=wT (k+2) (8*u)
    have h:=st u
    have e:wT k (8*u)*(128*c*(u*u))=wT k (8*u)*(8*u*(8*u)*2)*c:=by grind
    rw[e,<- h]
    have e2:((k+2:Nat):Rat)*wT (k+2) (8*u)*c=((k+2:Nat):Rat)*c*wT (k+2) (8*u):=by grind
    rw[e2,hc,Rat.one_mul]
   ·show wT k (8*u)*(128*c*(u+u))+wD k u*(128*c*(u*u))=128*u*wT k (8*u)
    match k with
    |0=>
     have e1:wD 0 u=0:=rfl
     have e2:wT 0 (8*u)=1:=rfl
     have e3:((0+2:Nat):Rat)=2:=rfl
     rw[e3]at hc
     rw[e1,e2]
     have:1*(128*c*(u+u))+0*(128*c*(u*u))=128*u*(2*c):=by grind
     rw[this,hc]
    |1=>
     have e1:wD 1 u=8*((1/SQ)*2):=rfl
     have e2:wT 1 (8*u)=8*u*(1/SQ)*2:=rfl
     have e3:((1+2:Nat):Rat)=3:=rfl
     rw[e3]at hc
     rw[e1,e2]
     generalize 1/SQ=q
     have:8*u*q*2*(128*c*(u+u))+8*(q*2)*(128*c*(u*u))=2048*(u*u)*q*(3*c):=by grind
     rw[this,hc];grind
    |j+2=>
     have e1:wD (j+2) u=128*u*wT j (8*u):=rfl
     have h:=wT_step j (8*u)
     have e5:((j+2+2:Nat):Rat)=((j+2:Nat):Rat)+2:=by rw[Ex.castadd (j+2) 2];rfl
     rw[e5]at hc
     rw[e1]
     generalize wT (j+2) (8*u)=X at *
     generalize wT j (8*u)=Y at *
     generalize ((j+2:Nat):Rat)=z at *
     have a:X*(128*c*(u+u))+128*u*Y*(128*c*(u*u))=128*u*c*(2*X+Y*(8*u*(8*u)*2)):=by grind
     rw[a,<- h]
     have b:128*u*c*(2*X+z*X)=128*u*X*((z+2)*c):=by grind
     rw[b,hc,Rat.mul_one]
theorem dif_wA (n:Nat) (hn:1<=n) : ∀L,Dif (fun u=>wA n (8*u) (L+1)) (fun u=>wD n u+128*u*wA n (8*u) L)
 |0=>dif_congr (dif_wT n) (fun u=>by show wT n (8*u)=0+wT n (8*u);grind) (fun u=>by show wD n u=wD n u+128*u*0;grind)
 |L+1=>dif_congr (dif_add (dif_wA n hn L) (dif_wT (n+2*(L+1)))) (fun u=>rfl) (fun u=>by
  show wD n u+128*u*wA n (8*u) L+wD (n+2*(L+1)) u=wD n u+128*u*(wA n (8*u) L+wT (n+2*L) (8*u))
  have:wD (n+2*(L+1)) u=128*u*wT (n+2*L) (8*u):=rfl
  rw[this];grind)
def gM (j:Nat) (u:Rat):Rat:=Ex.tm (-64*(u*u)) j
def gMs:Nat->Rat->Rat
 |0,_=>0
 |j+1,u => -128*u*gM j u
theorem dif_gM : ∀j,Dif (gM j) (gMs j)
 |0=>dif_const 1
 |j+1=>by
  have ih:=dif_gM j
  obtain⟨c,hc⟩ : ∃c:Rat,((j+1:Nat):Rat)*c=1:=⟨1/((j+1:Nat):Rat),Ex.mul_div _ 1 (Ex.nsucc_ne j)⟩
  have st:=fun (i:Nat) (u:Rat)=>show ((i+1:Nat):Rat)*gM (i+1) u = -64*(u*u)*gM i u from Ex.tm_succ _ i
  refine dif_congr (dif_mul ih (dif_sq (-64*c))) (fun u => ?_) (fun u => ?_)
  ·show gM j u*(-64*c*(u*u))=gM (j+1) u
   have h:=st j u
   have e:gM j u*(-64*c*(u*u)) = -64*(u*u)*gM j u*c:=by grind
   rw[e,<- h]
   have e2:((j+1:Nat):Rat)*gM (j+1) u*c=((j+1:Nat):Rat)*c*gM (j+1) u:=by grind
   rw[e2,hc,Rat.one_mul]
  ·show gM j u*(-64*c*(u+u))+gMs j u*(-64*c*(u*u)) = -128*u*gM j u
   cases j with
   |zero=>
    have e1:gMs 0 u=0:=rfl
    have e3:((0+1:Nat):Rat)=1:=rfl
    rw[e3,Rat.one_mul]at hc
    rw[e1,hc];grind
   |succ j=>
    have h:=st j u
    have e1:gMs (j+1) u = -128*u*gM j u:=rfl
    have e5:((j+1+1:Nat):Rat)=((j+1:Nat):Rat)+1:=by rw[Ex.castadd (j+1) 1];rfl
    rw[e5]at hc
    rw[e1]
    have a:gM (j+1) u*(-64*c*(u+u)) + -128*u*gM j u*(-64*c*(u*u)) = -128*u*c*(gM (j+1) u + -64*(u*u)*gM j u):=by grind
    rw[a,<- h]
    have b : -128*u*c*(gM (j+1) u+((j+1:Nat):Rat)*gM (j+1) u) = -128*u*gM (j+1) u*((((j+1:Nat):Rat)+1)*c):=by grind
    rw[b,hc,Rat.mul_one]
theorem dif_gE : ∀L,Dif (fun u=>Ex.E (-64*(u*u)) (L+1)) (fun u => -128*u*Ex.E (-64*(u*u)) L)
 |0=>dif_congr (dif_gM 0) (fun u=>by show gM 0 u=0+Ex.tm _ 0;rw[Rat.zero_add];rfl) (fun u=>by show (0:Rat) = -128*u*0;grind)
 |L+1=>dif_congr (dif_add (dif_gE L) (dif_gM (L+1))) (fun u=>rfl) (fun u=>by
  show -128*u*Ex.E (-64*(u*u)) L + -128*u*Ex.tm (-64*(u*u)) L = -128*u*(Ex.E (-64*(u*u)) L+Ex.tm (-64*(u*u)) L);grind)
end Go.Proofs.YtenjdajophfpcaaGreat
namespace Go.Proofs.YtenjdajophfpcaaGreat
open Go.Ev
theorem evX_inv {q:Rat} {L:Nat} (h:0<=q) (hL:1<=L):evX (-q) L=1/Ex.E q L:=by
 unfold evX
 by_cases g : -q<0
 ·rw[if_pos g,Rat.neg_neg]
 ·have q0:q=0:=by grind
  subst q0
  rw[if_neg g]
  obtain⟨k,rfl⟩ : ∃k,L=k+1:=⟨L-1,by omega⟩
  rw[Rat.neg_zero,Ex.E_zero];decide +kernel
theorem inv_bds {y:Rat} {L:Nat} (y0:0<=y) (y64:y<=64) (hL:1<=L):1/Ex.t2 102<=1/Ex.E y L/\1/Ex.E y L<=1:=by
 have one:=E_one y0 hL
 have big:=E_big y0 y64 L
 have K:=Ex.t2_pos 102
 have i1:Ex.E y L*(1/Ex.E y L)=1:=Ex.mul_div _ 1 (by grind)
 have i2:Ex.t2 102*(1/Ex.t2 102)=1:=Ex.mul_div _ 1 (by grind)
 have p1:0<=1/Ex.E y L:=Ex.div_nn (by decide) (by grind)
 have p2:0<=1/Ex.t2 102:=Ex.div_nn (by decide) K
 have r1:=Rat.mul_le_mul_of_nonneg_right one p1
 have r2:=Rat.mul_le_mul_of_nonneg_right big (Rat.mul_nonneg p1 p2)
 have k1:Ex.E y L*(1/Ex.E y L*(1/Ex.t2 102))=1/Ex.t2 102:=by rw[<- Rat.mul_assoc,i1,Rat.one_mul]
 have k2:Ex.t2 102*(1/Ex.E y L*(1/Ex.t2 102))=1/Ex.E y L:=by
  have:Ex.t2 102*(1/Ex.E y L*(1/Ex.t2 102))=1/Ex.E y L*(Ex.t2 102*(1/Ex.t2 102)):=by grind
  rw[this,i2,Rat.mul_one]
 rw[k1,k2]at r2
 rw[i1,Rat.one_mul]at r1
 exact⟨r2,r1⟩
theorem fall_near {u e:Rat} {L n:Nat} (h0:0<=u) (h1:u<=1) (hL:1<=L) (hm : ∀m,L<=m->2*Ex.tm 128 m<=e) (hL2:(128:Rat)+128<=((L+1:Nat):Rat)) :
  Ex.Bdd (Ex.E (-64*(u*u)) L-1/Ex.E (64*(u*u)) L) e/\Ex.Bdd (gM L u) e/\0<=wT (n+2*L) (8*u)/\wT (n+2*L) (8*u)<=8*e/\0<=wA n (8*u) L/\wA n (8*u) L<=16*Ex.t2 102/\1/Ex.t2 102<=1/Ex.E (64*(u*u)) L/\1/Ex.E (64*(u*u)) L<=1:=by
 obtain⟨q0,q1⟩:=sq_unit h0 h1
 have y0:0<=64*(u*u):=by grind
 have y64:64*(u*u)<=64:=by grind
 have n64 : -(64*(u*u)) = -64*(u*u):=by grind
 have tt:8*u*(8*u)=64*(u*u):=by grind
 have a:=E_inv y0 hL (show (64*(u*u)+64*(u*u))+(64*(u*u)+64*(u*u))<=_ from Rat.le_trans (by grind) hL2)
 have m128:=Ex.tm_mono (x:=64*(u*u)+64*(u*u)) (y:=128) (by grind) (by grind) L
 have m64:=Ex.tm_mono (x:=64*(u*u)) (y:=128) (by grind) (by grind) L
 have m64':=Ex.tm_mono (x:=64*(u*u)) (y:=128) (by grind) (by grind) (n/2+L)
 have hm1:=hm L (Nat.le_refl _)
 have hm2:=hm (n/2+L) (by omega)
 have t0:=Ex.tm_nn (x:=128) (by decide) L
 have b:=tm_negB y0 L
 rw[n64]at a b
 obtain⟨w1,w2⟩:=wT_one (n+2*L) (8*u) (by grind) (by grind)
 obtain⟨x1,x2⟩:=wA_le n (8*u) (by grind) (by grind) L
 rw[show (n+2*L)/2=n/2+L by omega,tt]at w2
 rw[tt]at x2
 have big:=E_big y0 y64 (n/2+L)
 have nn:=Ex.E_nn y0 (n/2)
 obtain⟨i1,i2⟩:=inv_bds y0 y64 hL
 exact⟨Ex.Bdd_mono a (by grind),Ex.Bdd_mono b (by grind),w1,by grind,x1,by grind,i1,i2⟩
theorem fall_rest {u e K A M T B A' T':Rat} (h0:0<=u) (h1:u<=1) (K1:1<=K) (he:0<=e) (hA0:0<=A) (hA:A<=16*K) (hM:Ex.Bdd M e) (hT0:0<=T) (hT:T<=8*e) (hB:Ex.Bdd B 2) (hA0':0<=A') (hA':A'<=16*K) (hT0':0<=T') (hT':T'<=8*e) :
  Ex.Bdd (128*u*((A*M-T*B)-(A'*M-T'*B))) (8192*(K*e)):=by
 have eK:e<=K*e:=by
  have:=Rat.mul_le_mul_of_nonneg_right K1 he
  rw[Rat.one_mul]at this;exact this
 have b1:=Ex.Bdd_mul (show Ex.Bdd A (16*K) from⟨by grind,hA⟩) hM
 have b2:=Ex.Bdd_mul (show Ex.Bdd T (8*e) from⟨by grind,hT⟩) hB
 have c1:=Ex.Bdd_mul (show Ex.Bdd A' (16*K) from⟨by grind,hA'⟩) hM
 have c2:=Ex.Bdd_mul (show Ex.Bdd T' (8*e) from⟨by grind,hT'⟩) hB
 have b3:=Ex.Bdd_mul (show Ex.Bdd (128*u) 128 from⟨by grind,by grind⟩) (Ex.Bdd_sub (Ex.Bdd_sub b1 b2) (Ex.Bdd_sub c1 c2))
 refine Ex.Bdd_mono b3 ?_
 have g:16*K*e=16*(K*e):=by grind
 rw[g]
 generalize K*e=Z at *
 grind
end Go.Proofs.YtenjdajophfpcaaGreat
namespace Go.Proofs.YtenjdajophfpcaaGreat
open Go.Ev
theorem wD_nn : ∀ (n:Nat) {v:Rat},0<=v->v<=1->0<=wD n v
 |0,_,_,_=>by show (0:Rat)<=0;decide
 |1,_,_,_=>by
  have i0:0<=1/SQ:=Ex.div_nn (by decide) (by have:=SQ_one.1;grind)
  show 0<=8*(1/SQ*2)
  grind
 |m+2,v,h0,h1=>by
  have w:=(wT_one m (8*v) (by grind) (by grind)).1
  exact Rat.mul_nonneg (by grind) w
theorem rise_split (d1 A T B M u:Rat):(A+T)*(-128*u*B)+(d1+128*u*A)*(B+M)=d1*(B+M)+128*u*(A*M-T*B):=by grind
set_option maxHeartbeats 1000000 in
theorem igV_rises {n:Nat} (hn:1<=n) {e:Rat} (he:0<e) :
  ∃N:Nat,∀L,N<=L -> ∀s t:Rat,0<=s->s<=t->t<=8->igV n s (s*s) L<=igV n t (t*t) L+e:=by
 obtain⟨K,hK⟩ : ∃K:Rat,K=Ex.t2 102:=⟨_,rfl⟩
 have K1:1<=K:=by rw[hK];exact Ex.castle (show 1<=2^102 by decide +kernel)
 have Kp:0<K:=by grind
 obtain⟨d,hd0,hd1,hd2⟩ : ∃d:Rat,0<d/\K*d<=1/\10000*(K*d)<=e:=by
  have E0:0<10000*K/e:=by rw[Rat.div_def];exact Rat.mul_pos (by grind) (Rat.inv_pos.2 he)
  have ee:10000*K/e*e=10000*K:=Rat.div_mul_cancel (by grind)
  obtain⟨D,hD⟩ : ∃D,D=K+10000*K/e:=⟨_,rfl⟩
  have Dp:0<D:=by rw[hD];grind
  have i:D*(1/D)=1:=Ex.mul_div _ 1 (by grind)
  have ip:0<1/D:=by rw[Rat.div_def,Rat.one_mul];exact Rat.inv_pos.2 Dp
  refine⟨1/D,ip,?_,?_⟩
  ·have:=Rat.mul_le_mul_of_nonneg_right (show K<=D by rw[hD];grind) (Rat.le_of_lt ip)
   rw[i]at this;exact this
  ·have m:=Rat.mul_le_mul_of_nonneg_right (show 10000*K/e<=D by rw[hD];grind) (Rat.le_of_lt ip)
   rw[i]at m
   have m2:=Rat.mul_le_mul_of_nonneg_right m (Rat.le_of_lt he)
   have q:10000*K/e*(1/D)*e=10000*(K*(1/D)):=by
    have:10000*K/e*(1/D)*e=10000*K/e*e*(1/D):=by grind
    rw[this,ee];grind
   rw[q,Rat.one_mul]at m2;exact m2
 obtain⟨N,hN⟩:=Ex.tm_small (y:=128) (by decide) hd0
 have d1:d<=1:=by
  have:=Rat.mul_le_mul_of_nonneg_right K1 (Rat.le_of_lt hd0)
  grind
 refine⟨N+2,fun L hL s t s0 st t8 => ?_⟩
 obtain⟨r,hr⟩ : ∃r:Rat,s=8*r:=⟨s/8,by rw[Ex.mul_div _ _ (by decide)]⟩
 obtain⟨u,hu⟩ : ∃u:Rat,t=8*u:=⟨t/8,by rw[Ex.mul_div _ _ (by decide)]⟩
 have r0:0<=r:=by grind
 have ru:r<=u:=by grind
 have u1:u<=1:=by grind
 obtain⟨k,rfl⟩ : ∃k,L=k+1:=⟨L-1,by omega⟩
 have near:=fun (m n:Nat) (hm:N+1<=m) (v:Rat) (v0:0<=v) (v1:v<=1)=>fall_near (u:=v) (e:=d) (L:=m) (n:=n) v0 v1 (by omega) (fun j hj=>(hN j (by omega)).2) (hN m (by omega)).1
 obtain⟨F,hF⟩ : ∃F:Nat->Rat->Rat,F=fun n v=>wA n (8*v) (k+1)*Ex.E (-64*(v*v)) (k+1):=⟨_,rfl⟩
 obtain⟨S,hS⟩ : ∃S:Nat->Rat->Rat,S=fun n v=>wA n (8*v) (k+1)*(-128*v*Ex.E (-64*(v*v)) k)+(wD n v+128*v*wA n (8*v) k)*Ex.E (-64*(v*v)) (k+1):=⟨_,rfl⟩
 have dF : ∀n,1<=n->Dif (F n) (S n):=fun n hn=>by rw[hF,hS];exact dif_mul (dif_wA n hn k) (dif_gE k)
 have sl : ∀v,0<=v->v<=1 -> -(8192*(K*d))<=S n v:=by
  intro v v0 v1
  obtain⟨n1,n2,n3,n4,n5,n6,n7,n8⟩:=near k n (by omega) v v0 v1
  obtain⟨g1,-,-,-,-,-,g7,-⟩:=near (k+1) n (by omega) v v0 v1
  rw[<- hK]at n6 n7 g7
  have iK:K*(1/K)=1:=Ex.mul_div _ 1 (by grind)
  have pK:d<=1/K:=by
   refine le_by Kp ?_
   rw[Rat.mul_comm (1/K),iK,Rat.mul_comm];exact hd1
  have hB:Ex.Bdd (Ex.E (-64*(v*v)) k) 2:=by
   obtain⟨a,b⟩:=n1
   have p:0<=1/Ex.E (64*(v*v)) k:=Rat.le_trans (Ex.div_nn (by decide) Kp) n7
   constructor<;>grind
  have r:=fall_rest (u:=v) (e:=d) (K:=K) (A:=wA n (8*v) k) (M:=gM k v) (T:=wT (n+2*k) (8*v)) (B:=Ex.E (-64*(v*v)) k) (A':=0) (T':=0) v0 v1 K1 (Rat.le_of_lt hd0) n5 n6 n2 n3 n4 hB Rat.le_refl (by grind) Rat.le_refl (by grind)
  have b0:0<=Ex.E (-64*(v*v)) (k+1):=by
   obtain⟨a,b⟩:=g1
   grind
  have p:=Rat.mul_nonneg (wD_nn n v0 v1) b0
  have q:=rise_split (wD n v) (wA n (8*v) k) (wT (n+2*k) (8*v)) (Ex.E (-64*(v*v)) k) (gM k v) v
  have q2:S n v=wD n v*Ex.E (-64*(v*v)) (k+1)+128*v*(wA n (8*v) k*gM k v-wT (n+2*k) (8*v)*Ex.E (-64*(v*v)) k):=by rw[hS];exact q
  obtain⟨x4,x5⟩:=r
  rw[q2]
  grind
 have val : ∀ (n:Nat) (v:Rat),0<=v->v<=1->Ex.Bdd (igV n (8*v) (8*v*(8*v)) (k+1)-F n v) (16*(K*d)):=by
  intro n v v0 v1
  obtain⟨g1,g2,g3,g4,g5,g6,g7,g8⟩:=near (k+1) n (by omega) v v0 v1
  obtain⟨q0,-⟩:=sq_unit v0 v1
  rw[igV_sq,show 8*v*(8*v)=64*(v*v) by grind,evX_inv (by grind) (by omega),hF]
  have b:=Ex.Bdd_mul (show Ex.Bdd (wA n (8*v) (k+1)) (16*K) from⟨by grind,by rw[hK];exact g6⟩) g1
  obtain⟨b1,b2⟩:=b
  show Ex.Bdd (wA n (8*v) (k+1)*(1/Ex.E (64*(v*v)) (k+1))-wA n (8*v) (k+1)*Ex.E (-64*(v*v)) (k+1)) (16*(K*d))
  constructor<;>grind
 obtain⟨H,hH⟩ : ∃H:Rat,H=8192*(K*d):=⟨_,rfl⟩
 have Kd0:0<=K*d:=Rat.mul_nonneg (Rat.le_of_lt Kp) (Rat.le_of_lt hd0)
 have H0:0<=H:=by rw[hH];grind
 have f:=dif_mono (dif_add (dF n hn) (dif_mul (dif_const H) dif_id)) (x:=r) (y:=u) r0 ru u1 (fun v v0 vu=>by
  have:=sl v (by grind) (by grind)
  rw[<- hH]at this
  show 0<=S n v+(H*1+0*v)
  grind)
 have f':F n r+H*r<=F n u+H*u:=f
 have h1:=Rat.mul_nonneg H0 r0
 have h2:=Rat.mul_le_mul_of_nonneg_left u1 H0
 obtain⟨v1,v2⟩:=val n r r0 (by grind)
 obtain⟨w1,w2⟩:=val n u (by grind) u1
 rw[hr,hu]
 generalize igV n (8*r) (8*r*(8*r)) (k+1)=G1 at *
 generalize igV n (8*u) (8*u*(8*u)) (k+1)=G2 at *
 grind
end Go.Proofs.YtenjdajophfpcaaGreat
namespace Go.Proofs.YtenjdajophfpcaaGreat
open Go.Ev
theorem tk_join (y:Rat) (k0 m:Nat) : ∀j,tk y k0 m*tk y (k0+2*m) j=tk y k0 (m+j)
 |0=>by show tk y k0 m*1=_;rw[Rat.mul_one];rfl
 |j+1=>by
  have ih:=tk_join y k0 m j
  show tk y k0 m*(tk y (k0+2*m) j*y*((1:Nat):Rat)/((k0+2*m+2*j:Nat):Rat))=tk y k0 (m+j)*y*((1:Nat):Rat)/((k0+2*(m+j):Nat):Rat)
  rw[<- ih,show k0+2*m+2*j=k0+2*(m+j) by omega,Rat.div_def,Rat.div_def];grind
theorem sk_join (y:Rat) (k0 m:Nat) : ∀L,tk y k0 m*sk y (k0+2*m) L=sk y k0 (m+L)-sk y k0 m
 |0=>by show tk y k0 m*0=sk y k0 m-sk y k0 m;rw[Rat.mul_zero,Rat.sub_self]
 |L+1=>by
  have ih:=sk_join y k0 m L
  have j:=tk_join y k0 m L
  show tk y k0 m*(sk y (k0+2*m) L+tk y (k0+2*m) L)=sk y k0 (m+L)+tk y k0 (m+L)-sk y k0 m
  rw[Rat.mul_add,ih,j];grind
theorem tk_tm (x:Rat) : ∀j,tk (x*2) 2 j=Ex.tm x j
 |0=>rfl
 |j+1=>by
  have ih:=tk_tm x j
  have s:=tk_step (y:=x*2) (k0:=2) (by omega) j
  have s2:=Ex.tm_succ x j
  rw[ih]at s
  have c:((j+1:Nat):Rat)≠0:=Ex.nsucc_ne j
  have e:((2+2*j:Nat):Rat)=2*((j+1:Nat):Rat):=by rw[show 2+2*j=2*(j+1) by omega,Ex.castmul];rfl
  rw[e]at s
  refine Ex.cancel_l c ?_
  rw[s2];grind
theorem sk_E (x:Rat) : ∀L,sk (x*2) 2 L=Ex.E x L
 |0=>rfl
 |L+1=>by show sk (x*2) 2 L+tk (x*2) 2 L=Ex.E x L+Ex.tm x L;rw[sk_E x L,tk_tm]
theorem igV_even {n:Nat} (h:n%2=0) {s x:Rat} (hx:0<=x) {L:Nat} (hL:1<=L):igV n s x L=(Ex.E x (n/2+L)-Ex.E x (n/2))*(1/Ex.E x L):=by
 unfold igV
 rw[show igC n s=1 from if_neg (by omega),h,Rat.one_mul,Rat.one_mul,evX_inv hx hL]
 have j:=sk_join (x*2) 2 (n/2) L
 rw[sk_E,sk_E,show 2+2*(n/2)=n+2 by omega]at j
 rw[<- j]
theorem tm_ratio {x y:Rat} (hx:0<=x) (hxy:x<=y) (m:Nat) : ∀j,Ex.tm y m*Ex.tm x (m+j)<=Ex.tm x m*Ex.tm y (m+j)
 |0=>by rw[Nat.add_zero,Rat.mul_comm];exact Rat.le_refl
 |j+1=>by
  have ih:=tm_ratio hx hxy m j
  have c:(0:Rat)<((m+j+1:Nat):Rat):=Ex.nsucc_pos (m+j)
  have s1:=Ex.tm_succ x (m+j)
  have s2:=Ex.tm_succ y (m+j)
  refine le_by c ?_
  show Ex.tm y m*Ex.tm x (m+j+1)*_<=Ex.tm x m*Ex.tm y (m+j+1)*_
  have e1:Ex.tm y m*Ex.tm x (m+j+1)*((m+j+1:Nat):Rat)=x*(Ex.tm y m*Ex.tm x (m+j)):=by
   have:Ex.tm y m*Ex.tm x (m+j+1)*((m+j+1:Nat):Rat)=Ex.tm y m*(((m+j+1:Nat):Rat)*Ex.tm x (m+j+1)):=by grind
   rw[this,s1];grind
  have e2:Ex.tm x m*Ex.tm y (m+j+1)*((m+j+1:Nat):Rat)=y*(Ex.tm x m*Ex.tm y (m+j)):=by
   have:Ex.tm x m*Ex.tm y (m+j+1)*((m+j+1:Nat):Rat)=Ex.tm x m*(((m+j+1:Nat):Rat)*Ex.tm y (m+j+1)):=by grind
   rw[this,s2];grind
  rw[e1,e2]
  have y0:0<=y:=Rat.le_trans hx hxy
  exact mul_le hxy ih y0 (Rat.mul_nonneg (Ex.tm_nn y0 _) (Ex.tm_nn hx _))
theorem E_tm_ratio {x y:Rat} (hx:0<=x) (hxy:x<=y) (L:Nat) : ∀m,m<=L->Ex.E y m*Ex.tm x L<=Ex.E x m*Ex.tm y L
 |0,_=>by show (0:Rat)*_<=0*_;rw[Rat.zero_mul,Rat.zero_mul];exact Rat.le_refl
 |m+1,h=>by
  have ih:=E_tm_ratio hx hxy L m (by omega)
  have r:=tm_ratio hx hxy m (L-m)
  rw[show m+(L-m)=L by omega]at r
  show (Ex.E y m+Ex.tm y m)*_<=(Ex.E x m+Ex.tm x m)*_
  rw[Rat.add_mul,Rat.add_mul];grind
theorem E_ratio {x y:Rat} (hx:0<=x) (hxy:x<=y) (m:Nat) : ∀j,Ex.E y m*Ex.E x (m+j)<=Ex.E x m*Ex.E y (m+j)
 |0=>by rw[Nat.add_zero,Rat.mul_comm];exact Rat.le_refl
 |j+1=>by
  have ih:=E_ratio hx hxy m j
  have r:=E_tm_ratio hx hxy (m+j) m (by omega)
  show Ex.E y m*(Ex.E x (m+j)+Ex.tm x (m+j))<=Ex.E x m*(Ex.E y (m+j)+Ex.tm y (m+j))
  rw[Rat.mul_add,Rat.mul_add];grind
theorem even_rises {n:Nat} (h:n%2=0) {e:Rat} (he:0<e) : ∃N,∀L,N<=L -> ∀x y s s':Rat,0<=x->x<=y->y<=64->igV n s x L<=igV n s' y L+e:=by
 obtain⟨N,hN⟩:=Ex.tm_small (y:=64) (by decide) he
 refine⟨N+n+1,fun L hL x y s s' hx hxy hy => ?_⟩
 obtain⟨n1,n2⟩:=hN L (by omega)
 have y0:0<=y:=Rat.le_trans hx hxy
 rw[igV_even h hx (by omega),igV_even h y0 (by omega)]
 have ox:=E_one hx (show 1<=L by omega)
 have oy:=E_one y0 (show 1<=L by omega)
 have i1:Ex.E x L*(1/Ex.E x L)=1:=Ex.mul_div _ 1 (by grind)
 have i2:Ex.E y L*(1/Ex.E y L)=1:=Ex.mul_div _ 1 (by grind)
 have p1:0<=1/Ex.E x L:=Ex.div_nn (by decide) (by grind)
 have p2:0<=1/Ex.E y L:=Ex.div_nn (by decide) (by grind)
 have q1:1/Ex.E x L<=1:=by
  have:=Rat.mul_le_mul_of_nonneg_right ox p1
  rw[i1,Rat.one_mul]at this;exact this
 have tail:=Ex.E_tail_le (L:=n/2+L) hx (N:=L) (Rat.le_trans (by grind) n1)
 have tx:=Ex.tm_mono hx (show x<=64 by grind) L
 have up:=Ex.E_mono y0 (show L<=n/2+L by omega)
 have r:=E_ratio hx hxy (n/2) (L-n/2)
 rw[show n/2+(L-n/2)=L by omega]at r
 generalize 1/Ex.E x L=ix at *
 generalize 1/Ex.E y L=iy at *
 have k:=Rat.mul_le_mul_of_nonneg_right r (Rat.mul_nonneg p1 p2)
 have k1:Ex.E y (n/2)*Ex.E x L*(ix*iy)=Ex.E y (n/2)*iy:=by
  have:Ex.E y (n/2)*Ex.E x L*(ix*iy)=Ex.E y (n/2)*iy*(Ex.E x L*ix):=by grind
  rw[this,i1,Rat.mul_one]
 have k2:Ex.E x (n/2)*Ex.E y L*(ix*iy)=Ex.E x (n/2)*ix:=by
  have:Ex.E x (n/2)*Ex.E y L*(ix*iy)=Ex.E x (n/2)*ix*(Ex.E y L*iy):=by grind
  rw[this,i2,Rat.mul_one]
 rw[k1,k2]at k
 have t0:=Ex.tm_nn hx L
 have a1:=Rat.mul_le_mul_of_nonneg_right (show Ex.E x (n/2+L)-Ex.E x L<=e by grind) p1
 have a2:=Rat.mul_le_mul_of_nonneg_left q1 (Rat.le_of_lt he)
 have a3:=Rat.mul_le_mul_of_nonneg_right up p2
 rw[Rat.sub_eq_add_neg,Rat.sub_eq_add_neg,Rat.add_mul,Rat.add_mul]
 have b1:(Ex.E x (n/2+L)-Ex.E x L)*ix=Ex.E x (n/2+L)*ix-Ex.E x L*ix:=by grind
 have b2 : -Ex.E x (n/2)*ix = -(Ex.E x (n/2)*ix):=by grind
 have b3 : -Ex.E y (n/2)*iy = -(Ex.E y (n/2)*iy):=by grind
 rw[b1,i1]at a1
 rw[i2]at a3
 rw[b2,b3]
 clear r up tail b1 b2 b3 k1 k2
 grind
theorem tk2_le {y:Rat} (h:0<=y) : ∀j,tk (y*2) 3 j<=Ex.tm y j
 |0=>Rat.le_refl
 |j+1=>by
  have ih:=tk2_le h j
  have s1:=tk_step (y:=y*2) (k0:=3) (by omega) j
  have s2:=Ex.tm_succ y j
  have n1:=tk_nn (k0:=3) (by omega) (show 0<=y*2 by grind) (j+1)
  have c:((2*(j+1):Nat):Rat)<=((3+2*j:Nat):Rat):=Ex.castle (by omega)
  rw[Ex.castmul,show ((2:Nat):Rat)=2 from rfl]at c
  have p:(0:Rat)<((j+1:Nat):Rat):=Ex.nsucc_pos j
  refine le_by p ?_
  have m:=Rat.mul_le_mul_of_nonneg_right c n1
  have m2:=Rat.mul_le_mul_of_nonneg_right ih h
  generalize ((j+1:Nat):Rat)=z at *
  generalize ((3+2*j:Nat):Rat)=w at *
  grind
theorem sk2_le {y:Rat} (h:0<=y) : ∀L,sk (y*2) 3 L<=Ex.E y L
 |0=>Rat.le_refl
 |L+1=>by
  have ih:=sk2_le h L
  have:=tk2_le h L
  show sk (y*2) 3 L+tk (y*2) 3 L<=Ex.E y L+Ex.tm y L
  grind
theorem tk_mono3 {a b:Rat} (ha:0<=a) (hab:a<=b) : ∀j,tk a 3 j<=tk b 3 j
 |0=>Rat.le_refl
 |j+1=>by
  have ih:=tk_mono3 ha hab j
  have b0:0<=b:=Rat.le_trans ha hab
  have c:(0:Rat)<((3+2*j:Nat):Rat):=Ex.castlt (a:=0) (by omega)
  have s1:=tk_step (y:=a) (k0:=3) (by omega) j
  have s2:=tk_step (y:=b) (k0:=3) (by omega) j
  refine le_by c ?_
  rw[Rat.mul_comm (tk a 3 (j+1)),s1,Rat.mul_comm (tk b 3 (j+1)),s2]
  exact mul_le ih hab (tk_nn (by omega) b0 j) ha
theorem tk_lip {a b:Rat} (ha:0<=a) (hab:a<=b) : ∀j,tk b 3 (j+1)-tk a 3 (j+1)<=(b-a)*tk b 3 j
 |0=>by
  have s1:=tk_step (y:=a) (k0:=3) (by omega) 0
  have s2:=tk_step (y:=b) (k0:=3) (by omega) 0
  have e:((3+2*0:Nat):Rat)=3:=rfl
  have o : ∀y,tk y 3 0=1:=fun y=>rfl
  rw[e,o]at s1 s2
  rw[o];grind
 |j+1=>by
  have ih:=tk_lip ha hab j
  have b0:0<=b:=Rat.le_trans ha hab
  have c:(0:Rat)<((3+2*(j+1):Nat):Rat):=Ex.castlt (a:=0) (by omega)
  have s1:=tk_step (y:=a) (k0:=3) (by omega) (j+1)
  have s2:=tk_step (y:=b) (k0:=3) (by omega) (j+1)
  have s3:=tk_step (y:=b) (k0:=3) (by omega) j
  have m:=tk_mono3 ha hab (j+1)
  have nb:=tk_nn (k0:=3) (by omega) b0 (j+1)
  have e:((3+2*(j+1):Nat):Rat)=((3+2*j:Nat):Rat)+2:=by rw[show 3+2*(j+1)=3+2*j+2 by omega,Ex.castadd (3+2*j) 2];rfl
  refine le_by c ?_
  have m1:=Rat.mul_le_mul_of_nonneg_right ih b0
  have m2:=Rat.mul_le_mul_of_nonneg_right m (show 0<=b-a by grind)
  have l:(tk b 3 (j+1+1)-tk a 3 (j+1+1))*((3+2*(j+1):Nat):Rat)=tk b 3 (j+1)*b-tk a 3 (j+1)*a:=by rw[<- s1,<- s2];grind
  rw[l,e]
  have z:(b-a)*tk b 3 j*b=(b-a)*(((3+2*j:Nat):Rat)*tk b 3 (j+1)):=by rw[s3];grind
  rw[z]at m1
  have p:=Rat.mul_nonneg (show 0<=b-a by grind) nb
  generalize ((3+2*j:Nat):Rat)=w at *
  clear s1 s2 s3 l z c
  grind
theorem sk_lip {a b:Rat} (ha:0<=a) (hab:a<=b) : ∀M,sk b 3 (M+1)-sk a 3 (M+1)<=(b-a)*sk b 3 M
 |0=>by show 0+1-(0+1)<=(b-a)*0;rw[Rat.mul_zero];decide +kernel
 |M+1=>by
  have ih:=sk_lip ha hab M
  have l:=tk_lip ha hab M
  show sk b 3 (M+1)+tk b 3 (M+1)-(sk a 3 (M+1)+tk a 3 (M+1))<=(b-a)*(sk b 3 M+tk b 3 M)
  grind
theorem sk_mono3 {a b:Rat} (ha:0<=a) (hab:a<=b) : ∀j,sk a 3 j<=sk b 3 j
 |0=>Rat.le_refl
 |j+1=>by
  have:=sk_mono3 ha hab j
  have:=tk_mono3 ha hab j
  show sk a 3 j+tk a 3 j<=sk b 3 j+tk b 3 j
  grind
theorem E_monoX {x y:Rat} (hx:0<=x) (hxy:x<=y) : ∀L,Ex.E x L<=Ex.E y L
 |0=>Rat.le_refl
 |L+1=>by
  have:=E_monoX hx hxy L
  have:=Ex.tm_mono hx hxy L
  show Ex.E x L+Ex.tm x L<=Ex.E y L+Ex.tm y L
  grind
theorem odd_lip {n:Nat} (h:n%2=1) {x y s:Rat} {L:Nat} (hx:0<=x) (hxy:x<=y) (hy:y<=64) (s0:0<=s) (s8:s<=8) (hL:1<=L):igV n s y L<=igV n s x L+32*Ex.t2 102*(y-x):=by
 have y0:0<=y:=Rat.le_trans hx hxy
 have st : ∀z:Rat,0<=z->igV n s z L=s*(1/SQ)*2*(sk (z*2) 3 (n/2+L)-sk (z*2) 3 (n/2))*(1/Ex.E z L):=by
  intro z z0
  unfold igV
  rw[show igC n s=s*(1/SQ)*2 from if_pos h,h,Rat.one_mul,evX_inv z0 hL]
  have j:=sk_join (z*2) 3 (n/2) L
  rw[show 3+2*(n/2)=n+2 by omega]at j
  rw[<- j];grind
 rw[st x hx,st y y0]
 have ox:=E_one hx hL
 have oy:=E_one y0 hL
 have i1:Ex.E x L*(1/Ex.E x L)=1:=Ex.mul_div _ 1 (by grind)
 have i2:Ex.E y L*(1/Ex.E y L)=1:=Ex.mul_div _ 1 (by grind)
 have p1:0<=1/Ex.E x L:=Ex.div_nn (by decide) (by grind)
 have p2:0<=1/Ex.E y L:=Ex.div_nn (by decide) (by grind)
 have q1:1/Ex.E x L<=1:=by
  have:=Rat.mul_le_mul_of_nonneg_right ox p1
  rw[i1,Rat.one_mul]at this;exact this
 have q2:1/Ex.E y L<=1/Ex.E x L:=by
  have:=Rat.mul_le_mul_of_nonneg_right (E_monoX hx hxy L) (Rat.mul_nonneg p1 p2)
  have k1:Ex.E x L*(1/Ex.E x L*(1/Ex.E y L))=1/Ex.E y L:=by rw[<- Rat.mul_assoc,i1,Rat.one_mul]
  have k2:Ex.E y L*(1/Ex.E x L*(1/Ex.E y L))=1/Ex.E x L:=by
   have:Ex.E y L*(1/Ex.E x L*(1/Ex.E y L))=1/Ex.E x L*(Ex.E y L*(1/Ex.E y L)):=by grind
   rw[this,i2,Rat.mul_one]
  rw[k1,k2]at this;exact this
 obtain⟨M,hM⟩ : ∃M,n/2+L=M+1:=⟨n/2+L-1,by omega⟩
 have lip:=sk_lip (a:=x*2) (b:=y*2) (by grind) (by grind) M
 have mn:=sk_mono3 (a:=x*2) (b:=y*2) (by grind) (by grind) (n/2)
 have kE:=Rat.le_trans (sk2_le y0 M) (E_big y0 hy M)
 rw[hM]
 have zx:0<=sk (x*2) 3 (M+1)-sk (x*2) 3 (n/2):=by
  have:=sk_up (y:=x*2) (k0:=3) (by omega) (by grind) (show n/2<=M+1 by omega)
  grind
 have zy:0<=sk (y*2) 3 (M+1)-sk (y*2) 3 (n/2):=by
  have:=sk_up (y:=y*2) (k0:=3) (by omega) (by grind) (show n/2<=M+1 by omega)
  grind
 have m1:=Rat.mul_le_mul_of_nonneg_left kE (show 0<=y*2-x*2 by grind)
 have dz:sk (y*2) 3 (M+1)-sk (y*2) 3 (n/2)<=sk (x*2) 3 (M+1)-sk (x*2) 3 (n/2)+2*Ex.t2 102*(y-x):=by grind
 have q:=SQ_one.1
 have j1:SQ*(1/SQ)=1:=Ex.mul_div _ 1 (by grind)
 have j0:0<=1/SQ:=Ex.div_nn (by decide) (by grind)
 have j2:=Rat.mul_le_mul_of_nonneg_right q j0
 rw[j1,Rat.one_mul]at j2
 have c0:0<=s*(1/SQ)*2:=by have:=Rat.mul_nonneg s0 j0;grind
 have c16:s*(1/SQ)*2<=16:=by have:=mul_le s8 j2 (by decide) j0;grind
 generalize s*(1/SQ)*2=c at *
 generalize sk (y*2) 3 (M+1)-sk (y*2) 3 (n/2)=ZY at *
 generalize sk (x*2) 3 (M+1)-sk (x*2) 3 (n/2)=ZX at *
 generalize 1/Ex.E x L=ix at *
 generalize 1/Ex.E y L=iy at *
 have K0:0<=Ex.t2 102*(y-x):=Rat.mul_nonneg (Rat.le_of_lt (Ex.t2_pos 102)) (by grind)
 have a1:=Rat.mul_le_mul_of_nonneg_left q2 (Rat.mul_nonneg c0 zy)
 have a2:=Rat.mul_le_mul_of_nonneg_right (Rat.mul_le_mul_of_nonneg_left dz c0) p1
 have a3:=mul_le c16 q1 (by decide) p1
 have a4:=Rat.mul_le_mul_of_nonneg_right a3 (show 0<=2*(Ex.t2 102*(y-x)) by grind)
 clear st lip mn kE m1 zx zy dz i1 i2 ox oy
 generalize Ex.t2 102=K at *
 grind
theorem root_near {x lo hi d:Rat} (l0:0<=lo) (lh:lo<=hi) (l1:lo*lo<=x) (l2:x<=hi*hi) (hd:0<d) : ∃a b:Rat,lo<=a/\a<=b/\b<=hi/\a*a<=x/\x<=b*b/\b*b<=a*a+d:=by
 have bis : ∀k:Nat,∃a b:Rat,lo<=a/\a<=b/\b<=hi/\a*a<=x/\x<=b*b/\(b-a)*Ex.t2 k<=hi-lo:=by
  intro k
  induction k with
  |zero=>exact⟨lo,hi,Rat.le_refl,lh,Rat.le_refl,l1,l2,by show (hi-lo)*((2^0:Nat):Rat)<=_;rw[show ((2^0:Nat):Rat)=1 from rfl,Rat.mul_one];exact Rat.le_refl⟩
  |succ k ih=>
   obtain⟨a,b,h1,h2,h3,h4,h5,h6⟩:=ih
   have t:=Ex.t2_succ k
   obtain⟨c,hc⟩ : ∃c:Rat,c*2=a+b:=⟨(a+b)/2,Rat.div_mul_cancel (by decide)⟩
   by_cases g:c*c<=x
   ·refine⟨c,b,by grind,by grind,h3,g,h5,?_⟩
    rw[t]
    have:(b-c)*(Ex.t2 k+Ex.t2 k)=(b-a)*Ex.t2 k:=by
     have:b-a=(b-c)*2:=by grind
     rw[this];grind
    rw[this];exact h6
   ·refine⟨a,c,h1,by grind,by grind,h4,by grind,?_⟩
    rw[t]
    have:(c-a)*(Ex.t2 k+Ex.t2 k)=(b-a)*Ex.t2 k:=by
     have:b-a=(c-a)*2:=by grind
     rw[this];grind
    rw[this];exact h6
 have hi0:0<=hi:=Rat.le_trans l0 lh
 obtain⟨k,k1,k2⟩:=arch (D:=(hi-lo)*(hi+hi)) (Rat.mul_nonneg (by grind) (by grind)) hd
 obtain⟨a,b,h1,h2,h3,h4,h5,h6⟩:=bis k
 refine⟨a,b,h1,h2,h3,h4,h5,?_⟩
 have T:=Ex.t2_pos k
 have kt:=Ex.nat_t2 k
 have m1:=Rat.mul_le_mul_of_nonneg_right h6 (show 0<=hi+hi by grind)
 have m2:=Rat.mul_le_mul_of_nonneg_left kt (Rat.le_of_lt hd)
 have m3:=Rat.mul_le_mul_of_nonneg_left (show b+a<=hi+hi by grind) (Rat.mul_nonneg (show 0<=b-a by grind) (Rat.le_of_lt T))
 have fin:(b*b-a*a)*Ex.t2 k<=d*Ex.t2 k:=by
  have e:(b*b-a*a)*Ex.t2 k=(b-a)*Ex.t2 k*(b+a):=by grind
  rw[e]
  exact Rat.le_trans m3 (Rat.le_trans m1 (Rat.le_trans k2 m2))
 have:=le_by T fin
 grind
end Go.Proofs.YtenjdajophfpcaaGreat
namespace Go.Proofs.YtenjdajophfpcaaGreat
open Go.Ev
def LoI (n:Nat) (x l:Rat):Prop := ∃lo hi:Rat,0<=lo/\lo<=hi/\lo*lo<=x/\x<=hi*hi /\ ∀s,lo<=s->s<=hi -> ∃L0,∀L,L0<=L->l<=igV n s x L
def HiI (n:Nat) (x h:Rat):Prop := ∃lo hi:Rat,0<=lo/\lo<=hi/\lo*lo<=x/\x<=hi*hi /\ ∀s,lo<=s->s<=hi -> ∃L0,∀L,L0<=L->igV n s x L<=h
theorem pos_splitG {g C:Rat} (hg:0<g) (hC:0<C) : ∃e d:Rat,0<e/\0<d/\e+C*d+C*d<g:=by
 have e4:g/4*4=g:=Rat.div_mul_cancel (by decide)
 have i4:0<g/4:=by rw[Rat.div_def];exact Rat.mul_pos hg (by decide +kernel)
 have dC:g/4/C*C=g/4:=Rat.div_mul_cancel (by grind)
 have iC:0<g/4/C:=by rw[Rat.div_def (g/4)];exact Rat.mul_pos i4 (Rat.inv_pos.2 hC)
 refine⟨g/4,g/4/C,i4,iC,?_⟩
 generalize g/4/C=d at *
 generalize g/4=e at *
 grind
theorem min8G {x lo hi:Rat} (l0:0<=lo) (lh:lo<=hi) (l1:lo*lo<=x) (l2:x<=hi*hi) (h64:x<=64) : ∃h:Rat,lo<=h/\h<=hi/\h<=8/\x<=h*h:=by
 have lo8:lo<=8:=sq_mono l0 (by decide) (Rat.le_trans l1 (Rat.le_trans h64 (by decide +kernel)))
 rcases Rat.le_total (a:=hi) (b:=8) with g|g
 ·exact⟨hi,lh,Rat.le_refl,g,l2⟩
 ·exact⟨8,lo8,g,Rat.le_refl,Rat.le_trans h64 (by decide +kernel)⟩
theorem igI_rises {n:Nat} (hn:1<=n) {x y l h:Rat} (h0:0<=x) (hxy:x<y) (h64:y<=64) (A:LoI n x l) (B:HiI n y h):l<=h:=by
 obtain⟨lo1,hi1,l0,lh,l1,l2,en1⟩:=A
 obtain⟨lo2,hi2,k0,kh,k1,k2,en2⟩:=B
 refine Rat.not_lt.1 fun gap => ?_
 obtain⟨C,hC⟩ : ∃C:Rat,C=32*Ex.t2 102:=⟨_,rfl⟩
 have Cp:0<C:=by have:=Ex.t2_pos 102;clear en1 en2;grind
 obtain⟨e,dl,e0,d0,sum⟩:=pos_splitG (show 0<l-h by clear en1 en2;grind) Cp
 rcases Nat.mod_two_eq_zero_or_one n with hp|hp
 ·obtain⟨Ne,ev⟩:=even_rises hp e0
  obtain⟨L1,g1⟩:=en1 lo1 Rat.le_refl lh
  obtain⟨L2,g2⟩:=en2 lo2 Rat.le_refl kh
  have a1:=g1 (L1+L2+Ne) (by omega)
  have a2:=g2 (L1+L2+Ne) (by omega)
  have a3:=ev (L1+L2+Ne) (by omega) x y lo1 lo2 h0 (Rat.le_of_lt hxy) h64
  have c0:=Rat.mul_nonneg (Rat.le_of_lt Cp) (Rat.le_of_lt d0)
  clear en1 en2 g1 g2 ev
  grind
 ·obtain⟨Nc,core⟩:=igV_rises hn e0
  obtain⟨h',m1,m2,m3,m4⟩:=min8G l0 lh l1 l2 (show x<=64 by grind)
  obtain⟨s,s2,q1,q2,q3,q4,q5,q6⟩:=root_near l0 m1 l1 m4 d0
  obtain⟨h2,n1,n2,n3,n4⟩:=min8G k0 kh k1 k2 h64
  obtain⟨t2,t,p1,p2,p3,p4,p5,p6⟩:=root_near k0 n1 k1 n4 d0
  have s0:0<=s:=Rat.le_trans l0 q1
  have s8:s<=8:=Rat.le_trans q2 (Rat.le_trans q3 m3)
  have t0:0<=t:=Rat.le_trans k0 (Rat.le_trans p1 p2)
  have t8:t<=8:=Rat.le_trans p3 n3
  have tt:t*t<=64:=(sq_bd t0 t8).2
  have st:s<=t:=sq_mono s0 t0 (Rat.le_trans q4 (Rat.le_trans (Rat.le_of_lt hxy) p5))
  obtain⟨L1,g1⟩:=en1 s q1 (Rat.le_trans q2 (Rat.le_trans q3 m2))
  obtain⟨L2,g2⟩:=en2 t (Rat.le_trans p1 p2) (Rat.le_trans p3 n2)
  have a1:=g1 (L1+L2+Nc+1) (by omega)
  have a2:=odd_lip (n:=n) (x:=s*s) (y:=x) (s:=s) (L:=L1+L2+Nc+1) hp (Rat.mul_nonneg s0 s0) q4 (by grind) s0 s8 (by omega)
  have a3:=core (L1+L2+Nc+1) (by omega) s t s0 st t8
  have a4:=odd_lip (n:=n) (x:=y) (y:=t*t) (s:=t) (L:=L1+L2+Nc+1) hp (by grind) p5 tt t0 t8 (by omega)
  have a5:=g2 (L1+L2+Nc+1) (by omega)
  have a6:=Rat.mul_le_mul_of_nonneg_left (show x-s*s<=dl by clear en1 en2 g1 g2 core;grind) (Rat.le_of_lt Cp)
  have a7:=Rat.mul_le_mul_of_nonneg_left (show t*t-y<=dl by clear en1 en2 g1 g2 core;grind) (Rat.le_of_lt Cp)
  rw[<- hC]at a2 a4
  generalize igV n s x (L1+L2+Nc+1)=V1 at *
  generalize igV n s (s*s) (L1+L2+Nc+1)=V2 at *
  generalize igV n t (t*t) (L1+L2+Nc+1)=V3 at *
  generalize igV n t y (L1+L2+Nc+1)=V4 at *
  clear en1 en2 g1 g2 core
  grind
end Go.Proofs.YtenjdajophfpcaaGreat
namespace Go.Proofs.YtenjdajophfpcaaGreat
open Go.Ev
theorem rat_parts {a:Rat} (z:szR a 2) (h:0<a) : ∃N D:Nat,0<N/\0<D/\N<18446744073709551616/\D<18446744073709551616/\a*(D:Rat)=(N:Rat):=by
 have dR:(0:Rat)<(a.den:Rat):=by exact_mod_cast a.den_pos
 have e:a*(a.den:Rat)=((a.num.natAbs:Nat):Rat):=by rw[Ex.denR a,<- castZn,num_abs (Rat.le_of_lt h)]
 have bd : ∀ {x:Nat},(lim x).length<=2->x<18446744073709551616:=by
  intro x hx
  have a:x<4294967296^(lim x).length:=lim_len_pow
  have b:4294967296^(lim x).length<=4294967296^2:=Nat.pow_le_pow_right (by omega) hx
  omega
 refine⟨a.num.natAbs,a.den,?_,a.den_pos,bd z.1,bd z.2,e⟩
 refine Nat.pos_of_ne_zero fun g => ?_
 rw[g]at e
 have:=Rat.mul_pos h dR
 rw[e]at this
 exact absurd this (by decide)
def LoG (n:Nat) (r:Rat):Tells:=fun x l=>(x<=0/\l=0)\/(0<x/\LoI n (r*x) l)
def HiG (n:Nat) (r:Rat):Tells:=fun x h=>(x<=0/\h=0)\/(0<x/\HiI n (r*x) h)
section
variable {n:Nat} {k kn km:Int} {sa sb:Bool} {na da nb db:List Nat} {a b r:Rat} {x y l h:Rat} {v:SV} {L:Nat} {p:Int}
theorem rise_G (hn:1<=n) (r0:0<r) (hy:r*y<=64) (hxy:x<y) (l0:0<l) (A:LoG n r x l) (B:HiG n r y h):l<=h:=by
 rcases A with⟨-,e⟩|⟨x0,A⟩
 ·grind
 ·rcases B with⟨e,-⟩|⟨y0,B⟩
  ·grind
  ·exact igI_rises hn (Rat.le_of_lt (Rat.mul_pos r0 x0)) (Rat.mul_lt_mul_of_pos_left hxy r0) hy A B
theorem chance_gamma (hA:RatA (ratV sa na da) a 2) (zx:szR x 20) (x0:0<x) (f:Go.Ev.Fn CX 107 [.int .i64 kn,rv (a*x),.int .i64 p] (.tup [ballR l h,.bool true])) :
  Go.Ev.Fn CX 138 [distV 3 kn km sa na da sb nb db,rv x,.int .i64 p] (.tup [ballR l h,.bool true]):=by
 have hx:=RatA_rv zx
 have bl:=dist_below hx (by omega) (by omega) 0 (by omega)
 have ab:=dist_above hx (by omega) (by omega) 0 (by omega)
 rw[show ((0:Int):Rat)=0 from rfl]at bl ab
 rw[decide_eq_false (by grind)]at bl
 rw[decide_eq_true x0]at ab
 have mu:=rat_Mul hA hx (by omega) (by omega) (by omega)
 generalize a*x=y at *
 clear hA hx x0
 refine fni Tryz.f138 ?_;unfold Tryz.f138;simp only[Option.get!_some]
 repeat (first|simp only[go_sem,Bool.not_true]|simp (disch:=first|exact omg|fail) only[AX,Bool.not_true]|refine wki ?_|refine vpd 3 [] ?_|refine vpd 11 [] ?_|refine vpd 13 [] ?_|refine vpd 15 [] ?_|refine vpd 17 [] ?_|refine vpd 18 [] ?_|refine vpd 24 [] ?_|refine vpd 26 [] ?_|refine vf_of (by first|exact bl|exact ab|exact mu|exact f) ?_)
theorem chance_chi (zx:szR x 20) (x0:0<x) (f:Go.Ev.Fn CX 107 [.int .i64 kn,rv (x/2),.int .i64 p] (.tup [ballR l h,.bool true])) :
  Go.Ev.Fn CX 138 [distV 4 kn km sa na da sb nb db,rv x,.int .i64 p] (.tup [ballR l h,.bool true]):=by
 have hx:=RatA_rv zx
 have bl:=dist_below hx (by omega) (by omega) 0 (by omega)
 have ab:=dist_above hx (by omega) (by omega) 0 (by omega)
 rw[show ((0:Int):Rat)=0 from rfl]at bl ab
 rw[decide_eq_false (by grind)]at bl
 rw[decide_eq_true x0]at ab
 have i:=rat_Int 2 (by omega)
 have ov:=dist_over hx (RatA_rv (int_szR (n:=2) (by omega))) (by omega) (by omega) (by omega)
 rw[show ((2:Int):Rat)=2 from rfl]at i ov
 generalize x/2=y at *
 clear hx x0
 refine fni Tryz.f138 ?_;unfold Tryz.f138;simp only[Option.get!_some]
 repeat (first|simp only[go_sem,Bool.not_true]|simp (disch:=first|exact omg|fail) only[AX,Bool.not_true]|refine wki ?_|refine vpd 3 [] ?_|refine vpd 11 [] ?_|refine vpd 13 [] ?_|refine vpd 15 [] ?_|refine vpd 17 [] ?_|refine vpd 18 [] ?_|refine vpd 24 [] ?_|refine vpd 26 [] ?_|refine vf_of (by first|exact bl|exact ab|exact i|exact ov|exact f) ?_)
theorem incg_D {Q:Nat} (zy:szR y 7) (hn:1<=n/\n<=16) (hQ:Q=32\/Q=64\/Q=128\/Q=200) (y0:0<y) (y1:y<=64) :
  ∃l h:Rat,Go.Ev.Fn CX 107 [.int .i64 (n:Int),rv y,.int .i64 (Q:Int)] (.tup [ballR l h,.bool true])/\szR l 500/\szR h 500/\(h-l)*p2 Q<=1/\LoI n y l/\HiI n y h:=by
 obtain⟨l,h,lo,hi,f,le,z1,z2,w,l0,lh,l1,l2,en⟩:=incg_P (n:=n) (pI:=(Q:Int)) (P:=Q) (RatA_rv zy) y0 y1 hn.1 (by omega) (.inr rfl) (by omega)
 refine⟨l,h,f,szR_mono z1 (by omega),szR_mono z2 (by omega),w,⟨lo,hi,l0,lh,l1,l2,fun s q1 q2 => ?_⟩,⟨lo,hi,l0,lh,l1,l2,fun s q1 q2 => ?_⟩⟩
 ·obtain⟨L0,g⟩:=en s q1 q2
  exact⟨L0,fun L hL=>(g L hL).1⟩
 ·obtain⟨L0,g⟩:=en s q1 q2
  exact⟨L0,fun L hL=>(g L hL).2⟩
theorem rate_sz {N D J:Nat} (N0:0<N) (D0:0<D) (D2:D<18446744073709551616) (e:a*(D:Rat)=(N:Rat)) (hJ:J<=140) (h:Dz 0 N J x) (h0:0<=a*x) (h1:a*x<=64):szR (a*x) 7:=by
 obtain⟨Z,hz⟩:=h
 have hp:2^J<=2^140:=Nat.pow_le_pow_right (by omega) hJ
 have hm:D*2^J<=18446744073709551616*2^140:=Nat.mul_le_mul (by omega) hp
 refine frac_sz (Z:=Z) (D:=D*2^J) (B:=64) ?_ (Nat.mul_pos D0 (Nat.pow_pos (by omega))) ⟨by grind,h1⟩ (by omega) (by omega)
 rw[show ((D*2^J:Nat):Rat)=(D:Rat)*p2 J by exact_mod_cast rfl,<- hz,<- e]
 generalize p2 J=P
 grind
theorem rate_ends (a0:0<a) (hw : ¬a<mkRat 1 (2^20)):64/a<=0+134217728/\0<64/a/\a*(64/a)=64:=by
 have e:a*(64/a)=64:=Ex.mul_div _ 64 (by grind)
 have c:mkRat 1 (2^20)*1048576=1:=by decide +kernel
 generalize 64/a=u at *
 generalize mkRat 1 (2^20)=t at *
 have u0:0<u:=by
  refine Rat.not_le.1 fun g => ?_
  have:=Rat.mul_le_mul_of_nonneg_left g (Rat.le_of_lt a0)
  grind
 have:=Rat.mul_le_mul_of_nonneg_right (show t<=a by grind) (Rat.le_of_lt u0)
 have k:t*u*1048576=u:=by grind
 exact⟨by grind,u0,e⟩
theorem rate_dz {N D:Nat} (e:a*(D:Rat)=(N:Rat)) (g:a*(64/a)=64) (a0:0<a):Dz 0 N 22 (64/a):=by
 refine⟨((64*D*2^22:Nat):Int),?_⟩
 rw[<- e,Rat.intCast_natCast,show ((64*D*2^22:Nat):Rat)=64*(D:Rat)*p2 22 by exact_mod_cast rfl]
 generalize 64/a=u at *
 generalize p2 22=P
 grind
theorem fam_gamma (hA:RatA (ratV sa na da) a 2) (hB:RatA (ratV sb nb db) b 2) (hc:chkD 3 (n:Int) km a b=0) (hw:wideD 3 a b=false) (a0:0<a) (hn:1<=n/\n<=16) :
  ∃W,Fam (p2 200) (distV 3 (n:Int) km sa na da sb nb db) (LoG n a) (HiG n a) 0 W 0 (64/a):=by
 obtain⟨N,D,N0,D0,N1,D1,e⟩:=rat_parts (szR_of hA (by omega)) a0
 have hw' : ¬a<mkRat 1 (2^20):=of_decide_eq_false hw
 obtain⟨g1,g2,g3⟩:=rate_ends a0 hw'
 refine⟨N,fam_mk hA hB hc ⟨by omega,by omega⟩ hw (st_rate (.inr rfl) hA) N0 N1 (szR_zero (by omega)) Rat.le_refl g1 g2 ⟨0,by rw[Rat.sub_self,Rat.zero_mul];rfl⟩ (rate_dz e g3 a0) ?_⟩
 rintro x ⟨J,hJ,hx⟩ zx x0 x1 Q hQ
 by_cases ex:x=0
 ·subst ex
  exact⟨0,0,chance_zero (by omega),szR_zero (by omega),szR_zero (by omega),by rw[Rat.sub_self,Rat.zero_mul];decide,.inl ⟨Rat.le_refl,rfl⟩,.inl ⟨Rat.le_refl,rfl⟩⟩
 have y0:0<x:=by grind
 have ax:=Rat.mul_pos a0 y0
 have ax1:=Rat.mul_le_mul_of_nonneg_left x1 (Rat.le_of_lt a0)
 rw[g3]at ax1
 obtain⟨l,h,f,z1,z2,w,A,B⟩:=incg_D (Q:=Q) (rate_sz N0 D0 D1 e hJ hx (Rat.le_of_lt ax) ax1) hn hQ ax ax1
 exact⟨l,h,chance_gamma hA zx y0 f,z1,z2,w,.inr ⟨y0,A⟩,.inr ⟨y0,B⟩⟩
theorem fam_chi (hA:RatA (ratV sa na da) a 2) (hB:RatA (ratV sb nb db) b 2) (hc:chkD 4 (n:Int) km a b=0) (hn:1<=n/\n<=16) :
  Fam (p2 200) (distV 4 (n:Int) km sa na da sb nb db) (LoG n (1/2)) (HiG n (1/2)) 0 1 0 128:=by
 refine fam_mk hA hB hc ⟨by omega,by omega⟩ rfl (st_fixed (lo:=0) (hi:=128) (by omega)) (by omega) (by omega) (szR_zero (by omega)) Rat.le_refl (by decide +kernel) (by decide +kernel) ⟨0,by decide +kernel⟩ ⟨536870912,by decide +kernel⟩ ?_
 rintro x ⟨J,hJ,hx⟩ zx x0 x1 Q hQ
 by_cases ex:x=0
 ·subst ex
  exact⟨0,0,chance_zero (by omega),szR_zero (by omega),szR_zero (by omega),by rw[Rat.sub_self,Rat.zero_mul];decide,.inl ⟨Rat.le_refl,rfl⟩,.inl ⟨Rat.le_refl,rfl⟩⟩
 have y0:0<x:=by grind
 have h2:(1/2:Rat)*((2:Nat):Rat)=((1:Nat):Rat):=by decide +kernel
 have ax:=Rat.mul_pos (show (0:Rat)<1/2 by decide +kernel) y0
 have ax1:1/2*x<=64:=by
  rw[show ((2:Nat):Rat)=2 from rfl,show ((1:Nat):Rat)=1 from rfl]at h2
  generalize (1/2:Rat)=c at *
  have k:c*x*2=x:=by grind
  grind
 obtain⟨l,h,f,z1,z2,w,A,B⟩:=incg_D (Q:=Q) (rate_sz (a:=1/2) (N:=1) (D:=2) (by omega) (by omega) (by omega) h2 hJ hx (Rat.le_of_lt ax) ax1) hn hQ ax ax1
 refine⟨l,h,chance_chi zx y0 ?_,z1,z2,w,.inr ⟨y0,A⟩,.inr ⟨y0,B⟩⟩
 have e:x/2=1/2*x:=by rw[Rat.div_def,Rat.div_def,Rat.one_mul,Rat.mul_comm]
 rw[e]
 exact f
end
end Go.Proofs.YtenjdajophfpcaaGreat
namespace Go.Proofs.YtenjdajophfpcaaGreat
open Go.Ev
section
variable {n m:Int} {sa sb:Bool} {na da nb db:List Nat} {a b:Rat} {x y z l h:Rat} {v:SV} {p:Int}
def LoE (a:Rat):Tells:=fun x l=>(x<=0/\l=0)\/(0<x /\ ∃s:Nat,∀L,s<=L->l<=1-evX (-(a*x)) L)
def HiE (a:Rat):Tells:=fun x h=>(x<=0/\h=0)\/(0<x /\ ∃s:Nat,∀L,s<=L->1-evX (-(a*x)) L<=h)
theorem evX_falls {u w:Rat} (h0:0<u) (h:u<=w) {L:Nat} (hL:1<=L):evX (-w) L<=evX (-u) L:=by
 unfold evX
 rw[if_pos (show -w<0 by grind),if_pos (show -u<0 by grind),Rat.neg_neg,Rat.neg_neg]
 have g:=E_monoX (Rat.le_of_lt h0) h L
 have o:=E_one (Rat.le_of_lt h0) hL
 have i1:Ex.E u L*(1/Ex.E u L)=1:=Ex.mul_div _ 1 (by grind)
 have i2:Ex.E w L*(1/Ex.E w L)=1:=Ex.mul_div _ 1 (by grind)
 refine Rat.not_lt.1 fun k => ?_
 have p1:0<=1/Ex.E u L:=Ex.div_nn (by decide) (by grind)
 have a1:=Rat.mul_lt_mul_of_pos_left k (show 0<Ex.E w L by grind)
 have a2:=Rat.mul_le_mul_of_nonneg_right g p1
 grind
theorem rise_E (a0:0<a) (hxy:x<=y) (l0:0<l) (A:LoE a x l) (B:HiE a y h):l<=h:=by
 rcases A with⟨-,e⟩|⟨x0,s,A⟩
 ·grind
 ·rcases B with⟨e,-⟩|⟨y0,t,B⟩
  ·grind
  ·have g:=evX_falls (Rat.mul_pos a0 x0) (Rat.mul_le_mul_of_nonneg_left hxy (Rat.le_of_lt a0)) (show 1<=s+t+1 by omega)
   have a1:=A (s+t+1) (by omega)
   have a2:=B (s+t+1) (by omega)
   generalize evX (-(a*x)) (s+t+1)=u at *
   generalize evX (-(a*y)) (s+t+1)=w at *
   clear A B
   grind
theorem exp_D {Q:Nat} (hz:szR z 7) (h0:0<z) (h1:z<=64) (hQ:Q<=200) : ∃l h:Rat,Go.Ev.Fn CX 163 [rv (-z),.int .i64 (Q:Int)] (.tup [ballR l h,.bool true])/\szR l 400/\szR h 400/\(h-l)*p2 Q<=1 /\ ∃s0,∀L,s0<=L->l<=evX (-z) L/\evX (-z) L<=h:=by
 have zn:=szR_neg hz
 obtain⟨m,lm,fn,s0,hs⟩:=exps_Exp (P:=Q) (pI:=(Q:Int)) (RatA_rv zn) (by omega) (by omega) (by grind) (by grind) (by grind) (den_le zn (by omega)) (by omega) (.inr rfl)
 have W:=p2_pos Q
 have hm:m<=2^Q:=by
  have e:=(hs (s0+1) (by omega)).1
  have k:=Rat.le_trans e (Rat.mul_le_mul_of_nonneg_right (ev_le1 (z := -z) (by grind) (show 1<=s0+1 by omega)).1 (Rat.le_of_lt W))
  rw[Rat.one_mul]at k
  exact_mod_cast k
 have lp:=lim_len_pw (n:=2^Q) (w:=Q+1) (by rw[Nat.pow_succ];have:0<2^Q:=Nat.pow_pos (by omega);omega)
 have lm2:=lim_len_pw (n:=m+1) (w:=Q+2) (by rw[Nat.pow_add];have:0<2^Q:=Nat.pow_pos (by omega);omega)
 have lm1:(lim m).length<=(lim (m+1)).length:=lim_len_mono (Nat.le_succ m)
 refine⟨_,_,fn,szR_nat (by omega) (by omega) (by omega),szR_nat (by omega) (by omega) (by omega),?_,s0,fun L hL => ?_⟩
 ·have c:((m+1:Nat):Rat)=(m:Rat)+1:=by exact_mod_cast rfl
  have e : ∀u v w:Rat,(u-v)*w=u*w-v*w:=by intro u v w;grind
  rw[e,mk_p2,mk_p2,c]
  grind
 ·obtain⟨g1,g2⟩:=hs L hL
  constructor
  ·refine le_by W ?_
   rw[mk_p2];exact g1
  ·refine le_by W ?_
   rw[mk_p2];exact g2
theorem fam_expo (hA:RatA (ratV sa na da) a 2) (hB:RatA (ratV sb nb db) b 2) (hc:chkD 2 n m a b=0) (hw:wideD 2 a b=false) (a0:0<a) :
  ∃W,Fam (p2 200) (distV 2 n m sa na da sb nb db) (LoE a) (HiE a) 0 W 0 (64/a):=by
 obtain⟨N,D,N0,D0,N1,D1,e⟩:=rat_parts (szR_of hA (by omega)) a0
 have hw' : ¬a<mkRat 1 (2^20):=of_decide_eq_false hw
 obtain⟨g1,g2,g3⟩:=rate_ends a0 hw'
 refine⟨N,fam_mk hA hB hc ⟨by omega,by omega⟩ hw (st_rate (.inl rfl) hA) N0 N1 (szR_zero (by omega)) Rat.le_refl g1 g2 ⟨0,by rw[Rat.sub_self,Rat.zero_mul];rfl⟩ (rate_dz e g3 a0) ?_⟩
 rintro x ⟨J,hJ,hx⟩ zx x0 x1 Q hQ
 by_cases ex:x=0
 ·subst ex
  exact⟨0,0,chance_zero (by omega),szR_zero (by omega),szR_zero (by omega),by rw[Rat.sub_self,Rat.zero_mul];decide,.inl ⟨Rat.le_refl,rfl⟩,.inl ⟨Rat.le_refl,rfl⟩⟩
 have y0:0<x:=by grind
 have ax:=Rat.mul_pos a0 y0
 have ax1:=Rat.mul_le_mul_of_nonneg_left x1 (Rat.le_of_lt a0)
 rw[g3]at ax1
 obtain⟨l,h,f,z1,z2,w,s,en⟩:=exp_D (Q:=Q) (rate_sz N0 D0 D1 e hJ hx (Rat.le_of_lt ax) ax1) ax ax1 (by omega)
 refine⟨1-h,1-l,chance_expo hA (by omega) (by omega) (RatA_rv zx) (by omega) (by omega) y0 z1 z2 f,szR_mono (szR_sub unit_len z2 (by omega)) (by omega),szR_mono (szR_sub unit_len z1 (by omega)) (by omega),?_,.inr ⟨y0,s,fun L hL => ?_⟩,.inr ⟨y0,s,fun L hL => ?_⟩⟩
 ·rw[show 1-l-(1-h)=h-l by grind];exact w
 ·have:=(en L hL).2
  grind
 ·have:=(en L hL).1
  grind
theorem phi_D {Q:Nat} (hz:szR z 7) (h1 : -8<=z) (h8:z<=8) (hQ:Q=32\/Q=64\/Q=128\/Q=200) :
  ∃l h:Rat,Go.Ev.Fn CX 207 [rv z,.int .i64 (Q:Int)] (.tup [ballR l h,.bool true])/\szR l 500/\szR h 500/\(h-l)*p2 Q<=1/\LoN z l/\HiN z h:=by
 by_cases e:z=0
 ·subst e
  refine⟨1/2,1/2,bell_Phi0 (RatA_rv (szR_zero (by omega))),szR_mono hlf_len (by omega),szR_mono hlf_len (by omega),?_,.inl ⟨rfl,rfl⟩,.inl ⟨rfl,rfl⟩⟩
  rw[Rat.sub_self,Rat.zero_mul]
  decide
 rcases Rat.le_total (a:=0) (b:=z) with g|g
 ·obtain⟨l,h,r1,r2,t1,t2,t3,w,k1,k2,k3,k4,kk,f1,f2⟩:=bell_PhiG (pI:=(Q:Int)) hz (by grind) h8 (.inr rfl) (by omega)
  have R:RtP r1 r2:=⟨k1,k2,k3,k4⟩
  refine⟨_,_,f1 _ (RatA_rv hz),szR_mono (szR_add hlf_len t2 (by omega)) (by omega),szR_mono (szR_add hlf_len t3 (by omega)) (by omega),?_,.inr (.inl ⟨by grind,r1,r2,R,?_⟩),.inr (.inl ⟨by grind,r1,r2,R,?_⟩)⟩
  ·generalize (1/2:Rat)=c
   rw[show c+h-(c+l)=h-l by grind]
   exact w
  ·intro r i1 i2
   obtain⟨s,hs⟩:=kk r i1 i2
   refine⟨s,fun L hL => ?_⟩
   have:=(hs L hL).1
   generalize (1/2:Rat)=c
   grind
  ·intro r i1 i2
   obtain⟨s,hs⟩:=kk r i1 i2
   refine⟨s,fun L hL => ?_⟩
   have:=(hs L hL).2
   generalize (1/2:Rat)=c
   grind
 ·have zn:=szR_neg hz
  obtain⟨l,h,r1,r2,t1,t2,t3,w,k1,k2,k3,k4,kk,f1,f2⟩:=bell_PhiG (z := -z) (pI:=(Q:Int)) zn (by grind) (by grind) (.inr rfl) (by omega)
  have hv':RatA (rv z) (- -z) 7:=by rw[Rat.neg_neg];exact RatA_rv hz
  have R:RtP r1 r2:=⟨k1,k2,k3,k4⟩
  refine⟨_,_,f2 _ hv',szR_mono (szR_add hlf_len (szR_neg t3) (by omega)) (by omega),szR_mono (szR_add hlf_len (szR_neg t2) (by omega)) (by omega),?_,.inr (.inr ⟨by grind,r1,r2,R,?_⟩),.inr (.inr ⟨by grind,r1,r2,R,?_⟩)⟩
  ·generalize (1/2:Rat)=c
   rw[show c + -l-(c + -h)=h-l by grind]
   exact w
  ·intro r i1 i2
   obtain⟨s,hs⟩:=kk r i1 i2
   refine⟨s,fun L hL => ?_⟩
   have:=(hs L hL).2
   generalize (1/2:Rat)=c
   grind
  ·intro r i1 i2
   obtain⟨s,hs⟩:=kk r i1 i2
   refine⟨s,fun L hL => ?_⟩
   have:=(hs L hL).1
   generalize (1/2:Rat)=c
   grind
def LoW (a b:Rat):Tells:=fun x l=>LoN ((x-a)/b) l
def HiW (a b:Rat):Tells:=fun x h=>HiN ((x-a)/b) h
theorem div_ends (b0:0<b) (h1:a-8*b<=x) (h2:x<=a+8*b) : -8<=(x-a)/b/\(x-a)/b<=8/\(x-a)/b*b=x-a:=by
 have e:(x-a)/b*b=x-a:=Rat.div_mul_cancel (by grind)
 generalize (x-a)/b=z at *
 refine⟨?_,?_,e⟩
 ·refine le_by b0 ?_
  rw[e];grind
 ·refine le_by b0 ?_
  rw[e];grind
theorem rise_W (b0:0<b) (h1:a-8*b<=x) (h2:y<=a+8*b) (hxy:x<=y) (A:LoW a b x l) (B:HiW a b y h):l<=h:=by
 obtain⟨g1,-,e1⟩:=div_ends (x:=x) b0 h1 (by grind)
 obtain⟨-,g2,e2⟩:=div_ends (x:=y) b0 (by grind) h2
 unfold LoW at A
 unfold HiW at B
 generalize (x-a)/b=u at *
 generalize (y-a)/b=w at *
 have uw:u<=w:=le_by b0 (by rw[e1,e2];grind)
 have s:=share_grows g1 uw g2 A B
 have G0:(0:Rat)<2*gG:=by decide +kernel
 generalize 2*gG=G at *
 refine Rat.not_lt.1 fun k => ?_
 have:=Rat.mul_lt_mul_of_pos_right (show 0<l-h by grind) G0
 grind
theorem fam_normal (hA:RatA (ratV sa na da) a 2) (hB:RatA (ratV sb nb db) b 2) (hc:chkD 1 n m a b=0) (hw:wideD 1 a b=false) (b0:0<b) :
  ∃W,Fam (p2 200) (distV 1 n m sa na da sb nb db) (LoW a b) (HiW a b) (a-8*b) W (a-8*b) (a+8*b):=by
 obtain⟨N,D,N0,D0,N1,D1,e⟩:=rat_parts (szR_of hB (by omega)) b0
 have hw' : ¬1048576<b:=of_decide_eq_false hw
 have z8:szR 8 1:=⟨lim_len_lt (by decide +kernel),lim_len_lt (by decide +kernel)⟩
 refine⟨D,fam_mk hA hB hc ⟨by omega,by omega⟩ hw (st_normal hA hB) D0 D1 (szR_mono (szR_sub (szR_of hA (by omega)) (szR_mul z8 (szR_of hB (by omega)) (by omega)) (by omega)) (by omega)) Rat.le_refl (by grind) (by grind) ⟨0,by rw[Rat.sub_self,Rat.zero_mul];rfl⟩ ?_ ?_⟩
 ·refine⟨((16*N*2^22:Nat):Int),?_⟩
  rw[Rat.intCast_natCast,show ((16*N*2^22:Nat):Rat)=16*(N:Rat)*p2 22 by exact_mod_cast rfl,<- e]
  generalize p2 22=P
  grind
 rintro x ⟨J,hJ,Z,hZ⟩ zx x0 x1 Q hQ
 obtain⟨g1,g2,g3⟩:=div_ends b0 x0 x1
 have hz:szR ((x-a)/b) 7:=by
  have hp:2^J<=2^140:=Nat.pow_le_pow_right (by omega) hJ
  have hm:N*2^J<=18446744073709551616*2^140:=Nat.mul_le_mul (by omega) hp
  refine frac_sz (Z:=Z-((8*(N*2^J):Nat):Int)) (D:=N*2^J) (B:=8) ?_ (Nat.mul_pos N0 (Nat.pow_pos (by omega))) ⟨by grind,g2⟩ (by omega) (by omega)
  rw[Rat.intCast_sub,Rat.intCast_natCast,<- hZ,show ((8*(N*2^J):Nat):Rat)=8*((N:Rat)*p2 J) by exact_mod_cast rfl,show ((N*2^J:Nat):Rat)=(N:Rat)*p2 J by exact_mod_cast rfl,<- e]
  generalize (x-a)/b=z at *
  generalize p2 J=P
  grind
 obtain⟨l,h,f,z1,z2,w,A,B⟩:=phi_D (Q:=Q) hz g1 g2 hQ
 exact⟨l,h,chance_normal hA hB (by omega) (by omega) (RatA_rv zx) (by omega) (by omega) f,z1,z2,w,A,B⟩
end
end Go.Proofs.YtenjdajophfpcaaGreat
namespace Go.Proofs.YtenjdajophfpcaaGreat
open Go.Ev
end Go.Proofs.YtenjdajophfpcaaGreat
namespace Go.Proofs.YtenjdajophfpcaaGreat
open Go.Ev
end Go.Proofs.YtenjdajophfpcaaGreat
namespace Go.Proofs.YtenjdajophfpcaaGreat
open Go.Ev
end Go.Proofs.YtenjdajophfpcaaGreat
namespace Go.Proofs.YtenjdajophfpcaaGreat
open Go.Ev
end Go.Proofs.YtenjdajophfpcaaGreat
namespace Go.Proofs.YtenjdajophfpcaaGreat
open Go.Ev
section
variable {k n m:Int} {sa sb sq:Bool} {na da nb db nq dq:List Nat} {a b q:Rat} {L:Nat}
end
end Go.Proofs.YtenjdajophfpcaaGreat
namespace Go.Proofs.YtenjdajophfpcaaGreat
open Go.Ev
theorem ts_dist:fieldTs Tryz.prog 26=[3,3,3,24,24]:=by kernel_rfl
theorem shp_dist {l:Nat} {ss:List SV} (h:ShpT Tryz.prog (l+4) 26 ss) : ∃k n m sa na da sb nb db,SV.agg ss=distV k n m sa na da sb nb db/\(Lit.int .i64 k).wf=true/\(Lit.int .i64 n).wf=true/\(Lit.int .i64 m).wf=true/\okL na/\okL da/\okL nb/\okL db:=by
 obtain⟨parts,rfl,hl,hp⟩:=shp_struct ts_dist (by simp) h
 obtain⟨a,b,c,d,e,rfl⟩:=len_five hl
 obtain⟨k,rfl,w0⟩:=shp_int (hp 0 _ a rfl rfl)
 obtain⟨n,rfl,w1⟩:=shp_int (hp 1 _ b rfl rfl)
 obtain⟨m,rfl,w2⟩:=shp_int (hp 2 _ c rfl rfl)
 obtain⟨sa,na,da,rfl,h1,h2,-,-⟩:=shp_rat (hp 3 _ d rfl rfl)
 obtain⟨sb,nb,db,rfl,h3,h4,-,-⟩:=shp_rat (hp 4 _ e rfl rfl)
 exact⟨k,n,m,sa,na,da,sb,nb,db,rfl,w0,w1,w2,h1,h2,h3,h4⟩
end Go.Proofs.YtenjdajophfpcaaGreat
namespace Go.Proofs.YtenjdajophfpcaaGreat
open Go.Ev
section
variable {k n m:Int} {sa sb sq:Bool} {na da nb db nq dq:List Nat} {a b q:Rat} {L:Nat}
end
theorem known15_fn:Go.Ev.Fn CX 10 [] (.bool true):=says_fn (n:=80) (by kernel_rfl)
section
variable {k n m:Int} {sa sb:Bool} {na da nb db:List Nat}
end
section
variable {N K:Nat} {sa sq:Bool} {na da nq dq:List Nat} {a q:Rat}
end
end Go.Proofs.YtenjdajophfpcaaGreat
namespace Go.Proofs.YtenjdajophfpcaaGreat
open Go.Ev
def fstD (k n m:Int) (a b q:Rat):Int:=if chkD k n m a b≠0 then chkD k n m a b else if cntD k n m a b then 1 else if q<=0\/1<=q then 4 else if wideD k a b then 7 else 0
section
variable {k n m:Int} {sa sb:Bool} {na da nb db:List Nat} {a b q:Rat} {x y l h:Rat} {v:SV} {p:Int}
theorem ref15_wild (hA:RatA (ratV sa na da) a 2) (hB:RatA (ratV sb nb db) b 2):Go.Ev.Fn CX 40 [distV k n m sa na da sb nb db] (.bool (wideD k a b)):=by
 have i:=ref2_Int 1048576 (by omega)
 have c:=ref2_Cmp hB (RatA_rv (int_szR (n:=1048576) (by omega))) (by omega) (by omega) (by omega)
 have e:decide (cmpR b ((1048576:Int):Rat)>0)=decide (1048576<b):=cmpR_gt
 have bt:=ref4_Bit (p:=20) (by omega)
 have c2:=ref2_Cmp hA (RatA_rv bit20_sz) (by omega) (by omega) (by omega)
 have e2:decide (cmpR a (mkRat 1 (2^20))<0)=decide (a<mkRat 1 (2^20)):=cmpR_lt
 generalize cmpR b ((1048576:Int):Rat)=y1 at *
 generalize hy:mkRat 1 (2^20)=y2 at *
 generalize cmpR a y2=y3 at *
 unfold wideD
 rw[hy]
 clear hA hB hy
 by_cases k1:k=1
 ·subst k1
  rw[if_pos rfl]
  refine fni Tryz.f40 ?_;unfold Tryz.f40;simp only[Option.get!_some]
  repeat (first|simp only[go_sem,e]|simp (disch:=first|exact omg|fail) only[AX,e]|refine wki ?_|refine vpd 3 [] ?_|refine vpd 6 [] ?_|refine vf_of (by first|exact i|exact c) ?_)
 by_cases k2:k=2
 ·subst k2
  rw[if_neg (by omega),if_pos (by omega)]
  refine fni Tryz.f40 ?_;unfold Tryz.f40;simp only[Option.get!_some]
  repeat (first|simp only[go_sem,e2]|simp (disch:=first|exact omg|fail) only[AX,e2]|refine wki ?_|refine vpd 3 [] ?_|refine vpd 6 [] ?_|refine vf_of (by first|exact bt|exact c2) ?_)
 by_cases k3:k=3
 ·subst k3
  rw[if_neg (by omega),if_pos (by omega)]
  refine fni Tryz.f40 ?_;unfold Tryz.f40;simp only[Option.get!_some]
  repeat (first|simp only[go_sem,e2]|simp (disch:=first|exact omg|fail) only[AX,e2]|refine wki ?_|refine vpd 3 [] ?_|refine vpd 6 [] ?_|refine vf_of (by first|exact bt|exact c2) ?_)
 rw[if_neg k1,if_neg (by omega)]
 refine fni Tryz.f40 ?_;unfold Tryz.f40;simp only[Option.get!_some]
 repeat (first|simp only[go_sem]|simp (disch:=first|exact omg|fail) only[AX]|refine wki ?_|refine vpd 3 [] ?_|refine vpd 6 [] ?_)
theorem ref15_First (hA:RatA (ratV sa na da) a 2) (hB:RatA (ratV sb nb db) b 2) (hq:RatA v q 1):Go.Ev.Fn CX 9 [distV k n m sa na da sb nb db,v] (.int .i64 (fstD k n m a b q)):=by
 have ck:=ref14_Check (k:=k) (n:=n) (m:=m) hA hB (by omega) (by omega)
 have ct:=ref14_Counts (k:=k) (n:=n) (m:=m) hA hB (by omega) (by omega)
 have iw:=ref15_wild (k:=k) (n:=n) (m:=m) hA hB
 have i0:=ref2_Int 0 (by omega)
 have i1:=ref2_Int 1 (by omega)
 have d0:=ref2_Cmp hq (RatA_rv (int_szR (n:=0) (by omega))) (by omega) (by omega) (by omega)
 have d1:=ref2_Cmp hq (RatA_rv (int_szR (n:=1) (by omega))) (by omega) (by omega) (by omega)
 have e0:=cmpR_le (q:=q) (r:=((0:Int):Rat))
 have e1:=cmpR_ge (q:=q) (r:=((1:Int):Rat))
 have k0:((0:Int):Rat)=0:=rfl
 have k1:((1:Int):Rat)=1:=rfl
 rw[k0]at i0 d0 e0
 rw[k1]at i1 d1 e1
 clear hA hB
 obtain⟨sq,nq,dq,rfl,-⟩:=hq
 unfold fstD
 generalize chkD k n m a b=c at *
 generalize cntD k n m a b=t at *
 generalize wideD k a b=w at *
 by_cases hc:c=0
 ·rw[if_neg (not_not_intro hc)]
  cases t
  ·by_cases g0:q<=0
   ·rw[if_neg (by decide),if_pos (.inl g0)]
    rw[decide_eq_true g0]at e0
    clear g0
    refine fni Tryz.f9 ?_;unfold Tryz.f9;simp only[Option.get!_some]
    repeat (first|simp only[go_sem,e0]|simp (disch:=first|exact omg|fail) only[AX,e0]|refine wki ?_|refine vpd 6 [] ?_|refine vf_of (by first|exact ck|exact ct|exact i0|exact d0) ?_)
   ·rw[decide_eq_false g0]at e0
    by_cases g1:1<=q
    ·rw[if_neg (by decide),if_pos (.inr g1)]
     rw[decide_eq_true g1]at e1
     clear g0 g1
     refine fni Tryz.f9 ?_;unfold Tryz.f9;simp only[Option.get!_some]
     repeat (first|simp only[go_sem,e0,e1]|simp (disch:=first|exact omg|fail) only[AX,e0,e1]|refine wki ?_|refine vpd 6 [] ?_|refine vf_of (by first|exact ck|exact ct|exact i0|exact d0|exact i1|exact d1) ?_)
    ·rw[if_neg (by decide),if_neg (fun o=>o.elim g0 g1)]
     rw[decide_eq_false g1]at e1
     clear g0 g1
     cases w
     ·refine fni Tryz.f9 ?_;unfold Tryz.f9;simp only[Option.get!_some]
      repeat (first|simp only[go_sem,e0,e1]|simp (disch:=first|exact omg|fail) only[AX,e0,e1]|refine wki ?_|refine vpd 6 [] ?_|refine vf_of (by first|exact ck|exact ct|exact i0|exact d0|exact i1|exact d1|exact iw) ?_)
     ·refine fni Tryz.f9 ?_;unfold Tryz.f9;simp only[Option.get!_some]
      repeat (first|simp only[go_sem,e0,e1]|simp (disch:=first|exact omg|fail) only[AX,e0,e1]|refine wki ?_|refine vpd 6 [] ?_|refine vf_of (by first|exact ck|exact ct|exact i0|exact d0|exact i1|exact d1|exact iw) ?_)
  ·refine fni Tryz.f9 ?_;unfold Tryz.f9;simp only[Option.get!_some]
   repeat (first|simp only[go_sem]|simp (disch:=first|exact omg|fail) only[AX]|refine wki ?_|refine vpd 6 [] ?_|refine vf_of (by first|exact ck|exact ct) ?_)
 ·rw[if_pos hc]
  refine fni Tryz.f9 ?_;unfold Tryz.f9;simp only[Option.get!_some]
  repeat (first|simp only[go_sem]|simp (disch:=first|exact omg|fail) only[AX]|refine wki ?_|refine vpd 6 [] ?_|refine vf_of (by first|exact ck) ?_)
theorem of_err (hA:RatA (ratV sa na da) a 2) (hB:RatA (ratV sb nb db) b 2) (hq:RatA v q 1) (h:fstD k n m a b q≠0):Go.Ev.Fn CX 8 [distV k n m sa na da sb nb db,v,.int .i64 p] (.tup [noB,.int .i64 (fstD k n m a b q)]):=by
 have ck:=dist_Check (k:=k) (n:=n) (m:=m) hA hB (by omega) (by omega)
 have ct:=dist_Counts (k:=k) (n:=n) (m:=m) hA hB (by omega) (by omega)
 have iw:=quant_isWide (k:=k) (n:=n) (m:=m) hA hB
 have i0:=rat_Int 0 (by omega)
 have i1:=rat_Int 1 (by omega)
 have d0:=rat_Cmp hq (RatA_rv (int_szR (n:=0) (by omega))) (by omega) (by omega) (by omega)
 have d1:=rat_Cmp hq (RatA_rv (int_szR (n:=1) (by omega))) (by omega) (by omega) (by omega)
 have e0:=cmpR_le (q:=q) (r:=((0:Int):Rat))
 have e1:=cmpR_ge (q:=q) (r:=((1:Int):Rat))
 have k0:((0:Int):Rat)=0:=rfl
 have k1:((1:Int):Rat)=1:=rfl
 rw[k0]at i0 d0 e0
 rw[k1]at i1 d1 e1
 clear hA hB
 obtain⟨sq,nq,dq,rfl,-⟩:=hq
 unfold fstD at h ⊢
 generalize chkD k n m a b=c at *
 generalize cntD k n m a b=t at *
 generalize wideD k a b=w at *
 by_cases hc:c=0
 ·rw[if_neg (not_not_intro hc)]at h ⊢
  cases t
  ·by_cases g0:q<=0
   ·rw[if_neg (by decide),if_pos (.inl g0)]
    rw[decide_eq_true g0]at e0
    clear g0 h
    refine fni Tryz.f8 ?_;unfold Tryz.f8;simp only[Option.get!_some]
    repeat (first|simp only[go_sem,e0]|simp (disch:=first|exact omg|fail) only[AX,e0]|refine wki ?_|refine vpd 6 [] ?_|refine vpd 11 [] ?_|refine vpd 14 [] ?_|refine vf_of (by first|exact ck|exact ct|exact i0|exact d0) ?_)
   ·rw[decide_eq_false g0]at e0
    by_cases g1:1<=q
    ·rw[if_neg (by decide),if_pos (.inr g1)]
     rw[decide_eq_true g1]at e1
     clear g0 g1 h
     refine fni Tryz.f8 ?_;unfold Tryz.f8;simp only[Option.get!_some]
     repeat (first|simp only[go_sem,e0,e1]|simp (disch:=first|exact omg|fail) only[AX,e0,e1]|refine wki ?_|refine vpd 6 [] ?_|refine vpd 11 [] ?_|refine vpd 14 [] ?_|refine vf_of (by first|exact ck|exact ct|exact i0|exact d0|exact i1|exact d1) ?_)
    ·rw[if_neg (by decide),if_neg (fun o=>o.elim g0 g1)]at h ⊢
     rw[decide_eq_false g1]at e1
     clear g0 g1
     cases w
     ·exact absurd rfl h
     ·clear h
      refine fni Tryz.f8 ?_;unfold Tryz.f8;simp only[Option.get!_some]
      repeat (first|simp only[go_sem,e0,e1]|simp (disch:=first|exact omg|fail) only[AX,e0,e1]|refine wki ?_|refine vpd 6 [] ?_|refine vpd 11 [] ?_|refine vpd 14 [] ?_|refine vf_of (by first|exact ck|exact ct|exact i0|exact d0|exact i1|exact d1|exact iw) ?_)
  ·clear h
   refine fni Tryz.f8 ?_;unfold Tryz.f8;simp only[Option.get!_some]
   repeat (first|simp only[go_sem]|simp (disch:=first|exact omg|fail) only[AX]|refine wki ?_|refine vpd 6 [] ?_|refine vpd 11 [] ?_|refine vpd 14 [] ?_|refine vf_of (by first|exact ck|exact ct) ?_)
 ·rw[if_pos hc]
  clear h
  refine fni Tryz.f8 ?_;unfold Tryz.f8;simp only[Option.get!_some]
  repeat (first|simp only[go_sem]|simp (disch:=first|exact omg|fail) only[AX]|refine wki ?_|refine vpd 6 [] ?_|refine vpd 11 [] ?_|refine vpd 14 [] ?_|refine vf_of (by first|exact ck) ?_)
theorem fst_zero (h:fstD k n m a b q=0):chkD k n m a b=0/\cntD k n m a b=false/\0<q/\q<1/\wideD k a b=false:=by
 unfold fstD at h
 by_cases h1:chkD k n m a b=0
 ·rw[if_neg (not_not_intro h1)]at h
  cases h2:cntD k n m a b
  ·rw[h2,if_neg (by decide)]at h
   by_cases h3:q<=0\/1<=q
   ·rw[if_pos h3]at h;omega
   ·rw[if_neg h3]at h
    cases h4:wideD k a b
    ·exact⟨h1,rfl,by grind,by grind,rfl⟩
    ·rw[h4]at h;exact absurd h (by decide)
  ·rw[h2,if_pos rfl]at h;omega
 ·rw[if_pos h1]at h;exact absurd h h1
def Rise (Lo Hi:Tells) (lo0 hi0:Rat):Prop := ∀x y l h,lo0<=x->x<y->y<=hi0->0<l->h<1->Lo x l->Hi y h->l<=h
theorem fam_any (hA:RatA (ratV sa na da) a 2) (hB:RatA (ratV sb nb db) b 2) (hc:chkD k n m a b=0) (ht:cntD k n m a b=false) (hw:wideD k a b=false) (hn:k≠8->(n<=16\/256<n)/\(m<=16\/256<m)) :
  ∃Lo Hi c W lo0 hi0,Fam (p2 200) (distV k n m sa na da sb nb db) Lo Hi c W lo0 hi0/\Rise Lo Hi lo0 hi0:=by
 obtain⟨i,g⟩:=chk_zero hc
 rcases kinds k with rfl|rfl|rfl|rfl|rfl|rfl|rfl|rfl|rfl|⟨k1,k2,k3,k4,k5,k6,k7,k8,k9⟩
 ·have b0:0<b:=of_decide_eq_true i
  obtain⟨W,F⟩:=fam_normal hA hB hc hw b0
  exact⟨_,_,_,W,_,_,F,fun x y l h h1 h2 h3 _ _ A B=>rise_W b0 h1 h3 (Rat.le_of_lt h2) A B⟩
 ·have a0:0<a:=of_decide_eq_true i
  obtain⟨W,F⟩:=fam_expo hA hB hc hw a0
  exact⟨_,_,_,W,_,_,F,fun x y l h h1 h2 h3 l0 _ A B=>rise_E a0 (Rat.le_of_lt h2) l0 A B⟩
 ·have i':(decide (1<=n)&&decide (0<a))=true:=i
  have g':decide (256<n)=false:=g
  rw[Bool.and_eq_true,decide_eq_true_eq,decide_eq_true_eq]at i'
  rw[decide_eq_false_iff_not]at g'
  obtain⟨N,rfl⟩ : ∃N:Nat,n=N:=⟨n.toNat,by omega⟩
  have hN:1<=N/\N<=16:=by have:=hn (by omega);omega
  obtain⟨W,F⟩:=fam_gamma hA hB hc hw i'.2 hN
  refine⟨_,_,_,W,_,_,F,fun x y l h h1 h2 h3 l0 _ A B=>rise_G hN.1 i'.2 ?_ h2 l0 A B⟩
  have:=Rat.mul_le_mul_of_nonneg_left h3 (Rat.le_of_lt i'.2)
  rwa [Ex.mul_div _ 64 (show a≠0 by grind)]at this
 ·have i':decide (1<=n)=true:=i
  have g':decide (256<n)=false:=g
  rw[decide_eq_true_eq]at i'
  rw[decide_eq_false_iff_not]at g'
  obtain⟨N,rfl⟩ : ∃N:Nat,n=N:=⟨n.toNat,by omega⟩
  have hN:1<=N/\N<=16:=by have:=hn (by omega);omega
  have h2:(0:Rat)<1/2:=by decide +kernel
  refine⟨_,_,_,1,_,_,fam_chi hA hB hc hN,fun x y l h h1 h2' h3 l0 _ A B=>rise_G hN.1 h2 ?_ h2' l0 A B⟩
  have:=Rat.mul_le_mul_of_nonneg_left h3 (Rat.le_of_lt h2)
  rwa [show (1/2:Rat)*128=64 by decide +kernel]at this
 ·have i':decide (1<=n)=true:=i
  have g':decide (256<n)=false:=g
  rw[decide_eq_true_eq]at i'
  rw[decide_eq_false_iff_not]at g'
  obtain⟨N,rfl⟩ : ∃N:Nat,n=N:=⟨n.toNat,by omega⟩
  have hN:1<=N/\N<=16:=by have:=hn (by omega);omega
  exact⟨_,_,_,1,_,_,fam_student hA hB hc hN,fun x y l h _ h2 _ l0 h1 A B=>rise_V hN h2 l0 h1 A B⟩
 ·have i':(decide (1<=n)&&decide (1<=m))=true:=i
  have g':(decide (256<n)||decide (256<m))=false:=g
  rw[Bool.and_eq_true,decide_eq_true_eq,decide_eq_true_eq]at i'
  rw[Bool.or_eq_false_iff,decide_eq_false_iff_not,decide_eq_false_iff_not]at g'
  obtain⟨N,rfl⟩ : ∃N:Nat,n=N:=⟨n.toNat,by omega⟩
  obtain⟨M,rfl⟩ : ∃M:Nat,m=M:=⟨m.toNat,by omega⟩
  have hN:=hn (by omega)
  exact⟨_,_,_,1,_,_,fam_fisher hA hB hc ⟨by omega,by omega⟩ ⟨by omega,by omega⟩,fun x y l h _ h2 _ l0 h1 A B=>rise_F (by omega) (by omega) (by omega) (by omega) h2 l0 h1 A B⟩
 ·have i':(decide (1<=n)&&decide (1<=m))=true:=i
  have g':(decide (256<n)||decide (256<m))=false:=g
  rw[Bool.and_eq_true,decide_eq_true_eq,decide_eq_true_eq]at i'
  rw[Bool.or_eq_false_iff,decide_eq_false_iff_not,decide_eq_false_iff_not]at g'
  obtain⟨N,rfl⟩ : ∃N:Nat,n=N:=⟨n.toNat,by omega⟩
  obtain⟨M,rfl⟩ : ∃M:Nat,m=M:=⟨m.toNat,by omega⟩
  have hN:=hn (by omega)
  exact⟨_,_,_,1,_,_,fam_beta hA hB hc ⟨by omega,by omega⟩ ⟨by omega,by omega⟩,fun x y l h _ h2 h3 l0 h1 A B=>rise_B (by omega) (by omega) (by omega) (by omega) h2 h3 l0 h1 A B⟩
 ·unfold cntD at ht;rw[hc]at ht;exact absurd ht (by decide)
 ·unfold cntD at ht;rw[hc]at ht;exact absurd ht (by decide)
 ·unfold inD at i
  rw[if_neg k1,if_neg k2,if_neg k3,if_neg k4,if_neg k5,if_neg k6,if_neg k7,if_neg k8,if_neg k9]at i
  exact absurd i (by decide)
end
end Go.Proofs.YtenjdajophfpcaaGreat
namespace Go.Proofs.YtenjdajophfpcaaGreat
open Go.Ev
section
variable {sa sb:Bool} {na da nb db:List Nat} {a:Rat} {x y:Rat}
end
end Go.Proofs.YtenjdajophfpcaaGreat
namespace Go.Proofs.YtenjdajophfpcaaGreat
open Go.Ev
section
variable {n:Nat} {m:Int} {x:Rat}
end
end Go.Proofs.YtenjdajophfpcaaGreat
namespace Go.Proofs.YtenjdajophfpcaaGreat
open Go.Ev
theorem ref4_SideQ {a b c d:Rat} {L M:Nat} (ha:szR a L) (hb:szR b L) (hc:szR c M) (hd:szR d M) (hL1:1<=L) (hM1:1<=M) (hL:L+M<=100000) (h:a<=d) : ∃k:Int,k<=0 /\ -1<=k/\Go.Ev.Fn CX 15 [ballR a b,ballR c d] (.int .i64 k):=by
 have c1:=ref2_Cmp (RatA_rv hb) (RatA_rv hc) hL1 hM1 (by omega)
 have c2:=ref2_Cmp (RatA_rv ha) (RatA_rv hd) hL1 hM1 (by omega)
 have e2:decide (cmpR a d>0)=false:=by rw[cmpR_gt];exact decide_eq_false (Rat.not_lt.2 h)
 by_cases g:b<c
 ·have e1:decide (cmpR b c<0)=true:=by rw[cmpR_lt];exact decide_eq_true g
  refine⟨-1,by omega,by omega,?_⟩
  clear g h
  generalize cmpR b c=y1 at *
  generalize cmpR a d=y2 at *
  refine fni Tryz.f15 ?_;unfold Tryz.f15;simp only[Option.get!_some]
  repeat (first|simp only[go_sem,e1,e2]|simp (disch:=first|exact omg|fail) only[AX,e1,e2]|refine wki ?_|refine vf_of (by first|exact c1) ?_)
 ·have e1:decide (cmpR b c<0)=false:=by rw[cmpR_lt];exact decide_eq_false g
  refine⟨0,by omega,by omega,?_⟩
  clear g h
  generalize cmpR b c=y1 at *
  generalize cmpR a d=y2 at *
  refine fni Tryz.f15 ?_;unfold Tryz.f15;simp only[Option.get!_some]
  repeat (first|simp only[go_sem,e1,e2]|simp (disch:=first|exact omg|fail) only[AX,e1,e2]|refine wki ?_|refine vf_of (by first|exact c1|exact c2) ?_)
end Go.Proofs.YtenjdajophfpcaaGreat
namespace Go.Proofs.YtenjdajophfpcaaGreat
open Go.Ev
section
variable {k n m:Int} {sa sb:Bool} {na da nb db:List Nat}
theorem large15_G : ∃lg,Go.Ev.Fn CX 7 [distV k n m sa na da sb nb db] (.bool lg)/\(lg=false->(na.length<=2/\da.length<=2/\nb.length<=2/\db.length<=2)/\(k≠8->(n<=16\/256<n)/\(m<=16\/256<m))):=by
 by_cases h1:2<na.length
 ·refine⟨true,?_,fun h=>by cases h⟩
  refine fni Tryz.f7 ?_;unfold Tryz.f7;simp only[Option.get!_some]
  repeat (first|simp only[go_sem]|simp (disch:=first|exact omg|fail) only[AX]|refine wki ?_)
 by_cases h2:2<da.length
 ·refine⟨true,?_,fun h=>by cases h⟩
  refine fni Tryz.f7 ?_;unfold Tryz.f7;simp only[Option.get!_some]
  repeat (first|simp only[go_sem]|simp (disch:=first|exact omg|fail) only[AX]|refine wki ?_)
 by_cases h3:2<nb.length
 ·refine⟨true,?_,fun h=>by cases h⟩
  refine fni Tryz.f7 ?_;unfold Tryz.f7;simp only[Option.get!_some]
  repeat (first|simp only[go_sem]|simp (disch:=first|exact omg|fail) only[AX]|refine wki ?_)
 by_cases h4:2<db.length
 ·refine⟨true,?_,fun h=>by cases h⟩
  refine fni Tryz.f7 ?_;unfold Tryz.f7;simp only[Option.get!_some]
  repeat (first|simp only[go_sem]|simp (disch:=first|exact omg|fail) only[AX]|refine wki ?_)
 by_cases h5:k=8
 ·by_cases h6:8<n
  ·refine⟨decide (n<=256),?_,fun _=>⟨by omega,fun h=>absurd h5 h⟩⟩
   refine fni Tryz.f7 ?_;unfold Tryz.f7;simp only[Option.get!_some]
   repeat (first|simp only[go_sem]|simp (disch:=first|exact omg|fail) only[AX]|refine wki ?_)
  ·refine⟨false,?_,fun _=>⟨by omega,fun h=>absurd h5 h⟩⟩
   refine fni Tryz.f7 ?_;unfold Tryz.f7;simp only[Option.get!_some]
   repeat (first|simp only[go_sem]|simp (disch:=first|exact omg|fail) only[AX]|refine wki ?_)
 ·by_cases h6:16<n/\n<=256
  ·refine⟨true,?_,fun h=>by cases h⟩
   obtain⟨h6,h7⟩:=h6
   refine fni Tryz.f7 ?_;unfold Tryz.f7;simp only[Option.get!_some]
   repeat (first|simp only[go_sem]|simp (disch:=first|exact omg|fail) only[AX]|refine wki ?_)
  ·have h7:(decide (16<n)&&decide (n<=256))=false:=by rw[<- Bool.decide_and];exact decide_eq_false h6
   by_cases h8:16<m
   ·refine⟨decide (m<=256),?_,fun h=>⟨by omega,fun _=>⟨by omega,by have:=of_decide_eq_false h;omega⟩⟩⟩
    by_cases h9:16<n
    ·refine fni Tryz.f7 ?_;unfold Tryz.f7;simp only[Option.get!_some]
     repeat (first|simp only[go_sem]|simp (disch:=first|exact omg|fail) only[AX]|refine wki ?_)
    ·refine fni Tryz.f7 ?_;unfold Tryz.f7;simp only[Option.get!_some]
     repeat (first|simp only[go_sem]|simp (disch:=first|exact omg|fail) only[AX]|refine wki ?_)
   ·refine⟨false,?_,fun _=>⟨by omega,fun _=>⟨by omega,by omega⟩⟩⟩
    by_cases h9:16<n
    ·refine fni Tryz.f7 ?_;unfold Tryz.f7;simp only[Option.get!_some]
     repeat (first|simp only[go_sem]|simp (disch:=first|exact omg|fail) only[AX]|refine wki ?_)
    ·refine fni Tryz.f7 ?_;unfold Tryz.f7;simp only[Option.get!_some]
     repeat (first|simp only[go_sem]|simp (disch:=first|exact omg|fail) only[AX]|refine wki ?_)
end
section
variable {k n m e f g h p:Int} {sa sb sq sr:Bool} {na da nb db nq dq nr dr:List Nat} {a b q r:Rat}
abbrev ballX6 (s1:Bool) (x1 y1:List Nat) (s2:Bool) (x2 y2:List Nat):SV := .agg [.bool s1,natV x1,natV y1,.bool s2,natV x2,natV y2]
theorem no_is {x:Nat} {ts:List SV} (h:Go.Ev.Fn CX x ts (.tup [noB,.int .i64 e])):Go.Ev.Fn CX x ts (.tup [ballX6 false [] [] false [] [],.int .i64 e]):=h
theorem no_of {x:Nat} {ts:List SV} {u w:Rat} (h:Go.Ev.Fn CX x ts (ofV false u w)):Go.Ev.Fn CX x ts (.tup [ballX6 false [] [] false [] [],.int .i64 7]):=h
set_option maxHeartbeats 4000000 in
theorem rises_err {c:Int} (hl:Go.Ev.Fn CX 7 [distV k n m sa na da sb nb db] (.bool false)) (l1:nq.length<=1) (l2:dq.length<=1) (l3:nr.length<=1) (l4:dr.length<=1) (hp:0<=p/\p<=12)
  (hc:Go.Ev.Fn CX 14 [ratV sq nq dq,ratV sr nr dr] (.int .i64 c)) (c0:c<=0) {s1 s2 s3 s4:Bool} {x1 y1 x2 y2 x3 y3 x4 y4:List Nat}
  (f1:Go.Ev.Fn CX 8 [distV k n m sa na da sb nb db,ratV sq nq dq,.int .i64 p] (.tup [ballX6 s1 x1 y1 s2 x2 y2,.int .i64 e]))
  (f2:Go.Ev.Fn CX 8 [distV k n m sa na da sb nb db,ratV sr nr dr,.int .i64 p] (.tup [ballX6 s3 x3 y3 s4 x4 y4,.int .i64 f]))
  (g1:Go.Ev.Fn CX 9 [distV k n m sa na da sb nb db,ratV sq nq dq] (.int .i64 g))
  (g2:Go.Ev.Fn CX 9 [distV k n m sa na da sb nb db,ratV sr nr dr] (.int .i64 h))
  (he : ¬e=0 \/ ¬f=0) (h1:g=0\/e=g) (h2:h=0\/f=h) :
  Go.Ev.Fn CX 4 [distV k n m sa na da sb nb db,ratV sq nq dq,ratV sr nr dr,.int .i64 p] (.bool true):=by
 have hK:=known15_fn
 obtain⟨p0,p1⟩:=hp
 have e1 : ¬c>0:=by omega
 by_cases q1:e=0
 ·have q2 : ¬f=0:=he.resolve_left (not_not_intro q1)
  have z1:g=0:=by omega
  clear he h1
  by_cases z2:h=0
  ·clear h2
   refine fni Tryz.f4 ?_;unfold Tryz.f4;simp only[Option.get!_some]
   repeat (first|simp only[go_sem]|simp (disch:=first|exact omg|fail) only[AX]|refine wki ?_|refine vpd 6 [] ?_|refine vf_of (by first|exact hl|exact hc|exact f1|exact f2|exact g1|exact g2|exact hK) ?_)
  ·have z3:f=h:=h2.resolve_left z2
   clear h2
   refine fni Tryz.f4 ?_;unfold Tryz.f4;simp only[Option.get!_some]
   repeat (first|simp only[go_sem]|simp (disch:=first|exact omg|fail) only[AX]|refine wki ?_|refine vpd 6 [] ?_|refine vf_of (by first|exact hl|exact hc|exact f1|exact f2|exact g1|exact g2|exact hK) ?_)
 ·clear he
  by_cases z1:g=0
  ·clear h1
   by_cases z2:h=0
   ·clear h2
    refine fni Tryz.f4 ?_;unfold Tryz.f4;simp only[Option.get!_some]
    repeat (first|simp only[go_sem]|simp (disch:=first|exact omg|fail) only[AX]|refine wki ?_|refine vpd 6 [] ?_|refine vf_of (by first|exact hl|exact hc|exact f1|exact f2|exact g1|exact g2|exact hK) ?_)
   ·have z3:f=h:=h2.resolve_left z2
    clear h2
    refine fni Tryz.f4 ?_;unfold Tryz.f4;simp only[Option.get!_some]
    repeat (first|simp only[go_sem]|simp (disch:=first|exact omg|fail) only[AX]|refine wki ?_|refine vpd 6 [] ?_|refine vf_of (by first|exact hl|exact hc|exact f1|exact f2|exact g1|exact g2|exact hK) ?_)
  ·have z4:e=g:=h1.resolve_left z1
   clear h1
   by_cases z2:h=0
   ·clear h2
    refine fni Tryz.f4 ?_;unfold Tryz.f4;simp only[Option.get!_some]
    repeat (first|simp only[go_sem]|simp (disch:=first|exact omg|fail) only[AX]|refine wki ?_|refine vpd 6 [] ?_|refine vf_of (by first|exact hl|exact hc|exact f1|exact f2|exact g1|exact g2|exact hK) ?_)
   ·have z3:f=h:=h2.resolve_left z2
    clear h2
    refine fni Tryz.f4 ?_;unfold Tryz.f4;simp only[Option.get!_some]
    repeat (first|simp only[go_sem]|simp (disch:=first|exact omg|fail) only[AX]|refine wki ?_|refine vpd 6 [] ?_|refine vf_of (by first|exact hl|exact hc|exact f1|exact f2|exact g1|exact g2|exact hK) ?_)
theorem rises_ok {c j:Int} {u1 u2 u3 u4:Rat} (hl:Go.Ev.Fn CX 7 [distV k n m sa na da sb nb db] (.bool false)) (l1:nq.length<=1) (l2:dq.length<=1) (l3:nr.length<=1) (l4:dr.length<=1) (hp:0<=p/\p<=12)
  (hc:Go.Ev.Fn CX 14 [ratV sq nq dq,ratV sr nr dr] (.int .i64 c)) (c0:c<=0)
  (f1:Go.Ev.Fn CX 8 [distV k n m sa na da sb nb db,ratV sq nq dq,.int .i64 p] (.tup [ballR u1 u2,.int .i64 0]))
  (f2:Go.Ev.Fn CX 8 [distV k n m sa na da sb nb db,ratV sr nr dr,.int .i64 p] (.tup [ballR u3 u4,.int .i64 0]))
  (g1:Go.Ev.Fn CX 15 [ballR u1 u2,ballR u3 u4] (.int .i64 j)) (j0:j<=0) :
  Go.Ev.Fn CX 4 [distV k n m sa na da sb nb db,ratV sq nq dq,ratV sr nr dr,.int .i64 p] (.bool true):=by
 have hK:=known15_fn
 obtain⟨p0,p1⟩:=hp
 refine fni Tryz.f4 ?_;unfold Tryz.f4;simp only[Option.get!_some]
 repeat (first|simp only[go_sem]|simp (disch:=first|exact omg|fail) only[AX]|refine wki ?_|refine vpd 6 [] ?_|refine vf_of (by first|exact hl|exact hc|exact f1|exact f2|exact g1|exact hK) ?_)
theorem rises_big (hl:Go.Ev.Fn CX 7 [distV k n m sa na da sb nb db] (.bool true)):Go.Ev.Fn CX 4 [distV k n m sa na da sb nb db,ratV sq nq dq,ratV sr nr dr,.int .i64 p] (.bool true):=by
 refine fni Tryz.f4 ?_;unfold Tryz.f4;simp only[Option.get!_some]
 repeat (first|simp only[go_sem]|simp (disch:=first|exact omg|fail) only[AX]|refine wki ?_|refine vpd 6 [] ?_|refine vf_of (by first|exact hl) ?_)
theorem rises_out (hl:Go.Ev.Fn CX 7 [distV k n m sa na da sb nb db] (.bool false)) (h:1<nq.length\/1<dq.length\/1<nr.length\/1<dr.length\/p<0\/12<p):Go.Ev.Fn CX 4 [distV k n m sa na da sb nb db,ratV sq nq dq,ratV sr nr dr,.int .i64 p] (.bool true):=by
 by_cases c6091:1<nq.length
 ·clear h
  refine fni Tryz.f4 ?_;unfold Tryz.f4;simp only[Option.get!_some]
  repeat (first|simp only[go_sem]|simp (disch:=first|exact omg|fail) only[AX]|refine wki ?_|refine vpd 6 [] ?_|refine vf_of (by first|exact hl) ?_)
 by_cases c705:1<dq.length
 ·clear h
  refine fni Tryz.f4 ?_;unfold Tryz.f4;simp only[Option.get!_some]
  repeat (first|simp only[go_sem]|simp (disch:=first|exact omg|fail) only[AX]|refine wki ?_|refine vpd 6 [] ?_|refine vf_of (by first|exact hl) ?_)
 by_cases c828:1<nr.length
 ·clear h
  refine fni Tryz.f4 ?_;unfold Tryz.f4;simp only[Option.get!_some]
  repeat (first|simp only[go_sem]|simp (disch:=first|exact omg|fail) only[AX]|refine wki ?_|refine vpd 6 [] ?_|refine vf_of (by first|exact hl) ?_)
 by_cases c4269:1<dr.length
 ·clear h
  refine fni Tryz.f4 ?_;unfold Tryz.f4;simp only[Option.get!_some]
  repeat (first|simp only[go_sem]|simp (disch:=first|exact omg|fail) only[AX]|refine wki ?_|refine vpd 6 [] ?_|refine vf_of (by first|exact hl) ?_)
 by_cases c7189:p<0
 ·clear h
  refine fni Tryz.f4 ?_;unfold Tryz.f4;simp only[Option.get!_some]
  repeat (first|simp only[go_sem]|simp (disch:=first|exact omg|fail) only[AX]|refine wki ?_|refine vpd 6 [] ?_|refine vf_of (by first|exact hl) ?_)
 have c6:12<p:=by omega
 clear h
 refine fni Tryz.f4 ?_;unfold Tryz.f4;simp only[Option.get!_some]
 repeat (first|simp only[go_sem]|simp (disch:=first|exact omg|fail) only[AX]|refine wki ?_|refine vpd 6 [] ?_|refine vf_of (by first|exact hl) ?_)
theorem rises_far {c:Int} (hl:Go.Ev.Fn CX 7 [distV k n m sa na da sb nb db] (.bool false)) (l1:nq.length<=1) (l2:dq.length<=1) (l3:nr.length<=1) (l4:dr.length<=1) (hp:0<=p/\p<=12)
  (hc:Go.Ev.Fn CX 14 [ratV sq nq dq,ratV sr nr dr] (.int .i64 c)) (c0:0<c):Go.Ev.Fn CX 4 [distV k n m sa na da sb nb db,ratV sq nq dq,ratV sr nr dr,.int .i64 p] (.bool true):=by
 obtain⟨p0,p1⟩:=hp
 refine fni Tryz.f4 ?_;unfold Tryz.f4;simp only[Option.get!_some]
 repeat (first|simp only[go_sem]|simp (disch:=first|exact omg|fail) only[AX]|refine wki ?_|refine vpd 6 [] ?_|refine vf_of (by first|exact hl|exact hc) ?_)
theorem srg_at {Lo Hi:Tells} {c lo0 hi0 lo hi:Rat} {W k':Nat} (F:Fam (p2 200) (distV k n m sa na da sb nb db) Lo Hi c W lo0 hi0) (S:SrG Lo Hi q c W lo0 hi0 k' lo hi) (hk:k'<=114):szR lo 20/\szR hi 20:=by
 obtain⟨g1,g2⟩:=srg_ends S
 have lt:=S.lt
 exact⟨srg_sz (q:=q) S.dlo (by omega) F.W0 F.hW F.zc F.hl F.hh g1 (by grind),srg_sz (q:=q) S.dhi (by omega) F.W0 F.hW F.zc F.hl F.hh (by grind) g2⟩
theorem rises_law (ss0:List SV) (sh0:ShpT Tryz.prog 6 26 ss0) (ss1:List SV) (sh1:ShpT Tryz.prog 6 24 ss1) (ss2:List SV) (sh2:ShpT Tryz.prog 6 24 ss2) (a3:Int) (w3:(Lit.int .i64 a3).wf=true) :
  Go.Ev.Fn CX 4 [.agg ss0,.agg ss1,.agg ss2,.int .i64 a3] (.bool true):=by
 obtain⟨k,n,m,sa,na,da,sb,nb,db,e,-,-,-,h1,h2,h3,h4⟩:=shp_dist sh0
 obtain⟨sq,nq,dq,rfl,h5,h6,-,-⟩:=shp_rat sh1
 obtain⟨sr,nr,dr,rfl,h7,h8,-,-⟩:=shp_rat sh2
 rw[e]
 obtain⟨lg,hl,hlen⟩:=large15_G (k:=k) (n:=n) (m:=m) (sa:=sa) (na:=na) (da:=da) (sb:=sb) (nb:=nb) (db:=db)
 cases lg
 rotate_left
 ·exact rises_big hl
 obtain⟨⟨l1,l2,l3,l4⟩,hn⟩:=hlen rfl
 by_cases ho:1<nq.length\/1<dq.length\/1<nr.length\/1<dr.length\/a3<0\/12<a3
 ·exact rises_out hl ho
 have hA:RatA (ratV sa na da) (mkRat (sgn sa (wth na)) (wth da)) 2:=⟨_,_,_,rfl,h1,h2,l1,l2,rfl⟩
 have hB:RatA (ratV sb nb db) (mkRat (sgn sb (wth nb)) (wth db)) 2:=⟨_,_,_,rfl,h3,h4,l3,l4,rfl⟩
 have hQ:RatA (ratV sq nq dq) (mkRat (sgn sq (wth nq)) (wth dq)) 1:=⟨_,_,_,rfl,h5,h6,by omega,by omega,rfl⟩
 have hR:RatA (ratV sr nr dr) (mkRat (sgn sr (wth nr)) (wth dr)) 1:=⟨_,_,_,rfl,h7,h8,by omega,by omega,rfl⟩
 generalize mkRat (sgn sa (wth na)) (wth da)=a at *
 generalize mkRat (sgn sb (wth nb)) (wth db)=b at *
 generalize mkRat (sgn sq (wth nq)) (wth dq)=q at *
 generalize mkRat (sgn sr (wth nr)) (wth dr)=r at *
 have hp:0<=a3/\a3<=12:=by omega
 obtain⟨p,rfl⟩ : ∃p:Nat,a3=p:=⟨a3.toNat,by omega⟩
 have hc:=ref2_Cmp hQ hR (by omega) (by omega) (by omega)
 have l5:nq.length<=1:=by omega
 have l6:dq.length<=1:=by omega
 have l7:nr.length<=1:=by omega
 have l8:dr.length<=1:=by omega
 by_cases hqr:r<q
 ·exact rises_far hl l5 l6 l7 l8 hp hc (of_decide_eq_true (cmpR_gt.trans (decide_eq_true hqr)))
 have c0:cmpR q r<=0:=of_decide_eq_true (cmpR_le.trans (decide_eq_true (Rat.not_lt.1 hqr)))
 have g1:=ref15_First (k:=k) (n:=n) (m:=m) hA hB hQ
 have g2:=ref15_First (k:=k) (n:=n) (m:=m) hA hB hR
 by_cases z1:fstD k n m a b q=0
 ·obtain⟨hck,hct,q0,q1,hw⟩:=fst_zero z1
  obtain⟨Lo,Hi,c,W,lo0,hi0,F,R⟩:=fam_any hA hB hck hct hw hn
  obtain⟨ok,lo,hi,f1,k1,-⟩:=of_G (p:=p) (pI:=(p:Int)) (by omega) (.inr rfl) F hQ q0 q1
  by_cases z2:fstD k n m a b r=0
  ·obtain⟨-,-,r0,r1,-⟩:=fst_zero z2
   obtain⟨ok',lo',hi',f2,k2,-⟩:=of_G (p:=p) (pI:=(p:Int)) (by omega) (.inr rfl) F hR r0 r1
   cases ok
   ·cases ok'
    ·exact rises_err hl l5 l6 l7 l8 hp hc c0 (no_of f1) (no_of f2) g1 g2 (.inl (by decide)) (.inl z1) (.inl z2)
    ·exact rises_err hl l5 l6 l7 l8 hp hc c0 (no_of f1) f2 g1 g2 (.inl (by decide)) (.inl z1) (.inl z2)
   ·cases ok'
    ·exact rises_err hl l5 l6 l7 l8 hp hc c0 f1 (no_of f2) g1 g2 (.inr (by decide)) (.inl z1) (.inl z2)
    ·obtain⟨i1,S1,j1,-⟩:=k1 rfl
     obtain⟨i2,S2,j2,-⟩:=k2 rfl
     obtain⟨y1,y2⟩:=srg_at F S1 j1
     obtain⟨y3,y4⟩:=srg_at F S2 j2
     obtain⟨j,j0,-,sd⟩:=ref4_SideQ y1 y2 y3 y4 (by omega) (by omega) (by omega) (srg_rises R S1 S2 (Rat.not_lt.1 hqr) r0 q1)
     exact rises_ok hl l5 l6 l7 l8 hp hc c0 f1 f2 sd j0
  ·have f2:=no_is (of_err (p:=(p:Int)) hA hB hR z2)
   cases ok
   ·exact rises_err hl l5 l6 l7 l8 hp hc c0 (no_of f1) f2 g1 g2 (.inl (by decide)) (.inl z1) (.inr rfl)
   ·exact rises_err hl l5 l6 l7 l8 hp hc c0 f1 f2 g1 g2 (.inr z2) (.inl z1) (.inr rfl)
 ·have f1:=no_is (of_err (p:=(p:Int)) hA hB hQ z1)
  by_cases z2:fstD k n m a b r=0
  ·obtain⟨hck,hct,r0,r1,hw⟩:=fst_zero z2
   obtain⟨Lo,Hi,c,W,lo0,hi0,F,R⟩:=fam_any hA hB hck hct hw hn
   obtain⟨ok',lo',hi',f2,k2,-⟩:=of_G (p:=p) (pI:=(p:Int)) (by omega) (.inr rfl) F hR r0 r1
   cases ok'
   ·exact rises_err hl l5 l6 l7 l8 hp hc c0 f1 (no_of f2) g1 g2 (.inl z1) (.inr rfl) (.inl z2)
   ·exact rises_err hl l5 l6 l7 l8 hp hc c0 f1 f2 g1 g2 (.inl z1) (.inr rfl) (.inl z2)
  ·exact rises_err hl l5 l6 l7 l8 hp hc c0 f1 (no_is (of_err (p:=(p:Int)) hA hB hR z2)) g1 g2 (.inl z1) (.inr rfl) (.inr rfl)
end
end Go.Proofs.YtenjdajophfpcaaGreat
