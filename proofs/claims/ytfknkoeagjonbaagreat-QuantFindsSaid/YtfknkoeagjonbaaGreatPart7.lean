/- Part 7 of the proof: the evaluator, contracts of functions and their plain laws (joined by program). No condition. -/
import Derived.Test.YtfknkoeagjonbaaGreatPart6
set_option linter.unusedVariables false
set_option linter.unusedSimpArgs false
set_option maxRecDepth 100000
namespace Go.Ex
def mulu (d:Rat) (g:Nat->Rat):Nat->Rat
 |0=>d*g 0
 |k+1=>d*g (k+1)+g k
def dvu (d:Rat) (f:Nat->Rat):Nat->Rat
 |0=>f 0/d
 |k+1=>(f (k+1)-dvu d f k)/d
theorem mul_div (d x:Rat) (hd:d≠0):d*(x/d)=x:=by rw[ya];exact xd hd
theorem mulu_dvu {d:Rat} (hd:d≠0) (f:Nat->Rat) : ∀k,mulu d (dvu d f) k=f k
 |0=>mul_div d _ hd
 |k+1=>by
  show d*((f (k+1)-dvu d f k)/d)+dvu d f k=_;rw[mul_div d _ hd];grind
theorem dvu_uniq {d:Rat} (hd:d≠0) {f g:Nat->Rat} (h : ∀k,mulu d g k=f k) : ∀k,g k=dvu d f k
 |0=>by
  have:=h 0;show g 0=f 0/d;rw[<- this];show g 0=d*g 0/d;rw[ya];exact(Rat.mul_div_cancel hd).symm
 |k+1=>by
  have e:=h (k+1);have ih:=dvu_uniq hd h k;show g (k+1)=(f (k+1)-dvu d f k)/d;rw[<- ih,<- e];show g (k+1)=(d*g (k+1)+g k-g k)/d;rw[show d*g (k+1)+g k-g k=g (k+1)*d by grind];exact(Rat.mul_div_cancel hd).symm
theorem dvu_congr {d:Rat} {f g:Nat->Rat} (h : ∀k,f k=g k) : ∀k,dvu d f k=dvu d g k
 |0=>by show f 0/d=g 0/d;rw[h]
 |k+1=>by show (f (k+1)-dvu d f k)/d=(g (k+1)-dvu d g k)/d;rw[h,dvu_congr h k]
theorem mulu_comm (d e:Rat) (g:Nat->Rat) : ∀k,mulu d (mulu e g) k=mulu e (mulu d g) k
 |0=>by show d*(e*g 0)=e*(d*g 0);grind
 |1=>by show d*(e*g 1+g 0)+e*g 0=e*(d*g 1+g 0)+d*g 0;grind
 |k+2=>by show d*(e*g (k+2)+g (k+1))+(e*g (k+1)+g k)=e*(d*g (k+2)+g (k+1))+(d*g (k+1)+g k);grind
theorem mulu_congr {d:Rat} {f g:Nat->Rat} (h : ∀k,f k=g k) : ∀k,mulu d f k=mulu d g k
 |0=>by show d*f 0=d*g 0;rw[h]
 |k+1=>by show d*f (k+1)+f k=d*g (k+1)+g k;rw[h,h]
theorem dvu_comm {d e:Rat} (hd:d≠0) (he:e≠0) (f:Nat->Rat) (k:Nat):dvu d (dvu e f) k=dvu e (dvu d f) k:=by
 refine dvu_uniq he (fun k=>dvu_uniq hd (fun k => ?_) k) k;rw[mulu_comm];have h1 : ∀k,mulu d (dvu d (dvu e f)) k=dvu e f k:=mulu_dvu hd _;rw[mulu_congr h1];exact mulu_dvu he f k
def ser (j:Nat):List Nat->Nat->Rat
 | [],k=>if k=0 then 1 else 0
 |s::M,k=>if s=j then ser j M k else dvu ((j:Rat)-(s:Rat)) (ser j M) k
theorem nat_inj {a b:Nat} (h:(a:Rat)=(b:Rat)):a=b:=by exact_mod_cast h
theorem sub_ne {j s:Nat} (h:s≠j):(j:Rat)-(s:Rat)≠0:=by
 intro e;exact h (nat_inj (show (s:Rat)=(j:Rat) by grind))
theorem ser_perm (j:Nat) {M M':List Nat} (h:M.Perm M') : ∀k,ser j M k=ser j M' k:=by
 induction h with
 |nil=>intro k;rfl
 |cons s _ ih=>
  intro k;unfold ser;split
  ·exact ih k
  ·exact dvu_congr ih k
 |swap s t M=>
  intro k;by_cases h1:s=j<;>by_cases h2:t=j
  ·simp only[ser,if_pos h1,if_pos h2]
  ·simp only[ser,if_pos h1,if_neg h2]
  ·simp only[ser,if_neg h1,if_pos h2]
  ·simp only[ser,if_neg h1,if_neg h2];exact dvu_comm (sub_ne h2) (sub_ne h1) _ k
 |trans _ _ ih1 ih2=>intro k;rw[ih1,ih2]
def coef (j:Nat) (M:List Nat) (i:Nat):Rat:=if i<M.count j then ser j M (M.count j-1-i) else 0
theorem coef_same {s:Nat} {M:List Nat} (i:Nat):coef s (s::M) (i+1)=coef s M i:=by
 unfold coef;rw[List.count_cons_self];by_cases h:i<M.count s
 ·rw[if_pos h,if_pos (by omega)];simp only[ser,if_pos];rw[show M.count s+1-1-(i+1)=M.count s-1-i by omega]
 ·rw[if_neg h,if_neg (by omega)]
theorem coef_other {j s:Nat} {M:List Nat} (h:s≠j) (i:Nat):((j:Rat)-(s:Rat))*coef j (s::M) i+coef j (s::M) (i+1)=coef j M i:=by
 unfold coef;rw[List.count_cons_of_ne h];have key:=mulu_dvu (sub_ne h) (ser j M);by_cases h1:i+1<M.count j
 ·rw[if_pos h1,if_pos (by omega),if_pos (by omega)];obtain⟨k,hk⟩ : ∃k,M.count j-1-i=k+1:=⟨M.count j-2-i,by omega⟩
  rw[show M.count j-1-(i+1)=k by omega,hk,<- key (k+1)];simp only[ser,if_neg h];rfl
 ·rw[if_neg h1];by_cases h2:i<M.count j
  ·rw[if_pos h2,if_pos h2,show M.count j-1-i=0 by omega,<- key 0];simp only[ser,if_neg h];rw[wi];rfl
  ·rw[if_neg h2,if_neg h2];grind
def bin:Nat->Nat->Nat
 |_,0=>1
 |0,_+1=>0
 |m+1,i+1=>bin m i+bin m (i+1)
theorem bin_big : ∀m i,m<i->bin m i=0
 |0,i+1,_=>rfl
 |m+1,i+1,h=>by
  show bin m i+bin m (i+1)=0;rw[bin_big m i (by omega),bin_big m (i+1) (by omega)]
def bw (j:Rat) (m i:Nat):Rat:=(bin m i:Rat)*j^(m-i)
theorem bw_zero (j:Rat) (m:Nat):bw j (m+1) 0=j*bw j m 0:=by
 show ((bin (m+1) 0:Nat):Rat)*j^(m+1)=j*(((bin m 0:Nat):Rat)*j^m)
 have e1:bin (m+1) 0=1:=by cases m<;>rfl
 have e2:bin m 0=1:=by cases m<;>rfl
 rw[e1,e2,yo];grind
theorem bw_succ (j:Rat) (m i:Nat):bw j (m+1) (i+1)=j*bw j m (i+1)+bw j m i:=by
 show ((bin m i+bin m (i+1):Nat):Rat)*j^(m+1-(i+1))=j*(((bin m (i+1):Nat):Rat)*j^(m-(i+1)))+((bin m i:Nat):Rat)*j^(m-i);have e:((bin m i+bin m (i+1):Nat):Rat)=(bin m i:Rat)+(bin m (i+1):Rat):=by exact_mod_cast rfl
 rw[e,show m+1-(i+1)=m-i by omega];by_cases h:i+1<=m
 ·rw[show m-i=m-(i+1)+1 by omega,yo];grind
 ·rw[bin_big m (i+1) (by omega)];have:((0:Nat):Rat)=0:=rfl;rw[this];grind
def gs (j:Rat) (a:Nat->Rat) (m:Nat):Nat->Rat
 |0=>0
 |c+1=>gs j a m c+a c*bw j m c
theorem gs_congr {j:Rat} {a a':Nat->Rat} {m:Nat} : ∀c,(∀i,i<c->a i=a' i)->gs j a m c=gs j a' m c
 |0,_=>rfl
 |c+1,h=>by
  show gs j a m c+a c*_=gs j a' m c+a' c*_;rw[gs_congr c (fun i hi=>h i (by omega)),h c (by omega)]
theorem gs_shift (j s:Rat) (a:Nat->Rat) (m:Nat) : ∀c,gs j a (m+1) (c+1)+a (c+1)*bw j m c=s*gs j a m (c+1)+gs j (fun i=>(j-s)*a i+a (i+1)) m (c+1)
 |0=>by
  show 0+a 0*bw j (m+1) 0+a 1*bw j m 0=s*(0+a 0*bw j m 0)+(0+((j-s)*a 0+a 1)*bw j m 0)
  rw[bw_zero];grind
 |c+1=>by
  have ih:=gs_shift j s a m c;show gs j a (m+1) (c+1)+a (c+1)*bw j (m+1) (c+1)+a (c+2)*bw j m (c+1)=s*(gs j a m (c+1)+a (c+1)*bw j m (c+1))+(gs j (fun i=>(j-s)*a i+a (i+1)) m (c+1)+((j-s)*a (c+1)+a (c+2))*bw j m (c+1))
  rw[bw_succ];generalize gs j (fun i=>(j-s)*a i+a (i+1)) m (c+1)=z at *
  grind
theorem gs_at {j s:Rat} {a a':Nat->Rat} {m c:Nat} (h0:a c=0) (h : ∀i,i<c->(j-s)*a i+a (i+1)=a' i):gs j a (m+1) c=s*gs j a m c+gs j a' m c:=by
 cases c with
 |zero=>show (0:Rat)=s*0+0;grind
 |succ c=>
  have:=gs_shift j s a m c;rw[h0]at this;rw[<- gs_congr (a:=fun i=>(j-s)*a i+a (i+1)) (a':=a') (c+1) h,<- this];grind
def Gn (M:List Nat) (m:Nat):Nat->Rat
 |0=>0
 |J+1=>Gn M m J+gs (J:Rat) (coef J M) m (M.count J)
theorem coef_end (j:Nat) (M:List Nat):coef j M (M.count j)=0:=by unfold coef;rw[if_neg (by omega)]
theorem gs_node (j s:Nat) (M:List Nat) (m:Nat):gs (j:Rat) (coef j (s::M)) (m+1) ((s::M).count j)=(s:Rat)*gs (j:Rat) (coef j (s::M)) m ((s::M).count j)+gs (j:Rat) (coef j M) m (M.count j):=by
 by_cases h:s=j
 ·subst h;rw[gs_at (s:=(s:Rat)) (a':=coef s M) (coef_end s _) (fun i _=>by rw[coef_same];grind)];congr 1;rw[List.count_cons_self];show gs _ _ _ _+coef s M (M.count s)*_=_;rw[coef_end];grind
 ·rw[gs_at (s:=(s:Rat)) (a':=coef j M) (coef_end j _) (fun i _=>coef_other h i)];congr 2;rw[List.count_cons_of_ne h]
theorem Gn_step (s:Nat) (M:List Nat) (m:Nat) : ∀J,Gn (s::M) (m+1) J=(s:Rat)*Gn (s::M) m J+Gn M m J
 |0=>by show (0:Rat)=(s:Rat)*0+0;grind
 |J+1=>by
  show Gn (s::M) (m+1) J+gs _ _ _ _=(s:Rat)*(Gn (s::M) m J+gs _ _ _ _)+(Gn M m J+gs _ _ _ _)
  rw[Gn_step s M m J,gs_node];grind
theorem Gn_perm {M M':List Nat} (h:M.Perm M') (m:Nat) : ∀J,Gn M m J=Gn M' m J
 |0=>rfl
 |J+1=>by
  show Gn M m J+gs _ _ _ _=Gn M' m J+gs _ _ _ _;rw[Gn_perm h m J,h.count_eq];congr 1;exact gs_congr _ fun i _=>by unfold coef;rw[h.count_eq,ser_perm J h]
theorem Gn_nil (m:Nat) : ∀J,Gn [] m J=0
 |0=>rfl
 |J+1=>by show Gn [] m J+0=0;rw[Gn_nil m J,wi]
def Hn:List Nat->Nat->Nat
 | [],_=>0
 |_::M,0=>if M=[] then 1 else 0
 |s::M,m+1=>s*Hn (s::M) m+Hn M m
theorem Gn_of {s:Nat} {M:List Nat} {J:Nat} (h : ∀m,Gn M m J=(Hn M m:Rat)) (h0:Gn (s::M) 0 J=(Hn (s::M) 0:Rat)) : ∀m,Gn (s::M) m J=(Hn (s::M) m:Rat)
 |0=>h0
 |m+1=>by
  rw[Gn_step,Gn_of h h0 m,h m];show _=((s*Hn (s::M) m+Hn M m:Nat):Rat)
  exact_mod_cast rfl
theorem Hn_zero {s:Nat} {M:List Nat} (h:M≠[]):Hn (s::M) 0=0:=by
 show (if M=[] then 1 else 0)=0;rw[if_neg h]
theorem gs_at0 (j:Rat) (a:Nat->Rat) : ∀c,gs j a 0 (c+1)=a 0
 |0=>by
  show 0+a 0*(((1:Nat):Rat)*j^0)=a 0;rw[yw];have:((1:Nat):Rat)=1:=rfl;rw[this];grind
 |c+1=>by
  show gs j a 0 (c+1)+a (c+1)*(((0:Nat):Rat)*_)=a 0;rw[gs_at0 j a c];have:((0:Nat):Rat)=0:=rfl;rw[this];grind
theorem ser_rep (s:Nat) : ∀ (M:List Nat),(∀t∈M,t=s) -> ∀k,ser s M k=if k=0 then 1 else 0
 | [],_,k=>rfl
 |t::M,h,k=>by
  have:t=s:=h t yW;simp only[ser,if_pos this];exact ser_rep s M (fun u hu=>h u (yb _ hu)) k
theorem count_rep (s:Nat) : ∀ (M:List Nat),(∀t∈M,t=s)->M.count s=M.length
 | [],_=>rfl
 |t::M,h=>by
  have:t=s:=h t yW;subst this;rw[List.count_cons_self,yS,count_rep t M (fun u hu=>h u (yb _ hu))]
theorem Gn_rep {s:Nat} {M:List Nat} (h : ∀t∈M,t=s) (hM:M≠[]) : ∀J,Gn M 0 J=if s<J then coef s M 0 else 0
 |0=>rfl
 |J+1=>by
  show Gn M 0 J+gs _ _ _ _=_;rw[Gn_rep h hM J];have hl:0<M.length:=wg.2 hM;by_cases e:s=J
  ·subst e;rw[if_neg (by omega),if_pos (by omega),count_rep s M h];obtain⟨c,hc⟩ : ∃c,M.length=c+1:=⟨M.length-1,by omega⟩
   rw[hc,gs_at0,Rat.zero_add]
  ·have:M.count J=0:=List.count_eq_zero.2 fun hj=>e ((h J hj).symm)
   rw[this];show _+0=_;rw[wi];by_cases h1:s<J
   ·rw[if_pos h1,if_pos (by omega)]
   ·rw[if_neg h1,if_neg (by omega)]
theorem Gn_eq (J:Nat) : ∀ (n:Nat) (M:List Nat),M.length=n->(∀t∈M,t<J) -> ∀m,Gn M m J=(Hn M m:Rat):=by
 intro n;induction n using Nat.strongRecOn with
 |_ n ih=>
  intro M hl hM;match M,hl,hM with
  | [],_,_=>intro m;rw[Gn_nil];cases m<;>rfl
  |s::M,hl,hM=>
   have hM1:=fun m=>ih M.length (by rw[<- hl,yS];omega) M rfl (fun t ht=>hM t (yb _ ht)) m
   refine Gn_of hM1 ?_;by_cases he : ∀t∈M,t=s
   ·have ha : ∀t∈s::M,t=s:=fun t ht=>by
     rcases List.mem_cons.1 ht with h|h
     ·exact h
     ·exact he t h
    rw[Gn_rep ha (by simp) J,if_pos (hM s yW)];unfold coef;rw[count_rep s _ ha,if_pos (by simp),ser_rep s _ ha,yS];by_cases hn:M=[]
    ·subst hn;rfl
    ·rw[Hn_zero hn];have:0<M.length:=wg.2 hn;rw[if_neg (by omega)];rfl
   ·obtain⟨t,ht,hts⟩ : ∃t,t∈M/\t≠s:=by
     refine Classical.byContradiction fun hc=>he fun t ht=>Classical.byContradiction fun hts=>hc ⟨t,ht,hts⟩
    have hn:M≠[]:=by rintro rfl;cases ht
    rw[Hn_zero hn];have p:=List.perm_cons_erase ht;obtain⟨M0,hM0⟩ : ∃M0,M0=M.erase t:=⟨_,rfl⟩
    rw[<- hM0]at p;have p1:(s::M).Perm (s::t::M0):=List.Perm.cons s p;have p2:(s::M).Perm (t::s::M0):=p1.trans (List.Perm.swap t s M0);have lM:M.length=M0.length+1:=by rw[p.length_eq,yS]
    have i1:=ih (M0.length+1) (by rw[<- hl,yS];omega) (t::M0) (by simp) (fun u hu=>hM u (yb _ (p.mem_iff.2 hu))) 0;have i2:=ih (M0.length+1) (by rw[<- hl,yS];omega) (s::M0) (by simp) (fun u hu=>by
     rcases List.mem_cons.1 hu with h|h
     ·rw[h];exact hM s yW
     ·exact hM u (yb _ (p.mem_iff.2 (yb _ h)))) 0
    have e0:(Hn (t::M0) 0)=(Hn (s::M0) 0):=rfl;have s1:=Gn_step s (t::M0) 0 J;have s2:=Gn_step t (s::M0) 0 J;rw[<- Gn_perm p1,<- Gn_perm p1,i1]at s1;rw[<- Gn_perm p2,<- Gn_perm p2,i2,<- e0]at s2;have d:((s:Rat)-(t:Rat))*Gn (s::M) 0 J=0:=by
     generalize Gn (s::M) (0+1) J=z at *
     generalize Gn (s::M) 0 J=y at *
     grind
    rcases Rat.mul_eq_zero.1 d with h|h
    ·exact absurd h (sub_ne hts)
    ·rw[h];rfl
end Go.Ex
namespace Go.Ex
def isI (q:Rat):Prop := ∃z:Int,q=(z:Rat)
theorem isI_int (z:Int):isI (z:Rat):=⟨z,rfl⟩
theorem isI_nat (n:Nat):isI (n:Rat):=⟨(n:Int),rfl⟩
theorem isI_add {a b:Rat} (h:isI a) (g:isI b):isI (a+b):=by
 obtain⟨x,rfl⟩:=h;obtain⟨y,rfl⟩:=g;exact⟨x+y,by rw[Rat.intCast_add]⟩
theorem isI_sub {a b:Rat} (h:isI a) (g:isI b):isI (a-b):=by
 obtain⟨x,rfl⟩:=h;obtain⟨y,rfl⟩:=g;exact⟨x-y,by rw[Rat.intCast_sub]⟩
theorem isI_mul {a b:Rat} (h:isI a) (g:isI b):isI (a*b):=by
 obtain⟨x,rfl⟩:=h;obtain⟨y,rfl⟩:=g;exact⟨x*y,by rw[wb]⟩
theorem isI_zero:isI 0:=⟨0,rfl⟩
theorem isI_one:isI 1:=⟨1,rfl⟩
theorem isI_pow {a:Rat} (h:isI a) : ∀n:Nat,isI (a^n)
 |0=>by rw[yw];exact isI_one
 |n+1=>by rw[yo];exact isI_mul (isI_pow h n) h
def prd (j:Nat):List Nat->Int
 | []=>1
 |s::M=>if s=j then prd j M else prd j M*((j:Int)-(s:Int))
theorem castd (j s:Nat):(((j:Int)-(s:Int):Int):Rat)=(j:Rat)-(s:Rat):=by rw[Rat.intCast_sub];rfl
theorem ser_int {A:Int} (j:Nat) : ∀M:List Nat,(∀s∈M,s≠j->((j:Int)-(s:Int))∣A) -> ∀k,isI (ser j M k*(prd j M:Rat)*(A:Rat)^k)
 | [],_,k=>by
  unfold ser prd;by_cases h:k=0
  ·subst h;rw[if_pos rfl,yw];exact⟨1,by decide +kernel⟩
  ·rw[if_neg h];exact⟨0,by grind⟩
 |s::M,hA,k=>by
  have ih:=ser_int j M (fun t ht=>hA t (yb _ ht));unfold ser prd;by_cases h:s=j
  ·rw[if_pos h,if_pos h];exact ih k
  ·rw[if_neg h,if_neg h];obtain⟨e,he⟩:=hA s yW h;have hd:=sub_ne h;have eA:(A:Rat)=((j:Rat)-(s:Rat))*(e:Rat):=by rw[he,wb,castd]
   rw[wb,castd];have key : ∀k,isI (dvu ((j:Rat)-(s:Rat)) (ser j M) k*((prd j M:Rat)*((j:Rat)-(s:Rat)))*(A:Rat)^k):=by
    intro k;have m:=mulu_dvu hd (ser j M);induction k with
    |zero=>
     have m0:((j:Rat)-(s:Rat))*dvu ((j:Rat)-(s:Rat)) (ser j M) 0=ser j M 0:=m 0;have i0:=ih 0;rw[<- m0]at i0;obtain⟨z,hz⟩:=i0;exact⟨z,by rw[<- hz];grind⟩
    |succ k ihk=>
     have m1:((j:Rat)-(s:Rat))*dvu ((j:Rat)-(s:Rat)) (ser j M) (k+1)+dvu ((j:Rat)-(s:Rat)) (ser j M) k=ser j M (k+1):=m (k+1);have i1:=isI_sub (ih (k+1)) (isI_mul ihk (isI_int e));obtain⟨z,hz⟩:=i1;refine⟨z,?_⟩;rw[<- hz,<- m1,yo,eA];generalize ((j:Rat)-(s:Rat))=d at *
     generalize dvu d (ser j M) (k+1)=y at *
     generalize dvu d (ser j M) k=y' at *
     generalize (d*(e:Rat))^k=P at *
     grind
   have:=key k;simpa only using this
theorem one_le_sub {j s:Nat} (h:s≠j):1<=(j:Rat)-(s:Rat)\/(j:Rat)-(s:Rat) <= -1:=by
 rcases xi s j with g|g
 ·left;have:((s+1:Nat):Rat)<=(j:Rat):=by exact_mod_cast g
  have e:((s+1:Nat):Rat)=(s:Rat)+1:=by exact_mod_cast rfl
  rw[e]at this;grind
 ·right;have g':j+1<=s:=by omega
  have:((j+1:Nat):Rat)<=(s:Rat):=by exact_mod_cast g'
  have e:((j+1:Nat):Rat)=(j:Rat)+1:=by exact_mod_cast rfl
  rw[e]at this;grind
def Bdd (x B:Rat):Prop := -B<=x/\x<=B
theorem Bdd_nn {x B:Rat} (h:Bdd x B):0<=B:=by obtain⟨a,b⟩:=h;grind
theorem Bdd_add {x y B C:Rat} (h:Bdd x B) (g:Bdd y C):Bdd (x+y) (B+C):=by
 obtain⟨a,b⟩:=h;obtain⟨c,d⟩:=g;constructor<;>grind
theorem Bdd_sub {x y B C:Rat} (h:Bdd x B) (g:Bdd y C):Bdd (x-y) (B+C):=by
 obtain⟨a,b⟩:=h;obtain⟨c,d⟩:=g;constructor<;>grind
theorem Bdd_mul {x y B C:Rat} (h:Bdd x B) (g:Bdd y C):Bdd (x*y) (B*C):=by
 have nB:=Bdd_nn h;have nC:=Bdd_nn g;obtain⟨a,b⟩:=h;obtain⟨c,d⟩:=g;have m1:=xF (show 0<=B-x by grind) (show 0<=C-y by grind);have m2:=xF (show 0<=B+x by grind) (show 0<=C+y by grind);have m3:=xF (show 0<=B-x by grind) (show 0<=C+y by grind);have m4:=xF (show 0<=B+x by grind) (show 0<=C-y by grind);constructor<;>grind
theorem Bdd_mono {x B C:Rat} (h:Bdd x B) (g:B<=C):Bdd x C:=by
 obtain⟨a,b⟩:=h;constructor<;>grind
theorem Bdd_div {x d B:Rat} (h:Bdd x B) (hd:1<=d\/d <= -1):Bdd (x/d) B:=by
 have dn:d≠0:=by grind
 have e:=mul_div d x dn;have nB:=Bdd_nn h;obtain⟨a,b⟩:=h;generalize x/d=y at *
 rcases hd with hd|hd
 ·constructor
  ·refine yZ.1 fun c => ?_
   have:=xF (show 0<=d-1 by grind) (show 0 <= -y-B by grind);have:=xF (show 0<=d-1 by grind) nB;grind
  ·refine yZ.1 fun c => ?_
   have:=xF (show 0<=d-1 by grind) (show 0<=y-B by grind);have:=xF (show 0<=d-1 by grind) nB;grind
 ·constructor
  ·refine yZ.1 fun c => ?_
   have:=xF (show 0 <= -d-1 by grind) (show 0 <= -y-B by grind);have:=xF (show 0 <= -d-1 by grind) nB;grind
  ·refine yZ.1 fun c => ?_
   have:=xF (show 0 <= -d-1 by grind) (show 0<=y-B by grind);have:=xF (show 0 <= -d-1 by grind) nB;grind
abbrev t2 (w:Nat):Rat:=((2^w:Nat):Rat)
theorem t2_pos (w:Nat):0<t2 w:=by
 have:0<2^w:=xK (by omega);exact_mod_cast this
theorem t2_succ (w:Nat):t2 (w+1)=t2 w+t2 w:=by
 show ((2^(w+1):Nat):Rat)=((2^w:Nat):Rat)+((2^w:Nat):Rat)
 rw[xU,Nat.mul_two];exact_mod_cast rfl
theorem t2_add (a b:Nat):t2 (a+b)=t2 a*t2 b:=by
 show ((2^(a+b):Nat):Rat)=_;rw[xM];exact_mod_cast rfl
theorem t2_mono {a b:Nat} (h:a<=b:=by omega):t2 a<=t2 b:=by
 have:2^a<=2^b:=xD (by omega) h;exact_mod_cast this
theorem dvu_bd {d:Rat} (hd:1<=d\/d <= -1) {f:Nat->Rat} {L:Nat} (h : ∀k,Bdd (f k) (t2 (L+k))) : ∀k,Bdd (dvu d f k) (t2 (L+1+k))
 |0=>Bdd_div (Bdd_mono (h 0) (t2_mono)) hd
 |k+1=>by
  have ih:=dvu_bd hd h k;refine Bdd_div ?_ hd;have e:=Bdd_sub (h (k+1)) (Bdd_mono ih (t2_mono (show L+1+k<=L+(k+1) by omega)));rw[show L+1+(k+1)=L+(k+1)+1 by omega,t2_succ];exact e
theorem ser_bd (j:Nat) : ∀ (M:List Nat) k,Bdd (ser j M k) (t2 (M.length+k))
 | [],k=>by
  unfold ser;have:=t2_mono (a:=0) (b:=([]:List Nat).length+k);have e:t2 0=1:=rfl;rw[e]at this;split
  ·exact⟨by grind,this⟩
  ·exact⟨by grind,by grind⟩
 |s::M,k=>by
  unfold ser;have ih:=ser_bd j M;by_cases h:s=j
  ·rw[if_pos h];exact Bdd_mono (ih k) (t2_mono (by simp))
  ·rw[if_neg h];have:=dvu_bd (one_le_sub h) ih k;rw[yS];exact this
theorem coef_bd (j:Nat) (M:List Nat) (i:Nat):Bdd (coef j M i) (t2 (M.length+M.count j)):=by
 unfold coef;split
 ·exact Bdd_mono (ser_bd j M _) (t2_mono)
 ·have:=t2_pos (M.length+M.count j);exact⟨by grind,by grind⟩
def nds:Nat->List Nat
 |0=>[]
 |n+1=>List.range 4097++nds n
theorem nds_lt : ∀n,∀t∈nds n,t<4097
 |0,t,h=>by cases h
 |n+1,t,h=>by
  rcases List.mem_append.1 h with h|h
  ·exact zX.1 h
  ·exact nds_lt n t h
theorem nds_len : ∀n,(nds n).length=4097*n
 |0=>rfl
 |n+1=>by
  show (List.range 4097++nds n).length=_;rw[yG,nds_len n,List.length_range];omega
theorem range_cnt {j:Nat} : ∀m,(List.range m).count j=if j<m then 1 else 0
 |0=>by rw[if_neg (by omega)];rfl
 |m+1=>by
  rw[List.range_succ,List.count_append,range_cnt m,List.count_singleton];rcases Nat.lt_trichotomy j m with h|h|h
  ·rw[if_pos h,if_pos (show j<m+1 by omega),show (m==j)=false from beq_eq_false_iff_ne.2 (by omega)];rfl
  ·subst h;rw[if_neg (by omega),if_pos (show j<j+1 by omega),beq_self_eq_true];rfl
  ·rw[if_neg (show ¬j<m by omega),if_neg (show ¬j<m+1 by omega),show (m==j)=false from beq_eq_false_iff_ne.2 (by omega)];rfl
theorem nds_cnt {j:Nat} (hj:j<4097) : ∀n,(nds n).count j=n
 |0=>rfl
 |n+1=>by
  show (List.range 4097++nds n).count j=_;rw[List.count_append,nds_cnt hj n,range_cnt,if_pos hj];omega
theorem prd_append (j:Nat) : ∀M M',prd j (M++M')=prd j M*prd j M'
 | [],M'=>by show prd j M'=1*prd j M';rw[Int.one_mul]
 |s::M,M'=>by
  show (if s=j then prd j (M++M') else prd j (M++M')*_)=(if s=j then prd j M else prd j M*_)*prd j M';split
  ·exact prd_append j M M'
  ·rw[prd_append j M M',Int.mul_assoc,Int.mul_assoc,Int.mul_comm (prd j M')]
theorem prd_nds (j:Nat) : ∀n,prd j (nds n)=prd j (List.range 4097)^n
 |0=>by rw[Int.pow_zero];rfl
 |n+1=>by
  show prd j (List.range 4097++nds n)=_;rw[prd_append,prd_nds j n,Int.pow_succ,Int.mul_comm]
def lcR:Nat->Nat->Nat
 |0,s=>s
 |d+1,s=>Nat.lcm (lcR d s) (lcR d (s+2^d))
theorem lcR_dvd : ∀d s k,s<=k->k<s+2^d->k∣lcR d s
 |0,s,k,h1,h2=>by
  rw[yr]at h2;obtain rfl:k=s:=by omega
  exact Nat.dvd_refl _
 |d+1,s,k,h1,h2=>by
  rw[xU]at h2;rcases xi k (s+2^d) with h|h
  ·exact Nat.dvd_trans (lcR_dvd d s k h1 h) (Nat.dvd_lcm_left _ _)
  ·exact Nat.dvd_trans (lcR_dvd d (s+2^d) k h (by omega)) (Nat.dvd_lcm_right _ _)
def L64:Int:=(lcR 12 1:Int)
theorem sub_dvd {j s:Nat} (hj:j<4097) (hs:s<4097) (h:s≠j):((j:Int)-(s:Int))∣L64:=by
 obtain⟨d,hd⟩ : ∃d:Nat,d=((j:Int)-(s:Int)).natAbs:=⟨_,rfl⟩
 have e:(2:Nat)^12=4096:=by decide
 have a:=lcR_dvd 12 1 d (by omega) (by omega);rw[<- Int.natAbs_dvd,<- hd];exact Int.natCast_dvd_natCast.2 a
theorem L64_le : ∀s:Nat,s=5950->Nat.ble (lcR 12 1) (2^s)=true/\Nat.blt 0 (lcR 12 1)=true:=by
 intro s h;subst h;decide +kernel
end Go.Ex
namespace Go.Ex
def tm (x:Rat):Nat->Rat
 |0=>1
 |m+1=>tm x m*x/((m+1:Nat):Rat)
def E (x:Rat):Nat->Rat
 |0=>0
 |m+1=>E x m+tm x m
theorem nsucc_ne (m:Nat):((m+1:Nat):Rat)≠0:=fun e=>by have:=nat_inj (b:=0) e;omega
theorem nsucc_pos (m:Nat):(0:Rat)<((m+1:Nat):Rat):=by exact_mod_cast Nat.succ_pos m
theorem nat_nn (m:Nat):(0:Rat)<=(m:Rat):=by exact_mod_cast zj m
theorem castadd (a b:Nat):((a+b:Nat):Rat)=(a:Rat)+(b:Rat):=by exact_mod_cast rfl
theorem castmul (a b:Nat):((a*b:Nat):Rat)=(a:Rat)*(b:Rat):=by exact_mod_cast rfl
theorem tm_succ (x:Rat) (m:Nat):((m+1:Nat):Rat)*tm x (m+1)=x*tm x m:=by
 show ((m+1:Nat):Rat)*(tm x m*x/((m+1:Nat):Rat))=_;rw[mul_div _ _ (nsucc_ne m),ya]
theorem div_nn {x d:Rat} (hx:0<=x) (hd:0<d):0<=x/d:=by
 have:=zU.2 hd;rw[xk];exact xF hx (xG this)
theorem tm_nn {x:Rat} (hx:0<=x) : ∀m,0<=tm x m
 |0=>by show (0:Rat)<=1;decide
 |m+1=>div_nn (xF (tm_nn hx m) hx) (nsucc_pos m)
theorem tm_pos {x:Rat} (hx:0<x) : ∀m,0<tm x m
 |0=>by show (0:Rat)<1;decide
 |m+1=>by
  show 0<tm x m*x/((m+1:Nat):Rat)
  rw[xk];exact xt (xt (tm_pos hx m) hx) (zU.2 (nsucc_pos m))
theorem cancel_l {c x y:Rat} (hc:c≠0) (h:c*x=c*y):x=y:=by
 have:c*(x-y)=0:=by grind
 rcases Rat.mul_eq_zero.1 this with h|h<;>grind
theorem tm_bin (x:Rat) : ∀n a b:Nat,a+b=n->((bin (a+b) a:Nat):Rat)*tm x (a+b)=tm x a*tm x b:=by
 intro n;induction n with
 |zero=>
  intro a b h;obtain⟨rfl,rfl⟩:a=0/\b=0:=⟨by omega,by omega⟩
  show ((1:Nat):Rat)*1=1*1;decide +kernel
 |succ n ih=>
  intro a b h;match a,b,h with
  |0,b+1,h=>
   rw[show bin (0+(b+1)) 0=1 by cases b<;>rfl,yV];show ((1:Nat):Rat)*_=1*_;rfl
  |a+1,0,h=>
   have e : ∀a,bin a a=1:=by
    intro a;induction a with
    |zero=>rfl
    |succ a iha=>show bin a a+bin a (a+1)=1;rw[iha,bin_big a (a+1) (by omega)]
   show ((bin (a+1) (a+1):Nat):Rat)*tm x (a+1)=tm x (a+1)*1;rw[e,yA];have:((1:Nat):Rat)=1:=rfl;rw[this,xc]
  |a+1,b+1,h=>
   have i1:=ih a (b+1) (by omega);have i2:=ih (a+1) b (by omega);rw[show a+(b+1)=a+b+1 by omega]at i1;rw[show a+1+b=a+b+1 by omega]at i2;rw[show a+1+(b+1)=a+b+1+1 by omega];have s:=tm_succ x (a+b+1);have sa:=tm_succ x a;have sb:=tm_succ x b;have eb:((bin (a+b+1+1) (a+1):Nat):Rat)=(bin (a+b+1) a:Rat)+(bin (a+b+1) (a+1):Rat):=by
    rw[<- castadd];rfl
   refine cancel_l (nsucc_ne (a+b+1)) ?_;have en:((a+b+1+1:Nat):Rat)=((a+1:Nat):Rat)+((b+1:Nat):Rat):=by rw[<- castadd];congr 1;omega
   rw[eb];have l:((a+b+1+1:Nat):Rat)*(((bin (a+b+1) a:Rat)+(bin (a+b+1) (a+1):Rat))*tm x (a+b+1+1))=((bin (a+b+1) a:Rat)+(bin (a+b+1) (a+1):Rat))*(((a+b+1+1:Nat):Rat)*tm x (a+b+1+1)):=by grind
   rw[l,s];have r:((a+b+1+1:Nat):Rat)*(tm x (a+1)*tm x (b+1))=(((a+1:Nat):Rat)*tm x (a+1))*tm x (b+1)+tm x (a+1)*(((b+1:Nat):Rat)*tm x (b+1)):=by rw[en];grind
   rw[r,sa,sb];have l2:((bin (a+b+1) a:Rat)+(bin (a+b+1) (a+1):Rat))*(x*tm x (a+b+1))=x*((bin (a+b+1) a:Rat)*tm x (a+b+1))+x*((bin (a+b+1) (a+1):Rat)*tm x (a+b+1)):=by grind
   rw[l2,i1,i2];grind
theorem tm_scale (j x:Rat) : ∀m,tm (j*x) m=j^m*tm x m
 |0=>by show (1:Rat)=j^0*1;rw[yw];decide +kernel
 |m+1=>by
  show tm (j*x) m*(j*x)/_=j^(m+1)*(tm x m*x/_)
  rw[tm_scale j x m,yo,xk,xk];grind
theorem bw_tm (j x:Rat) {m i:Nat} (h:i<=m):bw j m i*tm x m=tm x i*tm (j*x) (m-i):=by
 have b:=tm_bin x m i (m-i) (by omega);rw[show i+(m-i)=m by omega]at b;unfold bw;rw[tm_scale];have:(bin m i:Rat)*j^(m-i)*tm x m=j^(m-i)*((bin m i:Rat)*tm x m):=by grind
 rw[this,b];grind
theorem bw_big (j:Rat) {m i:Nat} (h:m<i:=by omega):bw j m i=0:=by
 unfold bw;rw[bin_big m i h];have:((0:Nat):Rat)=0:=rfl;rw[this,xw]
def Rn (M:List Nat) (x:Rat):Nat->Rat
 |0=>0
 |K+1=>Rn M x K+(Hn M K:Rat)*tm x K
def lv1 (a:Nat->Rat) (x:Rat) (v:Nat->Rat):Nat->Rat
 |0=>0
 |c+1=>lv1 a x v c+a c*tm x c*v c
def LV (M:List Nat) (x:Rat) (v:Nat->Nat->Rat):Nat->Rat
 |0=>0
 |J+1=>LV M x v J+lv1 (coef J M) x (v J) (M.count J)
theorem lv1_step (j x:Rat) (a:Nat->Rat) (K:Nat) : ∀c,lv1 a x (fun i=>E (j*x) (K+1-i)) c=lv1 a x (fun i=>E (j*x) (K-i)) c+gs j a K c*tm x K
 |0=>by show (0:Rat)=0+0*_;grind
 |c+1=>by
  show lv1 a x (fun i=>E (j*x) (K+1-i)) c+a c*tm x c*E (j*x) (K+1-c)=lv1 a x (fun i=>E (j*x) (K-i)) c+a c*tm x c*E (j*x) (K-c)+(gs j a K c+a c*bw j K c)*tm x K;rw[lv1_step j x a K c];by_cases h:c<=K
  ·rw[show K+1-c=K-c+1 by omega];have b:=bw_tm j x h;show _+a c*tm x c*(E (j*x) (K-c)+tm (j*x) (K-c))=_;have:a c*bw j K c*tm x K=a c*(bw j K c*tm x K):=by grind
   rw[wj,this,b];grind
  ·rw[bw_big j,show K+1-c=0 by omega,show K-c=0 by omega];grind
theorem LV_step (M:List Nat) (x:Rat) (K:Nat) : ∀J,LV M x (fun j i=>E ((j:Rat)*x) (K+1-i)) J=LV M x (fun j i=>E ((j:Rat)*x) (K-i)) J+Gn M K J*tm x K
 |0=>by show (0:Rat)=0+0*_;grind
 |J+1=>by
  show LV M x _ J+lv1 _ x (fun i=>E ((J:Rat)*x) (K+1-i)) _=LV M x _ J+lv1 _ x (fun i=>E ((J:Rat)*x) (K-i)) _+(Gn M K J+gs _ _ _ _)*tm x K;rw[LV_step M x K J,lv1_step];grind
theorem lv1_zero (a:Nat->Rat) (x:Rat) {v:Nat->Rat} (h : ∀i,v i=0) : ∀c,lv1 a x v c=0
 |0=>rfl
 |c+1=>by show lv1 a x v c+a c*tm x c*v c=0;rw[lv1_zero a x h c,h];grind
theorem LV_zero (M:List Nat) (x:Rat) {v:Nat->Nat->Rat} (h : ∀j i,v j i=0) : ∀J,LV M x v J=0
 |0=>rfl
 |J+1=>by show LV M x v J+lv1 _ x (v J) _=0;rw[LV_zero M x h J,lv1_zero _ x (h J)];grind
theorem Rn_eq {M:List Nat} {J:Nat} (hM : ∀t∈M,t<J) (x:Rat) : ∀K,LV M x (fun j i=>E ((j:Rat)*x) (K-i)) J=Rn M x K
 |0=>LV_zero M x (fun j i=>by rw[Nat.zero_sub];rfl) J
 |K+1=>by
  rw[LV_step,Rn_eq hM x K,Gn_eq J M.length M rfl hM K];rfl
theorem lv1_diff {a:Nat->Rat} {x A T e:Rat} {v v':Nat->Rat} (hx:0<=x) (hA : ∀i,Bdd (a i) A) : ∀c,(∀i,i<c->tm x i<=T)->(∀i,i<c->Bdd (v i-v' i) e)->Bdd (lv1 a x v c-lv1 a x v' c) ((c:Rat)*(A*T*e))
 |0,_,_=>by
  show Bdd (0-0) (((0:Nat):Rat)*_);have:((0:Nat):Rat)=0:=rfl;rw[this];constructor<;>grind
 |c+1,hT,hv=>by
  have ih:=lv1_diff (v:=v) (v':=v') hx hA c (fun i hi=>hT i (by omega)) (fun i hi=>hv i (by omega));have ht:Bdd (tm x c) T:=⟨by have:=tm_nn hx c;have:=hT c (by omega);grind,hT c (by omega)⟩
  have b:=Bdd_mul (Bdd_mul (hA c) ht) (hv c (by omega));have s:=Bdd_add ih b;have e1:lv1 a x v (c+1)-lv1 a x v' (c+1)=lv1 a x v c-lv1 a x v' c+a c*tm x c*(v c-v' c):=by
   show lv1 a x v c+a c*tm x c*v c-(lv1 a x v' c+a c*tm x c*v' c)=_;grind
  have e2:((c+1:Nat):Rat)*(A*T*e)=(c:Rat)*(A*T*e)+A*T*e:=by
   have:((c+1:Nat):Rat)=(c:Rat)+1:=castadd c 1;rw[this];grind
  rw[e1,e2];exact s
theorem LV_diff {M:List Nat} {x A T e:Rat} {v v':Nat->Nat->Rat} {n:Nat} (hx:0<=x) : ∀J,(∀j,j<J->M.count j=n /\ ∀i,Bdd (coef j M i) A)->(∀i,i<n->tm x i<=T)->(∀j i,j<J->i<n->Bdd (v j i-v' j i) e)->Bdd (LV M x v J-LV M x v' J) ((J:Rat)*((n:Rat)*(A*T*e)))
 |0,_,_,_=>by
  show Bdd (0-0) (((0:Nat):Rat)*_);have:((0:Nat):Rat)=0:=rfl;rw[this];constructor<;>grind
 |J+1,hA,hT,hv=>by
  have ih:=LV_diff (v:=v) (v':=v') hx J (fun j hj=>hA j (by omega)) hT (fun j i hj hi=>hv j i (by omega) hi);obtain⟨hc,hb⟩:=hA J (by omega);have b:=lv1_diff (v:=v J) (v':=v' J) hx hb n hT (fun i hi=>hv J i (by omega) hi);have s:=Bdd_add ih b;have e1:LV M x v (J+1)-LV M x v' (J+1)=LV M x v J-LV M x v' J+(lv1 (coef J M) x (v J) n-lv1 (coef J M) x (v' J) n):=by
   show LV M x v J+lv1 _ x (v J) (M.count J)-(LV M x v' J+lv1 _ x (v' J) (M.count J))=_;rw[hc];grind
  have e2:((J+1:Nat):Rat)*((n:Rat)*(A*T*e))=(J:Rat)*((n:Rat)*(A*T*e))+(n:Rat)*(A*T*e):=by
   have:((J+1:Nat):Rat)=(J:Rat)+1:=castadd J 1;rw[this];grind
  rw[e1,e2];exact s
theorem Hn_small : ∀ (M:List Nat) (m:Nat),m+1<M.length->Hn M m=0
 | [],_,h=>by simp at h
 |s::M,0,h=>Hn_zero (by rintro rfl;simp at h)
 |s::M,m+1,h=>by
  show s*Hn (s::M) m+Hn M m=0;rw[Hn_small (s::M) m (by omega),Hn_small M m (by rw[yS]at h;omega),yX]
theorem Hn_first : ∀ (M:List Nat) (m:Nat),m+1=M.length->Hn M m=1
 | [],_,h=>by simp at h
 |s::M,0,h=>by
  have:M=[]:=by cases M;rfl;simp at h
  subst this;rfl
 |s::M,m+1,h=>by
  show s*Hn (s::M) m+Hn M m=1;rw[Hn_small (s::M) m (by omega),Hn_first M m (by rw[yS]at h;omega),yX,yV]
theorem Hn_le {c:Nat} : ∀ (M:List Nat) (m:Nat),(∀t∈M,t<=c)->0<M.length->Hn M m<=bin m (M.length-1)*c^(m-(M.length-1))
 |s::M,0,h,_=>by
  show (if M=[] then 1 else 0)<=_;by_cases e:M=[]
  ·subst e;rw[if_pos rfl];exact xQ _
  ·rw[if_neg e];exact zj _
 |s::M,m+1,h,hl=>by
  have i1:=Hn_le (s::M) m h (by simp);have hs:=h s yW;show s*Hn (s::M) m+Hn M m<=_;rw[yS,wF]at *
  by_cases e:M=[]
  ·subst e;have hz:Hn [] m=0:=by cases m<;>rfl
   rw[hz];show s*Hn [s] m+0<=bin (m+1) 0*c^(m+1);have b0:bin (m+1) 0=1:=rfl;have b1:bin m 0=1:=by cases m<;>rfl
   rw[b0,xe];have i1':Hn [s] m<=bin m 0*c^m:=i1;rw[b1,xe]at i1';have:=xO hs i1';rw[xU,xV (c^m)];omega
  ·obtain⟨k,hk⟩ : ∃k,M.length=k+1:=⟨M.length-1,by have:0<M.length:=wg.2 e;omega⟩
   have i2:=Hn_le M m (fun t ht=>h t (yb _ ht)) (by omega);rw[hk]at i1 i2 ⊢;rw[wF]at i2;show _<=(bin m k+bin m (k+1))*c^(m+1-(k+1));rw[show m+1-(k+1)=m-k by omega,xZ];have m1:=xO hs i1;by_cases h2:k+1<=m
   ·have e2:c*(bin m (k+1)*c^(m-(k+1)))=bin m (k+1)*c^(m-k):=by
     rw[show m-k=m-(k+1)+1 by omega,xU,ym,xV c]
    rw[e2]at m1;omega
   ·rw[bin_big m (k+1) (by omega)]at m1 ⊢;rw[zY]at m1 ⊢;omega
end Go.Ex
namespace Go.Ex
theorem E_nn {x:Rat} (hx:0<=x) : ∀K,0<=E x K
 |0=>xN
 |K+1=>by show 0<=E x K+tm x K;have:=E_nn hx K;have:=tm_nn hx K;grind
theorem E_mono {x:Rat} (hx:0<=x) {K L:Nat} (h:K<=L):E x K<=E x L:=by
 induction L with
 |zero=>rw[show K=0 by omega];exact xN
 |succ L ih=>
  by_cases e:K=L+1
  ·rw[e];exact xN
  ·have:=ih (by omega);have:=tm_nn hx L;show E x K<=E x L+tm x L;grind
def cv (f g:Nat->Rat) (n:Nat):Nat->Rat
 |0=>0
 |c+1=>cv f g n c+f c*g (n-c)
theorem cv_step (x y:Rat) (n:Nat) : ∀c,c<=n->((n+1:Nat):Rat)*cv (tm x) (tm y) (n+1) (c+1)=x*cv (tm x) (tm y) n c+y*cv (tm x) (tm y) n (c+1)
 |0,_=>by
  have s:=tm_succ y n;show ((n+1:Nat):Rat)*(0+1*tm y (n+1))=x*0+y*(0+1*tm y n)
  grind
 |c+1,h=>by
  have ih:=cv_step x y n c (by omega);obtain⟨d,hd⟩ : ∃d,n=c+1+d:=⟨n-(c+1),by omega⟩
  have s1:=tm_succ x c;have s2:=tm_succ y d;show ((n+1:Nat):Rat)*(cv (tm x) (tm y) (n+1) (c+1)+tm x (c+1)*tm y (n+1-(c+1)))=x*(cv (tm x) (tm y) n c+tm x c*tm y (n-c))+y*(cv (tm x) (tm y) n (c+1)+tm x (c+1)*tm y (n-(c+1)))
  rw[show n+1-(c+1)=d+1 by omega,show n-c=d+1 by omega,show n-(c+1)=d by omega];have en:((n+1:Nat):Rat)=((c+1:Nat):Rat)+((d+1:Nat):Rat):=by rw[<- castadd];congr 1;omega
  have l:((n+1:Nat):Rat)*(tm x (c+1)*tm y (d+1))=(((c+1:Nat):Rat)*tm x (c+1))*tm y (d+1)+tm x (c+1)*(((d+1:Nat):Rat)*tm y (d+1)):=by rw[en];grind
  rw[Rat.mul_add,ih,l,s1,s2];grind
theorem cv_full (x y:Rat) : ∀n,cv (tm x) (tm y) n (n+1)=tm (x+y) n
 |0=>by show 0+(1:Rat)*1=1;decide +kernel
 |n+1=>by
  have ih:=cv_full x y n;have c1:=cv_step x y n n (xQ n);have s1:=tm_succ x n;have s:=tm_succ (x+y) n;refine cancel_l (nsucc_ne n) ?_;rw[s,<- ih];have e1:cv (tm x) (tm y) (n+1) (n+1+1)=cv (tm x) (tm y) (n+1) (n+1)+tm x (n+1)*1:=by
   show _+tm x (n+1)*tm y (n+1-(n+1))=_;rw[wo];rfl
  have e2:cv (tm x) (tm y) n (n+1)=cv (tm x) (tm y) n n+tm x n*1:=by
   show _+tm x n*tm y (n-n)=_;rw[wo];rfl
  rw[e1,Rat.mul_add,c1,yA,s1];have e3:(x+y)*cv (tm x) (tm y) n (n+1)=x*cv (tm x) (tm y) n (n+1)+y*cv (tm x) (tm y) n (n+1):=by grind
  rw[e3];have e4:x*cv (tm x) (tm y) n (n+1)=x*cv (tm x) (tm y) n n+x*tm x n:=by rw[e2];grind
  rw[e4];grind
def pe (x y:Rat) (N:Nat):Nat->Rat
 |0=>0
 |c+1=>pe x y N c+tm x c*E y (N-c)
theorem pe_step (x y:Rat) (N:Nat) : ∀c,c<=N+1->pe x y (N+1) c=pe x y N c+cv (tm x) (tm y) N c
 |0,_=>by show (0:Rat)=0+0;grind
 |c+1,h=>by
  have ih:=pe_step x y N c (by omega);show pe x y (N+1) c+tm x c*E y (N+1-c)=pe x y N c+tm x c*E y (N-c)+(cv (tm x) (tm y) N c+tm x c*tm y (N-c))
  rw[ih,show N+1-c=N-c+1 by omega];show _+tm x c*(E y (N-c)+tm y (N-c))=_;grind
theorem pe_full (x y:Rat) : ∀N,pe x y N N=E (x+y) N
 |0=>rfl
 |N+1=>by
  have ih:=pe_full x y N;show pe x y (N+1) (N+1)=E (x+y) N+tm (x+y) N;rw[pe_step x y N (N+1) (xQ _),cv_full,<- ih];show pe x y N N+tm x N*E y (N-N)+_=_;rw[wo];show pe x y N N+tm x N*0+_=_;grind
theorem pe_le {x y:Rat} (hx:0<=x) (hy:0<=y) (N:Nat) : ∀c,pe x y N c<=E x c*E y N
 |0=>by show (0:Rat)<=0*_;rw[xw];exact xN
 |c+1=>by
  have ih:=pe_le hx hy N c;have m:=xB (E_mono hy (zt N c)) (tm_nn hx c);show pe x y N c+tm x c*E y (N-c)<=(E x c+tm x c)*E y N;grind
theorem pe_ge {x y:Rat} (hx:0<=x) (hy:0<=y) (K L:Nat) : ∀c,c<=K->E x c*E y L<=pe x y (K+L) c
 |0,_=>by show (0:Rat)*_<=0;rw[xw];exact xN
 |c+1,h=>by
  have ih:=pe_ge hx hy K L c (by omega);have m:=xB (E_mono hy (show L<=K+L-c by omega)) (tm_nn hx c);show (E x c+tm x c)*E y L<=pe x y (K+L) c+tm x c*E y (K+L-c);grind
theorem pe_up {x y:Rat} (hx:0<=x) (hy:0<=y) (N:Nat) {c d:Nat} (h:c<=d):pe x y N c<=pe x y N d:=by
 induction d with
 |zero=>rw[show c=0 by omega];exact xN
 |succ d ih=>
  by_cases e:c=d+1
  ·rw[e];exact xN
  ·have:=ih (by omega);have:=xF (tm_nn hx d) (E_nn hy (N-d));show pe x y N c<=pe x y N d+_;grind
theorem E_add_le {x y:Rat} (hx:0<=x) (hy:0<=y) (N:Nat):E (x+y) N<=E x N*E y N:=by
 rw[<- pe_full];exact pe_le hx hy N N
theorem E_add_ge {x y:Rat} (hx:0<=x) (hy:0<=y) (K L:Nat):E x K*E y L<=E (x+y) (K+L):=by
 rw[<- pe_full];exact xE (pe_ge hx hy K L K (xQ _)) (pe_up hx hy _ (wI _ _))
theorem pow_nn {x:Rat} (hx:0<=x) : ∀n:Nat,0<=x^n
 |0=>by rw[yw];decide
 |n+1=>by rw[yo];exact xF (pow_nn hx n) hx
theorem E_zero : ∀K,E 0 (K+1)=1
 |0=>by show (0:Rat)+1=1;decide +kernel
 |K+1=>by
  show E 0 (K+1)+tm 0 K*0/_=1;rw[E_zero K,wC,xk,xw,wi]
theorem mul_nat (j:Nat) (x:Rat):((j+1:Nat):Rat)*x=(j:Rat)*x+x:=by
 have:((j+1:Nat):Rat)=(j:Rat)+1:=castadd j 1;rw[this];grind
theorem jx_nn {x:Rat} (hx:0<=x) (j:Nat):0<=(j:Rat)*x:=xF (nat_nn j) hx
theorem E_pow_ge {x:Rat} (hx:0<=x) {K:Nat} (hK:0<K) : ∀j:Nat,E ((j:Rat)*x) K<=E x K^j
 |0=>by
  have:((0:Nat):Rat)=0:=rfl;rw[this,xw,yw];obtain⟨k,rfl⟩ : ∃k,K=k+1:=⟨K-1,by omega⟩
  rw[E_zero];exact xN
 |j+1=>by
  have ih:=E_pow_ge hx hK j;rw[mul_nat,yo];exact xE (E_add_le (jx_nn hx j) hx K) (xA ih (E_nn hx K))
theorem E_pow_le {x:Rat} (hx:0<=x) (K:Nat) : ∀j:Nat,E x K^j<=E ((j:Rat)*x) (j*K+1)
 |0=>by
  have:((0:Nat):Rat)=0:=rfl;rw[this,xw,yw,zY,E_zero];exact xN
 |j+1=>by
  have ih:=E_pow_le hx K j;rw[mul_nat,yo,show (j+1)*K+1=j*K+1+K by rw[xZ];omega];exact xE (xA ih (E_nn hx K)) (E_add_ge (jx_nn hx j) hx _ K)
theorem le_by {x y c:Rat} (hc:0<c) (h:x*c<=y*c):x<=y:=by
 rcases zC (a:=x) (b:=y) with h1|h1
 ·exact h1
 ·have h2:=xA h1 (by grind:(0:Rat)<=c);have h3:(x-y)*c=0:=by grind
  rcases Rat.mul_eq_zero.1 h3 with h4|h4<;>grind
theorem tm_half {y:Rat} (hy:0<=y) {m:Nat} (h:y+y<=((m+1:Nat):Rat)):tm y (m+1)+tm y (m+1)<=tm y m:=by
 have s:=tm_succ y m;have p:=nsucc_pos m;refine le_by p ?_;have n:=tm_nn hy m;have m1:=xA h n;grind
theorem E_tail {y:Rat} (hy:0<=y) {N:Nat} (h:y+y<=((N+1:Nat):Rat)) : ∀k,E y (N+k)+2*tm y (N+k)<=E y N+2*tm y N
 |0=>xN
 |k+1=>by
  have ih:=E_tail hy h k;have c:((N+1:Nat):Rat)<=((N+k+1:Nat):Rat):=by exact_mod_cast (by omega:N+1<=N+k+1)
  have t:=tm_half hy (m:=N+k) (xE h c);show E y (N+k)+tm y (N+k)+2*tm y (N+k+1)<=_;grind
theorem E_tail_le {y:Rat} (hy:0<=y) {N L:Nat} (h:y+y<=((N+1:Nat):Rat)):E y L<=E y N+2*tm y N:=by
 by_cases g:N<=L
 ·have t:=E_tail hy h (L-N);rw[show N+(L-N)=L by omega]at t;have:=tm_nn hy L;grind
 ·have:=E_mono hy (show L<=N by omega);have:=tm_nn hy N;grind
theorem tm_pow2 {y:Rat} (hy:0<=y) {N:Nat} (h:y+y<=((N+1:Nat):Rat)) : ∀k,tm y (N+k)*t2 k<=tm y N
 |0=>by show tm y N*1<=tm y N;rw[yA];exact xN
 |k+1=>by
  have ih:=tm_pow2 hy h k;have c:((N+1:Nat):Rat)<=((N+k+1:Nat):Rat):=by exact_mod_cast (by omega:N+1<=N+k+1)
  have t:=tm_half hy (m:=N+k) (xE h c);have m:=xA t (xG (t2_pos k));rw[t2_succ];show tm y (N+k+1)*(t2 k+t2 k)<=_;grind
theorem denR (D:Rat):D*(D.den:Rat)=(D.num:Rat):=by
 have dn:(0:Rat)<(D.den:Rat):=by exact_mod_cast Rat.den_pos (self:=D)
 have:=(wk D.num D.den).symm.trans (wB D);have e:=xd (a:=(D.num:Rat)) (b:=(D.den:Rat)) (by grind);rwa [this]at e
theorem le_nat (D:Rat) : ∃n:Nat,D<=(n:Rat):=by
 refine⟨D.num.natAbs,?_⟩;have e:=denR D;have h1:(1:Rat)<=(D.den:Rat):=by exact_mod_cast D.den_pos
 have h2:(D.num:Rat)<=((D.num.natAbs:Int):Rat):=zo.2 (by omega);have h3:((D.num.natAbs:Int):Rat)=(D.num.natAbs:Rat):=rfl;rw[h3]at h2;rcases zC (a:=D) (b:=0) with g|g
 ·exact xE g (nat_nn _)
 ·have:=xB h1 g;grind
theorem nat_t2 (n:Nat):(n:Rat)<=t2 n:=by
 have:n<=2^n:=zf (Nat.lt_two_pow_self);exact_mod_cast this
theorem tm_small {y:Rat} (hy:0<=y) {e:Rat} (he:0<e) : ∃N:Nat,∀m,N<=m->y+y<=((m+1:Nat):Rat)/\2*tm y m<=e:=by
 obtain⟨n0,h0⟩:=le_nat (y+y);obtain⟨n1,h1⟩:=le_nat (2*tm y n0/e);have hn:y+y<=((n0+1:Nat):Rat):=xE h0 (by exact_mod_cast yg n0);refine⟨n0+n1,fun m hm=>⟨xE hn (by exact_mod_cast (by omega:n0+1<=m+1)),?_⟩⟩;have t:=tm_pow2 hy hn (m-n0);rw[show n0+(m-n0)=m by omega]at t;have a:(n1:Rat)<=t2 (m-n0):=xE (nat_t2 n1) (t2_mono);have b:=xE h1 a;have c:=xA b (xG he);rw[xd (by grind)]at c;have P:=t2_pos (m-n0);refine le_by P ?_;generalize t2 (m-n0)=w at *
 grind
end Go.Ex
namespace Go.Ex
theorem castpow (z:Int) : ∀n:Nat,((z^n:Int):Rat)=(z:Rat)^n
 |0=>by rw[Int.pow_zero,yw];rfl
 |n+1=>by rw[Int.pow_succ,yo,wb,castpow z n]
theorem castpowN (z:Nat) : ∀n:Nat,((z^n:Nat):Rat)=(z:Rat)^n
 |0=>by rw[yr,yw];rfl
 |n+1=>by rw[xU,yo,castmul,castpowN z n]
theorem pow_plus (q:Rat) (m:Nat) : ∀n:Nat,q^(m+n)=q^m*q^n
 |0=>by rw[yE,yw,yA]
 |n+1=>by rw[<- zR,yo,pow_plus q m n,yo,zG]
theorem mul_powR (p q:Rat) : ∀n:Nat,(p*q)^n=p^n*q^n
 |0=>by rw[yw,yw,yw];decide +kernel
 |n+1=>by rw[yo,mul_powR p q n,yo,yo];grind
def fac:Nat->Nat
 |0=>1
 |n+1=>fac n*(n+1)
theorem fac_pos : ∀n,0<fac n
 |0=>Nat.one_pos
 |n+1=>yu (fac_pos n) (Nat.succ_pos n)
theorem fac_dvd (i:Nat) : ∀d,fac i∣fac (i+d)
 |0=>Nat.dvd_refl _
 |d+1=>Nat.dvd_trans (fac_dvd i d) (Nat.dvd_mul_right _ _)
theorem fac_two : ∀s i d:Nat,i+d=s->fac i*fac d∣fac (i+d)
 |0,i,d,h=>by
  obtain⟨rfl,rfl⟩:i=0/\d=0:=by omega
  exact Nat.dvd_refl _
 |s+1,0,d,_=>by rw[yV];show 1*fac d∣fac d;rw[xe];exact Nat.dvd_refl _
 |s+1,i+1,0,_=>by rw[yE];show fac (i+1)*1∣_;rw[yD];exact Nat.dvd_refl _
 |s+1,i+1,d+1,h=>by
  have a:=fac_two s i (d+1) (by omega);have b:=fac_two s (i+1) d (by omega);have e:fac (i+1+(d+1))=fac (i+(d+1))*(i+1)+fac (i+1+d)*(d+1):=by
   rw[show i+1+(d+1)=(i+d+1)+1 by omega,show i+(d+1)=i+d+1 by omega,show i+1+d=i+d+1 by omega,<- xY];show fac (i+d+1)*(i+d+1+1)=_;congr 1;omega
  rw[e];refine Nat.dvd_add ?_ ?_
  ·have:fac (i+1)*fac (d+1)=fac i*fac (d+1)*(i+1):=by show fac i*(i+1)*fac (d+1)=_;rw[wl]
   rw[this];exact Nat.mul_dvd_mul_right a _
  ·have:fac (i+1)*fac (d+1)=fac (i+1)*fac d*(d+1):=by show fac (i+1)*(fac d*(d+1))=_;rw[xP]
   rw[this];exact Nat.mul_dvd_mul_right b _
theorem prd_one {j k:Nat} (h:k≠j:=by omega):prd j [k]=(j:Int)-(k:Int):=by
 show (if k=j then prd j [] else prd j []*_)=_;rw[if_neg h];show (1:Int)*_=_;rw[Int.one_mul]
theorem prd_self (j:Nat):prd j [j]=1:=by
 show (if j=j then prd j [] else prd j []*_)=_;rw[if_pos rfl];rfl
theorem prd_low (j:Nat) : ∀k,k<=j->prd j (List.range k)*(fac (j-k):Int)=(fac j:Int)
 |0,_=>by show (1:Int)*_=_;rw[Int.one_mul,Nat.sub_zero]
 |k+1,h=>by
  have ih:=prd_low j k (by omega);rw[List.range_succ,prd_append,prd_one];obtain⟨d,hd⟩ : ∃d,j-k=d+1:=⟨j-k-1,by omega⟩
  have e:fac (j-k)=fac (j-(k+1))*(d+1):=by rw[hd,show j-(k+1)=d by omega];rfl
  rw[e]at ih;rw[show (j:Int)-(k:Int)=((d+1:Nat):Int) by omega,<- ih,yF,Int.mul_assoc,Int.mul_comm ((d+1:Nat):Int)]
theorem prd_high (j:Nat) : ∀d,∃s:Int,(s=1\/s = -1)/\prd j (List.range (j+1+d))=s*((fac j*fac d:Nat):Int)
 |0=>by
  have l:=prd_low j j (xQ j);rw[wo]at l;refine⟨1,.inl rfl,?_⟩;rw[yE,List.range_succ,prd_append,prd_self,yF,<- l,Int.one_mul,Int.mul_one];show _=prd j (List.range j)*((1:Nat):Int)*((1:Nat):Int)
  omega
 |d+1=>by
  obtain⟨s,hs,e⟩:=prd_high j d;refine⟨-s,by omega,?_⟩;rw[<- zR,List.range_succ,prd_append,prd_one,e,show (j:Int)-((j+1+d:Nat):Int) = -((d+1:Nat):Int) by omega];have:fac j*fac (d+1)=fac j*fac d*(d+1):=by show fac j*(fac d*(d+1))=_;rw[xP]
  rw[this,yF (fac j*fac d),wX,wY,Int.mul_assoc]
def F64:Int:=(fac 4096:Int)
theorem prd_dvd {j:Nat} (hj:j<4097):prd j (List.range 4097)∣F64:=by
 obtain⟨s,hs,e⟩:=prd_high j (4096-j);rw[show j+1+(4096-j)=4097 by omega]at e;have d:=fac_two 4096 j (4096-j) (by omega);rw[show j+(4096-j)=4096 by omega]at d;have d2:((fac j*fac (4096-j):Nat):Int)∣F64:=Int.natCast_dvd_natCast.2 d;rw[e];rcases hs with rfl|rfl
 ·rw[Int.one_mul];exact d2
 ·rw[wX,Int.one_mul];exact Int.neg_dvd.2 d2
theorem coef_int {j n i:Nat} (hj:j<4097:=by omega):isI (coef j (nds n) i*((F64:Rat)^n*(L64:Rat)^n)):=by
 unfold coef;rw[nds_cnt hj];split
 ·rename_i h;have s:=ser_int (A:=L64) j (nds n) (fun t ht hne=>sub_dvd hj (nds_lt n t ht) hne) (n-1-i);rw[prd_nds,castpow]at s;obtain⟨z,hz⟩:=prd_dvd hj;rw[hz,wb,mul_powR,show n=(n-1-i)+(i+1) by omega,pow_plus (L64:Rat)];have e:=isI_mul s (isI_mul (isI_pow (isI_int z) n) (isI_pow (isI_int L64) (i+1)));rw[show n-1-i+(i+1)=n by omega];obtain⟨w,hw⟩:=e;refine⟨w,?_⟩;rw[<- hw];grind
 ·rw[xw];exact isI_zero
theorem tm_fac (x:Rat) : ∀m,tm x m*(fac m:Rat)=x^m
 |0=>by rw[yw];show (1:Rat)*((1:Nat):Rat)=1;decide +kernel
 |m+1=>by
  have s:=tm_succ x m;show tm x (m+1)*((fac m*(m+1):Nat):Rat)=_;rw[castmul,yo,<- tm_fac x m];have:tm x (m+1)*((fac m:Rat)*((m+1:Nat):Rat))=(((m+1:Nat):Rat)*tm x (m+1))*(fac m:Rat):=by grind
  rw[this,s];grind
theorem tm_int {x:Rat} {a b:Nat} (hx:x*(b:Rat)=(a:Rat)) {i n:Nat} (h:i<=n:=by omega):isI (tm x i*((b:Rat)^n*(fac n:Rat))):=by
 obtain⟨d,rfl⟩ : ∃d,n=i+d:=⟨n-i,by omega⟩
 obtain⟨q,hq⟩:=fac_dvd i d;rw[hq,castmul,pow_plus];have t:=tm_fac x i;have e:tm x i*((b:Rat)^i*(b:Rat)^d*((fac i:Rat)*(q:Rat)))=(x*(b:Rat))^i*((b:Rat)^d*(q:Rat)):=by
  rw[mul_powR,<- t];grind
 rw[e,hx];exact isI_mul (isI_pow (isI_nat a) i) (isI_mul (isI_pow (isI_nat b) d) (isI_nat q))
theorem al_int {al:Rat} {u v:Nat} (h:al*(v:Rat)=(u:Rat)) {j J:Nat} (hj:j<=J:=by omega):isI (al^j*(v:Rat)^J):=by
 obtain⟨d,rfl⟩ : ∃d,J=j+d:=⟨J-j,by omega⟩
 rw[pow_plus];have e:al^j*((v:Rat)^j*(v:Rat)^d)=(al*(v:Rat))^j*(v:Rat)^d:=by rw[mul_powR];grind
 rw[e,h];exact isI_mul (isI_pow (isI_nat u) j) (isI_pow (isI_nat v) d)
theorem lv1_int {a:Nat->Rat} {x y C T V:Rat} (hC : ∀i,isI (a i*C)) : ∀c,(∀i,i<c->isI (tm x i*T))->isI (y*V)->isI (lv1 a x (fun _=>y) c*(C*T*V))
 |0,_,_=>by show isI (0*_);rw[xw];exact isI_zero
 |c+1,hT,hV=>by
  have ih:=lv1_int (x:=x) hC c (fun i hi=>hT i (by omega)) hV;have t:=isI_mul (isI_mul (hC c) (hT c (by omega))) hV;have e:lv1 a x (fun _=>y) (c+1)*(C*T*V)=lv1 a x (fun _=>y) c*(C*T*V)+a c*C*(tm x c*T)*(y*V):=by
   show (lv1 a x (fun _=>y) c+a c*tm x c*y)*(C*T*V)=_;grind
  rw[e];exact isI_add ih t
theorem LV_int {n:Nat} {x al T V:Rat} (hT : ∀i,i<n->isI (tm x i*T)) : ∀J,J<=4097->(∀j,j<J->isI (al^j*V))->isI (LV (nds n) x (fun j _=>al^j) J*((F64:Rat)^n*(L64:Rat)^n*T*V))
 |0,_,_=>by show isI (0*_);rw[xw];exact isI_zero
 |J+1,hJ,hV=>by
  have ih:=LV_int (al:=al) hT J (by omega) (fun j hj=>hV j (by omega));have t:=lv1_int (a:=coef J (nds n)) (x:=x) (y:=al^J) (C:=(F64:Rat)^n*(L64:Rat)^n) (T:=T) (V:=V) (fun i=>coef_int) n hT (hV J (by omega));have e:LV (nds n) x (fun j _=>al^j) (J+1)=LV (nds n) x (fun j _=>al^j) J+lv1 (coef J (nds n)) x (fun _=>al^J) n:=by
   show _+lv1 _ x _ ((nds n).count J)=_;rw[nds_cnt (by omega)]
  rw[e,wj];exact isI_add ih t
theorem Rn_nn {M:List Nat} {x:Rat} (hx:0<=x) : ∀K,0<=Rn M x K
 |0=>xN
 |K+1=>by
  have:=Rn_nn (M:=M) hx K;have:=xF (nat_nn (Hn M K)) (tm_nn hx K);show 0<=Rn M x K+_;grind
theorem Rn_ge {M:List Nat} {x:Rat} {N:Nat} (hx:0<=x) (hN:N+1=M.length) : ∀K,N<K->tm x N<=Rn M x K
 |K+1,h=>by
  show tm x N<=Rn M x K+(Hn M K:Rat)*tm x K;by_cases e:N=K
  ·subst e;rw[Hn_first M N hN];have:=Rn_nn (M:=M) hx N;have h1:((1:Nat):Rat)=1:=rfl;rw[h1];grind
  ·have ih:=Rn_ge hx hN K (by omega);have:=xF (nat_nn (Hn M K)) (tm_nn hx K);grind
theorem Rn_le {M:List Nat} {x:Rat} {N c:Nat} (hx:0<=x) (hN:N+1=M.length) (hM : ∀t∈M,t<=c) : ∀K,Rn M x K<=tm x N*E ((c:Rat)*x) (K-N)
 |0=>by
  show (0:Rat)<=tm x N*E _ (0-N);exact xF (tm_nn hx N) (E_nn (jx_nn hx c) _)
 |K+1=>by
  have ih:=Rn_le hx hN hM K;show Rn M x K+(Hn M K:Rat)*tm x K<=_;by_cases h:N<=K
  ·rw[show K+1-N=K-N+1 by omega];show _<=tm x N*(E ((c:Rat)*x) (K-N)+tm ((c:Rat)*x) (K-N))
   have b:=bw_tm (c:Rat) x h;have hl:=Hn_le M K hM (by omega);rw[show M.length-1=N by omega]at hl;have hr:(Hn M K:Rat)<=bw (c:Rat) K N:=by
    have:((Hn M K:Nat):Rat)<=((bin K N*c^(K-N):Nat):Rat):=by exact_mod_cast hl
    rw[castmul,castpowN]at this;exact this
   have m:=xA hr (tm_nn hx K);rw[b]at m;grind
  ·rw[Hn_small M K (by omega),show K+1-N=K-N by omega];have:((0:Nat):Rat)=0:=rfl;rw[this,xw,wi];exact ih
theorem bern (N:Nat) : ∀k,k<=N+1->(N+1-k)*(N+1)^k<=(N+1)*N^k
 |0,_=>by rw[yr,yr,Nat.sub_zero];exact xQ _
 |k+1,h=>by
  have ih:=bern N k (by omega);obtain⟨d,hd⟩ : ∃d,N=k+d:=⟨N-k,by omega⟩
  have m:=xC N ih;rw[xU,xU,show N+1-(k+1)=d by omega];rw[show N+1-k=d+1 by omega]at m;refine xH ?_ (xH m (by rw[xP];exact xQ _));have e1:d*((N+1)^k*(N+1))=d*(N+1)*(N+1)^k:=by rw[xV ((N+1)^k),xP]
  have e2:(d+1)*(N+1)^k*N=(d+1)*N*(N+1)^k:=by rw[xP,xV ((N+1)^k),xP]
  rw[e1,e2];refine xC _ ?_;rw[xY,xZ,yD,xe];omega
theorem four (N:Nat):(N+1)^N<=4*N^N:=by
 have key : ∀k,2*k<=N+1->(N+1)^k<=2*N^k:=by
  intro k hk;have b:=bern N k (by omega);have m:=xC ((N+1)^k) (show N+1<=2*(N+1-k) by omega);have:(N+1)*(N+1)^k<=(N+1)*(2*N^k):=by
   refine xH m ?_;rw[xP 2,ym (N+1) 2];exact xI 2 b
  exact Nat.le_of_mul_le_mul_left this (Nat.succ_pos N)
 have sq : ∀k,2*k<=N+1->(N+1)^(2*k)<=4*N^(2*k):=by
  intro k hk;have h:=key k hk;have m:=xO h h;rw[show 2*k=k+k by omega,xM,xM];refine xH m ?_;have:2*N^k*(2*N^k)=4*(N^k*N^k):=by rw[Nat.mul_mul_mul_comm]
  rw[this];exact xQ _
 by_cases h:N%2=0
 ·have:=sq (N/2) (by omega);rwa [show 2*(N/2)=N by omega]at this
 ·have:=sq ((N+1)/2) (by omega);rw[show 2*((N+1)/2)=N+1 by omega,xU,xU]at this;have h2:(N+1)^N*(N+1)<=4*N^N*(N+1):=by
   refine xH this ?_;rw[<- xP];exact xI _ (yg N)
  exact yv h2 (Nat.succ_pos N)
theorem fac_low : ∀N,N^N<=4^N*fac N
 |0=>xQ _
 |N+1=>by
  have ih:=fac_low N;have f:=four N;show (N+1)^N*(N+1)<=4^N*4*(fac N*(N+1))
  have e:4^N*4*(fac N*(N+1))=4*(4^N*fac N)*(N+1):=by
   rw[xV (4^N) 4,xP 4,xP 4,xP (4^N)]
  rw[e];exact xC _ (xH f (xI 4 ih))
theorem fac_up : ∀N,fac N<=N^N
 |0=>xQ _
 |N+1=>by
  show fac N*(N+1)<=(N+1)^N*(N+1)
  exact xC _ (xH (fac_up N) (zP (yg N) N))
end Go.Ex
namespace Go.Ex
theorem castle {a b:Nat} (h:a<=b:=by omega):(a:Rat)<=(b:Rat):=by exact_mod_cast h
theorem castlt {a b:Nat} (h:a<b:=by omega):(a:Rat)<(b:Rat):=by exact_mod_cast h
theorem big_fac {n N b v r m sF sL sB sv:Nat} (hn:n=8192) (hN:N=33562623) (hr:r=425985) (hm:m=4096) (hsF:sF=49152) (hsL:sL=5950) (hsB:sB=11000) (hsv:sv=520) (hb:b<=2^sB) (hv:v<=2^sv) (F L:Nat) (hF:F<=2^sF) (hL:L<=2^sL) :
  F^n*L^n*(b^n*fac n)*v^m*64^N*2^r<fac N:=by
 have h1:F^n<=2^(sF*n):=by rw[zF];exact zP hF n
 have h2:L^n<=2^(sL*n):=by rw[zF];exact zP hL n
 have h3:b^n<=2^(sB*n):=by rw[zF];exact zP hb n
 have h4:fac n<=2^(13*n):=by
  refine xH (fac_up n) ?_;rw[zF];exact zP (by omega) n
 have h5:v^m<=2^(sv*m):=by rw[zF];exact zP hv m
 have h6:64^N<=2^(6*N):=by rw[zF];exact xQ _
 have h7:2^(23*N)<=fac N:=by
  have a:2^(25*N)<=N^N:=by rw[zF];exact zP (by omega) N
  have c:(4:Nat)^N=2^(2*N):=by rw[zF]
  have d:=xH a (fac_low N);rw[c,show 25*N=2*N+23*N by omega,xM]at d;exact Nat.le_of_mul_le_mul_left d (xK (by omega))
 refine xz (yM (xO (xO (xO (xO (xO h1 h2) (xO h3 h4)) h5) h6) (xQ (2^r))) ?_) h7;rw[<- xM,<- xM,<- xM,<- xM,<- xM,<- xM];have e1:sF*n=49152*n:=by rw[hsF]
 have e2:sv*m=2129920:=by rw[hsv,hm]
 have e3:sL*n=5950*n:=by rw[hsL]
 have e4:sB*n=11000*n:=by rw[hsB]
 exact zS (by omega) (by omega)
theorem small_fac {n N b W r sB:Nat} (hn:n=8192) (hN:N=33562623) (hr:r=425999) (hsB:sB=11000) (hb:b<=2^sB) (hW:371000000000<=W) :
  4097*n*2^(4098*n)*2^(6*n)*2^r*fac N*b^N<=2^W:=by
 have h1:4097*n<=2^26:=by omega
 have h3:b^N<=2^(sB*N):=by rw[zF];exact zP hb N
 have h4:fac N<=2^(26*N):=by
  refine xH (fac_up N) ?_;rw[zF];exact zP (by omega) N
 refine xH (xO (xO (xO (xO (xO h1 (xQ _)) (xQ _)) (xQ _)) h4) h3) ?_;rw[<- xM,<- xM,<- xM,<- xM,<- xM];have e4:sB*N=11000*N:=by rw[hsB]
 exact xD (by omega) (by omega)
theorem tm_mono {x y:Rat} (hx:0<=x) (h:x<=y) : ∀m,tm x m<=tm y m
 |0=>xN
 |m+1=>by
  refine le_by (nsucc_pos m) ?_;have s1:=tm_succ x m;have s2:=tm_succ y m;have ih:=tm_mono hx h m;have m1:=xA h (tm_nn hx m);have m2:=xB ih (show 0<=y by grind);rw[ya (tm x (m+1)),s1,ya (tm y (m+1)),s2];exact xE m1 m2
theorem tm_64 {x:Rat} (hx:0<=x) (h:x<=64) : ∀i,tm x i<=t2 (6*i)
 |0=>xN
 |i+1=>by
  refine le_by (nsucc_pos i) ?_;have s:=tm_succ x i;have ih:=tm_64 hx h i;have m1:=xA h (tm_nn hx i);have e:t2 (6*(i+1))=64*t2 (6*i):=by
   rw[show 6*(i+1)=6+6*i by omega,t2_add];rfl
  have c:(1:Rat)<=((i+1:Nat):Rat):=castle (show 1<=i+1 by omega);have P:=xG (t2_pos (6*(i+1)));have m2:=xB c P;rw[ya (tm x (i+1)),s];rw[e]at m2 ⊢;generalize t2 (6*i)=w at *
  grind
theorem pow_diff {e al B d:Rat} (he:0<=e) (hal:0<=al) (h1:e<=B) (h2:al<=B) (hB:1<=B) (hd:Bdd (e-al) d) : ∀j:Nat,Bdd (e^j-al^j) ((j:Rat)*(B^j*d))/\Bdd (e^j) (B^j)/\Bdd (al^j) (B^j)
 |0=>by
  rw[yw,yw,yw];have:((0:Nat):Rat)=0:=rfl;rw[this];refine⟨⟨by grind,by grind⟩,⟨by decide,xN⟩,⟨by decide,xN⟩⟩
 |j+1=>by
  obtain⟨ih,b1,b2⟩:=pow_diff he hal h1 h2 hB hd j;have c1:Bdd e B:=⟨by grind,h1⟩
  have c2:Bdd al B:=⟨by grind,h2⟩
  rw[yo,yo,yo];refine⟨?_,Bdd_mul b1 c1,Bdd_mul b2 c2⟩;have m1:=Bdd_mul b1 hd;have m2:=Bdd_mul ih c2;have s:=Bdd_add m1 m2;have nd:=Bdd_nn hd;have nB:=Bdd_nn b1;have k:=xB hB (xF nB nd);have ej:((j+1:Nat):Rat)=(j:Rat)+1:=castadd j 1;have e1:e^j*e-al^j*al=e^j*(e-al)+(e^j-al^j)*al:=by grind
  rw[e1,ej];refine Bdd_mono s ?_;generalize B^j=P at *
  grind
theorem pow_t2 (k:Nat) : ∀j:Nat,t2 k^j=t2 (k*j)
 |0=>by rw[yw,yX];rfl
 |j+1=>by rw[yo,pow_t2 k j,Nat.mul_succ,t2_add]
end Go.Ex
namespace Go.Ex
theorem mul_div4 {a b:Rat} (hb:0<b):b*(a/b)=a:=mul_div b a (by grind)
theorem exp_far {a b u v W:Nat} {x al:Rat} (hW:371000000000<=W) (ha:0<a) (hb:0<b) {sB:Nat} (hsB:sB=11000) (hb2:b<=2^sB) (hx:x*(b:Rat)=(a:Rat)) (hx2:x<=64) {sv:Nat} (hsv:sv=520) (hv:0<v) (hv2:v<=2^sv) (hal:al*(v:Rat)=(u:Rat)) (ha0:0<al) (ha2:al<=t2 103) :
  ∃K0:Nat,∀K,K0<=K -> ¬Bdd ((E x K-al)*t2 W) 1:=by
 obtain⟨n,hn⟩ : ∃n:Nat,n=8192:=⟨_,rfl⟩
 obtain⟨N,hN⟩ : ∃N:Nat,N=33562623:=⟨_,rfl⟩
 obtain⟨q,hq⟩ : ∃q:Nat,q=425984:=⟨_,rfl⟩
 obtain⟨sF,hsF⟩ : ∃q:Nat,q=49152:=⟨_,rfl⟩
 have bp:(0:Rat)<(b:Rat):=castlt hb;have vp:(0:Rat)<(v:Rat):=castlt hv;have hx0:0<x:=by
  rcases zC (a:=x) (b:=0) with h|h
  ·have m:=xA h (xG bp);rw[hx,xw]at m;have:(0:Rat)<(a:Rat):=castlt ha;grind
  ·by_cases e:x=0
   ·subst e;rw[xw]at hx;have:(0:Rat)<(a:Rat):=castlt ha;grind
   ·grind
 have hx0':=xG hx0;have T0:=tm_pos hx0 N
 -- how small the rest must be
 obtain⟨C,hC⟩ : ∃C:Rat,C=((4097:Nat):Rat)*((n:Rat)*(t2 (4098*n)*t2 (6*n))):=⟨_,rfl⟩
 have Cp:0<C:=by
  rw[hC];exact xt (castlt (a:=0) (b:=4097)) (xt (castlt (a:=0) (b:=n)) (xt (t2_pos _) (t2_pos _)))
 obtain⟨eta,heta⟩ : ∃e:Rat,e=tm x N/(4*C):=⟨_,rfl⟩
 have C4:0<4*C:=xt (by decide) Cp;have etaC:4*C*eta=tm x N:=by rw[heta];exact mul_div4 C4
 have etap:0<eta:=by
  rw[heta,xk];exact xt T0 (zU.2 C4)
 obtain⟨N2,hN2⟩:=tm_small (y:=((4096:Nat):Rat)*x) (jx_nn hx0' 4096) etap;refine⟨N2+n+N+1,fun K hK hB => ?_⟩;obtain⟨e,he⟩ : ∃e:Rat,e=E x K:=⟨_,rfl⟩
 rw[<- he]at hB;have e0:0<=e:=by rw[he];exact E_nn hx0' K
 -- the distance
 obtain⟨d,hd⟩ : ∃d:Rat,d=1/t2 W:=⟨_,rfl⟩
 have Wp:=t2_pos W;have dW:t2 W*d=1:=by rw[hd];exact mul_div4 Wp
 have d0:0<d:=by
  rw[hd,xk,xc];exact zU.2 Wp
 have hd2:Bdd (e-al) d:=by
  obtain⟨b1,b2⟩:=hB;constructor
  ·refine le_by Wp ?_;rw[show -d*t2 W = -(t2 W*d) by grind,dW];exact b1
  ·refine le_by Wp ?_;rw[show d*t2 W=t2 W*d by grind,dW];exact b2
 have d1:d<=1:=by
  refine le_by Wp ?_;rw[show d*t2 W=t2 W*d by grind,dW,xc];exact castle (xK (by omega))
 have B1:(1:Rat)<=t2 104:=by decide +kernel
 have eB:e<=t2 104:=by
  have:t2 104=t2 103+t2 103:=t2_succ 103;have h1:(1:Rat)<=t2 103:=by decide +kernel
  obtain⟨b1,b2⟩:=hd2;rw[this];grind
 have alB:al<=t2 104:=xE ha2 (t2_mono);have pd:=pow_diff e0 (xG ha0) eB alB B1 hd2;obtain⟨Bq,hBq⟩ : ∃q:Rat,q=t2 104:=⟨_,rfl⟩
 rw[<- hBq]at pd B1 eB alB;have Bmono : ∀j:Nat,j<=4096->Bq^j<=t2 q:=by
  intro j hj;rw[hBq,pow_t2];exact t2_mono
 -- the two forms
 have hM:=nds_lt n;have req:=Rn_eq hM x K;obtain⟨R,hR⟩ : ∃R,R=Rn (nds n) x K:=⟨_,rfl⟩
 obtain⟨Q,hQ⟩ : ∃Q,Q=LV (nds n) x (fun j _=>al^j) 4097:=⟨_,rfl⟩
 have hl:N+1=(nds n).length:=by rw[nds_len];omega
 have Rge:tm x N<=R:=by rw[hR];exact Rn_ge hx0' hl K (by omega)
 have Rle:R<=tm x N*t2 q:=by
  rw[hR];refine xE (Rn_le (c:=4096) hx0' hl (fun t ht=>by have:=hM t ht;omega) K) ?_;refine xB ?_ (xG T0);refine xE (E_mono (jx_nn hx0' 4096) (zt K N)) ?_;refine xE (E_pow_ge hx0' (by omega) 4096) ?_;rw[<- he];exact xE (pd 4096).2.1.2 (Bmono 4096 (by omega))
 have err : ∀j i:Nat,j<4097->i<n->Bdd (E ((j:Rat)*x) (K-i)-al^j) (eta+4096*(t2 q*d)):=by
  intro j i hj hi;have j64:((j:Nat):Rat)*x<=((4096:Nat):Rat)*x:=xA (castle) hx0';obtain⟨g1,g2⟩:=hN2 (K-i) (by omega);have up:=E_tail_le (L:=j*K+1) (jx_nn hx0' j) (N:=K-i) (by
   refine xE ?_ g1;grind)
  have g3:=tm_mono (jx_nn hx0' j) j64 (K-i);have lo:=xE (E_mono (jx_nn hx0' j) (zt K i)) (E_pow_ge hx0' (show 0<K by omega) j);have hi2:=xE (E_pow_le hx0' K j) up;rw[<- he]at lo hi2;have b1:Bdd (E ((j:Rat)*x) (K-i)-e^j) eta:=by
   constructor<;>grind
  have b2:=(pd j).1;have b3:Bdd (e^j-al^j) (4096*(t2 q*d)):=by
   refine Bdd_mono b2 ?_;have m1:=xA (Bmono j (by omega)) (xG d0);have m2:(j:Rat)<=4096:=castle (show j<=4096 by omega);have n1:=xF (Bdd_nn (pd j).2.1) (xG d0);have m3:=xA m2 n1;have m4:=xB m1 (show (0:Rat)<=4096 by decide);exact xE m3 m4
  have s:=Bdd_add b1 b2;have s:=Bdd_add b1 b3;have e1:E ((j:Rat)*x) (K-i)-al^j=E ((j:Rat)*x) (K-i)-e^j+(e^j-al^j):=by grind
  rw[e1];exact s
 have df:=LV_diff (M:=nds n) (x:=x) (A:=t2 (4098*n)) (T:=t2 (6*n)) (n:=n) hx0' 4097 (fun j hj=>⟨nds_cnt hj n,fun i=>Bdd_mono (coef_bd j (nds n) i) (t2_mono (by rw[nds_len,nds_cnt hj];omega))⟩)
  (fun i hi=>xE (tm_64 hx0' hx2 i) (t2_mono)) err
 rw[req,<- hR,<- hQ]at df;have eC:((4097:Nat):Rat)*((n:Rat)*(t2 (4098*n)*t2 (6*n)*(eta+4096*(t2 q*d))))=C*eta+C*(4096*(t2 q*d)):=by rw[hC];grind
 rw[eC]at df
 -- the distance's part is small as well
 have sm:4*(C*(4096*(t2 q*d)))<=tm x N:=by
  have s:=castle (small_fac (b:=b) (r:=q+15) hn hN (by omega) hsB hb2 hW);have tf:=tm_fac x N;have xb:x^N*(b:Rat)^N=(a:Rat)^N:=by rw[<- mul_powR,hx]
  have aN:(1:Rat)<=(a:Rat)^N:=by rw[<- castpowN];exact castle (xK ha)
  have bN:(0:Rat)<(b:Rat)^N:=by rw[<- castpowN];exact castlt (xK hb)
  have fN:(0:Rat)<(fac N:Rat):=castlt (fac_pos N);have P:0<t2 W*((fac N:Rat)*(b:Rat)^N):=xt Wp (xt fN bN);refine le_by P ?_;have l:4*(C*(4096*(t2 q*d)))*(t2 W*((fac N:Rat)*(b:Rat)^N))=4*(C*(4096*t2 q))*((fac N:Rat)*(b:Rat)^N)*(t2 W*d):=by grind
  have r:tm x N*(t2 W*((fac N:Rat)*(b:Rat)^N))=t2 W*(tm x N*(fac N:Rat)*(b:Rat)^N):=by grind
  rw[l,r,dW,tf,xb,yA];have c1:((4097*n*2^(4098*n)*2^(6*n)*2^(q+15)*fac N*b^N:Nat):Rat)=4*(C*(4096*t2 q))*((fac N:Rat)*(b:Rat)^N)*2:=by
   rw[castmul,castmul,castmul,castmul,castmul,castmul,castpowN b,hC];have p:((2^(q+15):Nat):Rat)=t2 q*32768:=t2_add q 15;rw[p];generalize t2 q=q';grind
  rw[c1]at s;have nn:0<=4*(C*(4096*t2 q))*((fac N:Rat)*(b:Rat)^N):=xF (xF (by decide) (xF (xG Cp) (xF (by decide) (xG (t2_pos _))))) (xF (xG fN) (xG bN));have m:=xB aN (xG Wp);have s':4*(C*(4096*t2 q))*((fac N:Rat)*(b:Rat)^N)*2<=t2 W:=s;generalize 4*(C*(4096*t2 q))*((fac N:Rat)*(b:Rat)^N)=z at *
  grind
 have ec:4*(C*eta)=tm x N:=by rw[<- etaC];grind
 obtain⟨f1,f2⟩:=df;have Qpos:0<Q:=by
  generalize C*eta=y1 at *
  generalize C*(4096*(t2 q*d))=y2 at *
  clear Rle pd err;grind
 have one:(1:Rat)<=t2 q:=by rw[show (1:Rat)=t2 0 from rfl];exact t2_mono
 have Qle:Q<=tm x N*t2 (q+1):=by
  have e2:t2 (q+1)=t2 q+t2 q:=t2_succ q;have m:=xB one (xG T0);rw[e2,Rat.mul_add];generalize tm x N*t2 q=y0 at *
  generalize C*eta=y1 at *
  generalize C*(4096*(t2 q*d))=y2 at *
  clear pd err;grind
 -- it is a whole number by a denominator
 obtain⟨k,hk⟩ : ∃k:Nat,k=4096:=⟨_,rfl⟩
 obtain⟨D,hD⟩ : ∃D:Rat,D=(F64:Rat)^n*(L64:Rat)^n*((b:Rat)^n*(fac n:Rat))*(v:Rat)^k:=⟨_,rfl⟩
 have qi:isI (Q*D):=by
  rw[hQ,hD];exact LV_int (fun i hi=>tm_int hx) 4097 (xQ _) (fun j hj=>al_int hal)
 obtain⟨F,hF⟩ : ∃F:Nat,F=fac k:=⟨_,rfl⟩
 have hF':F64=(F:Int):=by rw[hF,hk];rfl
 obtain⟨L,hL⟩ : ∃L:Nat,L=lcR 12 1:=⟨_,rfl⟩
 have hL':L64=(L:Int):=by rw[hL];rfl
 have F2:F<=2^sF:=by
  rw[hF,show sF=12*k by omega];refine xH (fac_up k) ?_;rw[zF];exact zP (by omega) k
 have F0:0<F:=by rw[hF];exact fac_pos _
 obtain⟨sL,hsL⟩ : ∃q:Nat,q=5950:=⟨_,rfl⟩
 obtain⟨k1,k2⟩:=L64_le sL hsL;have L2:L<=2^sL:=by rw[hL];exact xj k1
 have L0:0<L:=by rw[hL];exact xj k2
 clear hF hL k1 k2;have bf:=big_fac (b:=b) (v:=v) (r:=q+1) (m:=k) hn hN (by omega) hk hsF hsL hsB hsv hb2 hv2 F L F2 L2;have Dn:D=((F^n*L^n*(b^n*fac n)*v^k:Nat):Rat):=by
  rw[hD,hF',hL',castmul,castmul,castmul,castmul,castpowN,castpowN,castpowN,castpowN];rfl
 have Dpos:0<D:=by
  rw[Dn];exact castlt (yu (yu (yu (xK F0) (xK L0)) (yu (xK hb) (fac_pos n))) (xK hv))
 have lt1:Q*D<1:=by
  have fN:(0:Rat)<(fac N:Rat):=castlt (fac_pos N);have tf:=tm_fac x N;have xp:x^N<=((64^N:Nat):Rat):=by
   rw[castpowN];have g : ∀k:Nat,x^k<=((64:Nat):Rat)^k:=by
    intro k;induction k with
    |zero=>rw[yw,yw];exact xN
    |succ k ih=>
     rw[yo,yo];exact xE (xA ih hx0') (xB hx2 (pow_nn (nat_nn 64) k))
   exact g N
  have m1:=xA Qle (xG Dpos);have bf':=castlt bf;rw[castmul,castmul,<- Dn]at bf';have P6:=t2_pos (q+1);have bf2:D*((64^N:Nat):Rat)*t2 (q+1)<(fac N:Rat):=bf';have m2:=xB xp (xG (xt Dpos P6));refine wv.1 fun hc => ?_
  have m3:=xA (xE hc m1) (xG fN);have r:tm x N*t2 (q+1)*D*(fac N:Rat)=D*t2 (q+1)*(tm x N*(fac N:Rat)):=by grind
  rw[r,tf,xc]at m3;have r2:D*((64^N:Nat):Rat)*t2 (q+1)=D*t2 (q+1)*((64^N:Nat):Rat):=by grind
  rw[r2]at bf2;exact absurd (xE m3 m2) (wv.2 bf2)
 obtain⟨z,hz⟩:=qi;have zp:0<Q*D:=xt Qpos Dpos;rw[hz]at zp lt1;have z1:0<z:=Rat.intCast_pos.1 zp;have z2:(1:Rat)<=(z:Rat):=zo.2 (show (1:Int)<=z by omega);exact absurd z2 (wv.2 lt1)
end Go.Ex
namespace Go.Proofs.YtfknkoeagjonbaaGreat
open Go.Ev
def eRow (w Y:Nat):Nat->Nat->Nat->Nat->Nat->Nat->Option (Nat×Nat)
 |0,_,_,_,_,_=>none
 |f+1,n,t1,t2,a1,a2=>if t2<2 then some (a1,a2+1) else
   eRow w Y f (n+1) (t1*Y/2^w*1/n) ((t2*(Y+1)/2^w+1)*1/n+1) (a1+t1*Y/2^w*1/n) (a2+((t2*(Y+1)/2^w+1)*1/n+1))
def eInv (w n t1 t2 a1 a2:Nat):Prop:=1<=n/\t1<=t2/\t2<=t1+5/\t2<=2^w+1/\2^w<=a1/\a1<=a2/\a2<=a1+5*n/\a2+t2<=2^(w+1)+2+4*n
theorem eInv_0 (w:Nat):eInv w 1 (2^w) (2^w+1) (2^w) (2^w+1):=by
 have:2^(w+1)=2^w*2:=xU _ _;unfold eInv;omega
theorem eStep_le {w Y n t2:Nat} (hw:64<=w) (hY:Y+1<=2^(w-7)) (hn:1<=n):(t2*(Y+1)/2^w+1)*1/n+1<=t2/128+2:=by
 have P:0<2^w:=xK (by omega);have e:2^w=2^(w-7)*128:=by rw[show (128:Nat)=2^7 from rfl,<- xM];congr 1;omega
 have h1:t2*(Y+1)/2^w<=t2/128:=by
  rw[e];refine xH (xf (xI t2 hY)) ?_;rw[xV t2,Nat.mul_div_mul_left _ _ (xK (by omega))];exact xQ _
 rw[yD];have h2:=xv (t2*(Y+1)/2^w+1) n;omega
theorem eInv_step {w Y n t1 t2 a1 a2:Nat} (hw:64<=w) (hY:Y+1<=2^(w-7)) (h:eInv w n t1 t2 a1 a2) :
  eInv w (n+1) (t1*Y/2^w*1/n) ((t2*(Y+1)/2^w+1)*1/n+1) (a1+t1*Y/2^w*1/n) (a2+((t2*(Y+1)/2^w+1)*1/n+1)):=by
 obtain⟨h1,h2,h3,h4,h5,h6,h7,h8⟩:=h;have up:=eStep_le (t2:=t2) hw hY h1;have P:0<2^w:=xK (by omega);have e:2^w=2^(w-7)*128:=by rw[show (128:Nat)=2^7 from rfl,<- xM];congr 1;omega
 have big:1024<=2^(w-7):=xH (by decide) (xD (n:=2) (by omega) (show 10<=w-7 by omega));have q1:t2*(Y+1)/2^w<=t1*Y/2^w+2:=by
  have m1:t2*(Y+1)<=t1*Y+2^w*2:=by
   have a:=xC (Y+1) h3;have b:(t1+5)*(Y+1)=t1*Y+t1+5*(Y+1):=by rw[xZ,xY,yD]
   omega
  have:=xf (c:=2^w) m1;rwa [wZ _ _ P]at this
 have q0:t1*Y/2^w<=t2*(Y+1)/2^w:=xf (xO h2 (by omega));generalize t1*Y/2^w=x1 at *
 generalize t2*(Y+1)/2^w=x2 at *
 rw[yD,yD]at *
 have g1:x1/n<=(x2+1)/n:=xf (by omega);have g2:(x2+1)/n<=x1/n+3:=by
  have a:(x2+1)/n<=(x1+3*n)/n:=xf (by have:=yi 3 h1;omega);rwa [Nat.add_mul_div_right _ _ h1]at a
 generalize x1/n=u1 at *
 generalize (x2+1)/n=u2 at *
 unfold eInv;omega
theorem eRow_end {w Y:Nat} (hw:64<=w) (hY:Y+1<=2^(w-7)) : ∀ (m f n t1 t2 a1 a2:Nat),eInv w n t1 t2 a1 a2->t2<=2^(7*m)+3->(m=0->2<=n)->m+2<=f -> ∃A B s,eRow w Y f n t1 t2 a1 a2=some (A,B)/\n<=s/\s<=n+m+1/\2^w<=A/\A<=B/\B<=A+5*s+1/\B<=2^(w+1)+3+4*s:=by
 intro m;induction m with
 |zero=>
  intro f n t1 t2 a1 a2 h ht hn hf;obtain⟨f,rfl⟩ : ∃k,f=k+2:=⟨f-2,by omega⟩
  have hh:=h;obtain⟨h1,h2,h3,h4,h5,h6,h7,h8⟩:=hh;rw[eRow];by_cases g:t2<2
  ·rw[if_pos g];exact⟨a1,a2+1,n,rfl,xQ _,by omega,h5,by omega,by omega,by omega⟩
  ·rw[if_neg g];have st:=eInv_step hw hY h;have e:(t2*(Y+1)/2^w+1)*1/n+1=1:=by
    have P:0<2^w:=xK (by omega);have e7:2^w=2^(w-7)*128:=by rw[show (128:Nat)=2^7 from rfl,<- xM];congr 1;omega
    have z:t2*(Y+1)/2^w=0:=by
     refine yn ?_;have m:=xO (show t2<=4 by have:2^(7*0)=1:=rfl;omega) hY;have:0<2^(w-7):=xK (by omega);omega
    rw[z,yD,yV,yn (show 1<n by have:=hn rfl;omega)]
   rw[e]at st ⊢;rw[eRow,if_pos (by omega)];obtain⟨k1,k2,k3,k4,k5,k6,k7,k8⟩:=st;exact⟨_,_,n+1,rfl,by omega,by omega,k5,by omega,by omega,by omega⟩
 |succ m ih=>
  intro f n t1 t2 a1 a2 h ht hn hf;obtain⟨f,rfl⟩ : ∃k,f=k+1:=⟨f-1,by omega⟩
  have hh:=h;obtain⟨h1,h2,h3,h4,h5,h6,h7,h8⟩:=hh;rw[eRow];by_cases g:t2<2
  ·rw[if_pos g];exact⟨a1,a2+1,n,rfl,xQ _,by omega,h5,by omega,by omega,by omega⟩
  ·rw[if_neg g];have st:=eInv_step hw hY h;have up:=eStep_le (t2:=t2) hw hY h1;have dv:t2/128<=2^(7*m):=by
    have e:2^(7*(m+1))=2^(7*m)*128:=by rw[show 7*(m+1)=7*m+7 by omega,xM]
    rw[e]at ht;omega
   obtain⟨A,B,s,r1,r2,r3,r4,r5,r6,r7⟩:=ih f (n+1) _ _ _ _ st (by omega) (by omega) (by omega);exact⟨A,B,s,r1,by omega,by omega,r4,r5,r6,r7⟩
theorem eRow_enc {w Y:Nat} {y:Rat} (hy:Enc w Y (Y+1) y) (hy1:y+y<=1) : ∀ (f n t1 t2 a1 a2 A B:Nat),eRow w Y f (n+1) t1 t2 a1 a2=some (A,B)->Enc w t1 t2 (Ex.tm y n)->Enc w a1 a2 (Ex.E y (n+1)) -> ∃s,∀L,s<=L->Enc w A B (Ex.E y L):=by
 have y0:=enc_nonneg hy;intro f;induction f with
 |zero=>intro n t1 t2 a1 a2 A B h;cases h
 |succ f ih=>
  intro n t1 t2 a1 a2 A B h ht ha;rw[eRow]at h;by_cases g:t2<2
  ·rw[if_pos g]at h;simp only[Option.some.injEq,Prod.mk.injEq]at h;obtain⟨rfl,rfl⟩:=h;refine⟨n+1,fun L hL => ?_⟩;have P:=p2_pos w;have mono:=Ex.E_mono y0 hL;have c:((2:Nat):Rat)<=((n+1+1:Nat):Rat):=by exact_mod_cast (by omega:2<=n+1+1)
   have tail:=Ex.E_tail_le (L:=L) y0 (N:=n+1) (xE (show y+y<=((2:Nat):Rat) from xE hy1 (by decide)) c);have tn:=Ex.tm_nn y0 n;have ts:=Ex.tm_succ y n;have half:2*Ex.tm y (n+1)<=Ex.tm y n:=by
    have c1:((1:Nat):Rat)<=((n+1:Nat):Rat):=by exact_mod_cast (by omega:1<=n+1)
    have tn1:=Ex.tm_nn y0 (n+1);have m1:=xA c1 tn1;have m2:=xA hy1 tn;rw[ts]at m1;have e1:((1:Nat):Rat)=1:=rfl;rw[e1]at m1;grind
   obtain⟨l1,l2⟩:=ha;obtain⟨l3,l4⟩:=ht;have t1':(t2:Rat)<=1:=by exact_mod_cast (by omega:t2<=1)
   have eb:((a2+1:Nat):Rat)=(a2:Rat)+1:=by exact_mod_cast rfl
   refine⟨xE l1 (xA mono (xG P)),?_⟩;rw[eb];have m3:=xA (show Ex.E y L<=Ex.E y (n+1)+Ex.tm y n by grind) (xG P);rw[wj]at m3;generalize Ex.E y L*p2 w=z1 at *
   generalize Ex.E y (n+1)*p2 w=z2 at *
   generalize Ex.tm y n*p2 w=z3 at *
   clear mono tail tn ts half;grind
  ·rw[if_neg g]at h;have e1:=enc_times (n:=1) (d:=n+1) (by omega) (enc_mul ht hy);have e2:Ex.tm y n*y*((1:Nat):Rat)/((n+1:Nat):Rat)=Ex.tm y (n+1):=by
    have:((1:Nat):Rat)=1:=rfl;rw[this,yA];rfl
   rw[e2]at e1;exact ih (n+1) _ _ _ _ A B h e1 (enc_add ha e1)
def sqs (w:Nat):Nat->Nat->Nat->Nat×Nat
 |0,lo,hi=>(lo,hi)
 |k+1,lo,hi=>sqs w k (lo*lo/2^w) (hi*hi/2^w+1)
theorem sq_step {w lo hi c G:Nat} (h1:2^w<=lo) (h2:lo<=hi) (h3:hi<2^(w+c)) (h4:hi<=lo+G:=by omega) (hG:1<=G:=by omega) :
  2^w<=lo*lo/2^w/\lo*lo/2^w<=hi*hi/2^w+1/\hi*hi/2^w+1<2^(w+(c+c))/\hi*hi/2^w+1<=lo*lo/2^w+G*2^(c+2):=by
 have P:0<2^w:=xK (by omega);have Pc:0<2^c:=xK (by omega);have e1:2^(w+c)=2^w*2^c:=xM _ _ _;have e2:2^(w+(c+c))=2^w*2^c*2^c:=by rw[xM,xM,xP]
 have e3:2^(c+2)=2^c*4:=xM _ _ _;refine⟨(Nat.le_div_iff_mul_le P).2 (xO h1 h1),yP (xf (xO h2 h2)),?_,?_⟩
 ·have m:hi*hi<(2^w*2^c*2^c-1)*2^w:=by
   obtain⟨d,hd⟩ : ∃d,2^w*2^c=hi+1+d:=⟨2^w*2^c-hi-1,by omega⟩
   have a:(hi+1)*(hi+1)<=2^w*2^c*(2^w*2^c):=xO (by omega) (by omega);have b:2^w*2^c*(2^w*2^c)=2^w*2^c*2^c*2^w:=by generalize 2^w=x;generalize 2^c=y;grind
   have e:(hi+1)*(hi+1)=hi*hi+2*hi+1:=by clear h1 h2 h3 h4 a;grind
   rw[e,b]at a;rw[Nat.sub_mul,xe];have:2^w<=hi:=xH h1 h2;generalize 2^w*2^c*2^c*2^w=z at *
   generalize hi*hi=y at *
   omega
  have r:=(yC P).2 m;rw[e2];clear m e2 e1 e3 h3 h4;generalize hi*hi/2^w=t at *
  generalize 2^w*2^c*2^c=z at *
  omega
 ·have m:hi*hi<=lo*lo+2^w*(G*(2^c*2)):=by
   obtain⟨g,hg,hgG⟩ : ∃g,hi=lo+g/\g<=G:=⟨hi-lo,by omega,by omega⟩
   have a:hi*hi=lo*lo+g*(hi+lo):=by subst hg;clear h1 h2 h3 h4;grind
   have b:g*(hi+lo)<=G*(2^w*2^c*2):=xO hgG (by omega);have e:G*(2^w*2^c*2)=2^w*(G*(2^c*2)):=by rw[xP (2^w),ym]
   omega
  have:=xf (c:=2^w) m;rw[wZ _ _ P]at this;have k:1<=G*(2^c*2):=yu hG (by omega);have e:G*2^(c+2)=G*(2^c*2)*2:=by rw[e3,xP,xP]
  omega
theorem sqs_ok {w:Nat} : ∀ (k lo hi c G:Nat),2^w<=lo->lo<=hi->hi<2^(w+c)->hi<=lo+G->1<=G ->
  2^w<=(sqs w k lo hi).1/\(sqs w k lo hi).1<=(sqs w k lo hi).2/\(sqs w k lo hi).2<2^(w+c*2^k)/\(sqs w k lo hi).2<=(sqs w k lo hi).1+G*2^(c*(2^k-1)+2*k)
 |0,lo,hi,c,G,h1,h2,h3,h4,h5=>by
  refine⟨h1,h2,?_,?_⟩
  ·rw[yr,yD];exact h3
  ·show hi<=lo+G*2^(c*(2^0-1)+2*0);rw[yr,wo,yX,yr,yD];exact h4
 |k+1,lo,hi,c,G,h1,h2,h3,h4,h5=>by
  obtain⟨s1,s2,s3,s4⟩:=sq_step h1 h2 h3 h4 h5;have ih:=sqs_ok k (lo*lo/2^w) (hi*hi/2^w+1) (c+c) (G*2^(c+2)) s1 s2 s3 s4 (yu h5 (xK (by omega)));obtain⟨i1,i2,i3,i4⟩:=ih;have p:0<2^k:=xK (by omega);have pk:2^(k+1)=2^k*2:=xU _ _;refine⟨i1,i2,?_,?_⟩
  ·have e:(c+c)*2^k=c*2^(k+1):=by rw[pk,<- Nat.mul_two,xP,xV 2]
   rw[<- e];exact i3
  ·have e:G*2^(c+2)*2^((c+c)*(2^k-1)+2*k)=G*2^(c*(2^(k+1)-1)+2*(k+1)):=by
    rw[xP,<- xM];congr 2;obtain⟨q,hq⟩ : ∃q,2^k=q+1:=⟨2^k-1,by omega⟩
    rw[pk,hq,show q+1-1=q by omega,show (q+1)*2-1=q+q+1 by omega,xY,xY,yD,xZ];omega
   rw[<- e];exact i4
theorem sqs_enc {w:Nat} : ∀ (k lo hi:Nat) (q:Rat),Enc w lo hi q->Enc w (sqs w k lo hi).1 (sqs w k lo hi).2 (q^2^k)
 |0,lo,hi,q,h=>by
  rw[yr,yo,yw,xc];exact h
 |k+1,lo,hi,q,h=>by
  have ih:=sqs_enc k _ _ (q*q) (enc_mul h h);have e:q^2^(k+1)=(q*q)^2^k:=by
   rw[xU,Nat.mul_two,Ex.pow_plus,Ex.mul_powR]
  rw[e];exact ih
end Go.Proofs.YtfknkoeagjonbaaGreat
namespace Go.Proofs.YtfknkoeagjonbaaGreat
open Go.Ev
theorem E_three {y:Rat} (h0:0<=y) (h1:y<=1) (L:Nat):Ex.E y L<=3:=by
 have t:=Ex.E_tail_le (L:=L) h0 (N:=1) (show y+y<=((1+1:Nat):Rat) by have:((1+1:Nat):Rat)=2:=rfl;rw[this];grind);have e1:Ex.E y 1=1:=by show (0:Rat)+1=1;decide +kernel
 have s:=Ex.tm_succ y 0;have e2:((0+1:Nat):Rat)=1:=rfl;have e3:Ex.tm y 0=1:=rfl;rw[e2,e3]at s;rw[e1]at t;grind
theorem pow_mono {a b:Rat} (h0:0<=a) (h:a<=b) : ∀n:Nat,a^n<=b^n
 |0=>by rw[yw,yw];exact xN
 |n+1=>by
  rw[yo,yo];exact xE (xA (pow_mono h0 h n) h0) (xB h (Ex.pow_nn (show 0<=b by grind) n))
theorem E_big {x:Rat} (h0:0<=x) (h1:x<=64) (L:Nat):Ex.E x L<=Ex.t2 102:=by
 rcases xo L with e|e
 ·subst e;exact xG (Ex.t2_pos 102)
 ·have hq:(1/64:Rat)*64=1:=by decide +kernel
  have q0:(0:Rat)<=1/64:=by decide +kernel
  have y0:0<=1/64*x:=xF q0 h0;have y1:1/64*x<=1:=by
   have:=xB h1 q0;rwa [hq]at this
  have p:=Ex.E_pow_ge y0 e 64;have ex:((64:Nat):Rat)*(1/64*x)=x:=by
   have:((64:Nat):Rat)=64:=rfl;rw[this];generalize (1/64:Rat)=q at *;grind
  rw[ex]at p;have t:(3:Rat)^64<=Ex.t2 102:=by decide +kernel
  exact xE p (xE (pow_mono (Ex.E_nn y0 L) (E_three y0 y1 L) 64) t)
theorem E_one {x:Rat} (h0:0<=x) {L:Nat} (h:1<=L:=by omega):1<=Ex.E x L:=by
 have m:=Ex.E_mono h0 h;have e1:Ex.E x 1=1:=by show (0:Rat)+1=1;decide +kernel
 rw[e1]at m;exact m
theorem near_ok {n d w g c:Nat} (hg:g=32794) (hc:c=32768) (hd:0<d) (h:n<=64*d) (hw:160<=w) :
  ∃A B:Nat,eRow w (n*2^w/(d*2^14)) (w/7+3) 1 (2^w) (2^w+1) (2^w) (2^w+1)=some (A,B)/\A<=B/\2^w<=A/\B<2^(w+2)/\2^w<=(sqs w 14 A B).1/\(sqs w 14 A B).1<=(sqs w 14 A B).2/\(sqs w 14 A B).2<2^(w+c) /\
   (sqs w 14 A B).2<=(sqs w 14 A B).1+w*2^g /\ ∀x:Rat,x*(d:Rat)=(n:Rat) -> ∃s,∀L,s<=L->Enc w (sqs w 14 A B).1 (sqs w 14 A B).2 (Ex.E x L):=by
 obtain⟨Y,hY⟩ : ∃Y:Nat,Y=n*2^w/(d*2^14):=⟨_,rfl⟩
 rw[<- hY];have dp:0<d*2^14:=by omega
 have P:0<2^w:=xK (by omega);have e8:2^w=2^(w-8)*256:=by rw[show (256:Nat)=2^8 from rfl,<- xM];congr 1;omega
 have e7:2^(w-7)=2^(w-8)*2:=by rw[<- xU];congr 1;omega
 have p8:0<2^(w-8):=xK (by omega);have Yle:Y<=2^(w-8):=by
  rw[hY];refine(yL dp).2 ?_;have m:=xC (2^w) h;have k:64*d*2^w=2^(w-8)*(d*2^14):=by
   rw[e8];generalize 2^(w-8)=z;rw[show (2:Nat)^14=16384 from rfl];grind
  omega
 have hY1:Y+1<=2^(w-7):=by omega
 obtain⟨A,B,s,r1,r2,r3,r4,r5,r6,r7⟩:=eRow_end (w:=w) (Y:=Y) (by omega) hY1 (w/7+1) (w/7+3) 1 (2^w) (2^w+1) (2^w) (2^w+1) (eInv_0 w) (by
  have:2^w<=2^(7*(w/7+1)):=xD (by omega) (by omega);omega) (by omega) (by omega)
 have lw:w<2^w:=Nat.lt_two_pow_self;have e1:2^(w+1)=2^w*2:=xU _ _;have e2:2^(w+2)=2^w*4:=xM _ _ _;obtain⟨q1,q2,q3,q4⟩:=sqs_ok 14 A B 2 w r4 r5 (by omega) (by omega) (by omega);rw[show 2*(2^14-1)+2*14=g by omega]at q4;rw[show 2*2^14=c by omega]at q3;refine⟨A,B,r1,r5,r4,by omega,q1,q2,q3,q4,fun x hx => ?_⟩;have dR:(0:Rat)<(d:Rat):=by exact_mod_cast hd
 obtain⟨j,hj⟩ : ∃j:Nat,j=2^14:=⟨_,rfl⟩
 have jR:(0:Rat)<(j:Rat):=by exact_mod_cast (by omega:0<j)
 obtain⟨y,hy⟩ : ∃y:Rat,y=x/(j:Rat):=⟨_,rfl⟩
 have jy:(j:Rat)*y=x:=by rw[hy];exact Ex.mul_div _ _ (by grind)
 have dj:(d:Rat)*(j:Rat)=((d*2^14:Nat):Rat):=by rw[<- hj];exact_mod_cast rfl
 have yd:y*((d*2^14:Nat):Rat)=(n:Rat):=by rw[<- dj,<- hx,<- jy];grind
 have dpR:(0:Rat)<((d*2^14:Nat):Rat):=by exact_mod_cast dp
 have PR:=p2_pos w;have en:Enc w Y (Y+1) y:=by
  have f:=floor_le (a:=n*2^w) (d:=d*2^14);have g:=le_floor (a:=n*2^w) (d:=d*2^14) dp;rw[<- hY]at f g;have k:((n*2^w:Nat):Rat)=y*p2 w*((d*2^14:Nat):Rat):=by
   have:((n*2^w:Nat):Rat)=(n:Rat)*p2 w:=by exact_mod_cast rfl
   rw[this,<- yd];grind
  rw[k]at f g;exact⟨le_by dpR f,le_by dpR g⟩
 have y0:=enc_nonneg en;have y1:y+y<=1:=by
  refine le_by dpR ?_;rw[wj,yd,xc];have:n+n<=d*2^14:=by omega
  have t:((n+n:Nat):Rat)<=((d*2^14:Nat):Rat):=by exact_mod_cast this
  have e:((n+n:Nat):Rat)=(n:Rat)+(n:Rat):=by exact_mod_cast rfl
  rw[e]at t;exact t
 have one:Enc w (2^w) (2^w+1) 1:=by
  refine⟨by rw[xc];exact xN,?_⟩;rw[xc];exact_mod_cast yg (2^w)
 have E1:Ex.E y 1=1:=by show (0:Rat)+1=1;decide +kernel
 obtain⟨s1,hs⟩:=eRow_enc en y1 (w/7+3) 0 _ _ _ _ A B r1 one (by rw[E1];exact one);refine⟨j*(s1+1)+1,fun L hL => ?_⟩;have k1:s1+1<=j*(s1+1):=zI _ (by omega);have a1:=(sqs_enc 14 A B _ (hs (s1+1) (by omega))).1;have a2:=(sqs_enc 14 A B _ (hs L (by omega))).2;rw[<- hj]at a1 a2;have u1:=Ex.E_pow_le y0 (s1+1) j;have u2:=Ex.E_pow_ge y0 (show 0<L by omega) j;rw[jy]at u1 u2;have x0:0<=x:=by rw[<- jy];exact xF (xG jR) y0
 have m:=Ex.E_mono x0 hL;exact⟨xE a1 (xA (xE u1 m) (xG PR)),xE (xA u2 (xG PR)) a2⟩
theorem cert_or {lo hi w p:Nat} (h:lo<hi) (hc:lo/2^(w-p)≠(hi-1)/2^(w-p)) : ∃u:Nat,0<u/\lo<=u*2^(w-p)/\u*2^(w-p)<=hi-1:=by
 have P:0<2^(w-p):=xK (by omega);have m:lo/2^(w-p)<=(hi-1)/2^(w-p):=xf (by omega);have lt:=Nat.lt_of_le_of_ne m hc;refine⟨(hi-1)/2^(w-p),yM (zj _) lt,?_,wO _ _⟩;have k:=wh lo P;have k2:2^(w-p)*(lo/2^(w-p)+1)<=2^(w-p)*((hi-1)/2^(w-p)):=xI _ lt;rw[xV];exact zf (xz k k2)
theorem dist_bd {w lo hi G:Nat} {q r:Rat} (h1:Enc w lo hi q) (h2:(lo:Rat)<=r*p2 w) (h3:r*p2 w<=(hi:Rat)) (hG:hi<=lo+G):Ex.Bdd ((q-r)*p2 w) (G:Rat):=by
 obtain⟨a,b⟩:=h1;have k:(hi:Rat)<=((lo+G:Nat):Rat):=by exact_mod_cast hG
 have e:((lo+G:Nat):Rat)=(lo:Rat)+(G:Rat):=by exact_mod_cast rfl
 rw[e]at k;rw[show (q-r)*p2 w=q*p2 w-r*p2 w by grind];generalize q*p2 w=x at *
 generalize r*p2 w=y at *
 constructor<;>grind
theorem bd_less {z:Rat} {w W:Nat} {G:Rat} (h:Ex.Bdd (z*p2 w) G) (hG:G*Ex.t2 W<=p2 w):Ex.Bdd (z*Ex.t2 W) 1:=by
 have P:=p2_pos w;have T:=Ex.t2_pos W;obtain⟨a,b⟩:=h;have m1:=xA a (xG T);have m2:=xA b (xG T);have e:z*p2 w*Ex.t2 W=z*Ex.t2 W*p2 w:=by grind
 rw[e]at m1 m2;constructor
 ·refine le_by P ?_;generalize z*Ex.t2 W*p2 w=y at *
  have : -G*Ex.t2 W = -(G*Ex.t2 W):=by grind
  rw[this]at m1;grind
 ·refine le_by P ?_;generalize z*Ex.t2 W*p2 w=y at *
  grind
theorem cast_p2 (u w p:Nat) (h:p<=w:=by omega):((u*2^(w-p):Nat):Rat)*p2 p=(u:Rat)*p2 w:=by
 have e:2^w=2^(w-p)*2^p:=by rw[<- xM];congr 1;omega
 have e2:p2 w=p2 (w-p)*p2 p:=by
  show ((2^w:Nat):Rat)=_;rw[e];exact_mod_cast rfl
 have e3:((u*2^(w-p):Nat):Rat)=(u:Rat)*p2 (w-p):=by exact_mod_cast rfl
 rw[e2,e3,zG]
theorem size_W {w g r W:Nat} (hW:W=371000000000) (hg:g+r<=40000) (hw:372000000000<=w) (hw2:w<=2^40):((w*2^g*2^r:Nat):Rat)*Ex.t2 W<=p2 w:=by
 have h:w*2^g*2^r*2^W<=2^w:=by
  refine xH (xC _ (xC _ (xC _ hw2))) ?_;rw[<- xM,<- xM,<- xM];exact xD (by omega) (by omega)
 have e:((w*2^g*2^r*2^W:Nat):Rat)=((w*2^g*2^r:Nat):Rat)*Ex.t2 W:=Ex.castmul _ _;rw[<- e];exact Ex.castle h
theorem near_le {e al T:Rat} (d : -1<=(e-al)*T) (T1:1<=T):al<=e+1:=by
 refine yZ.1 fun h => ?_
 have m:=xB T1 (show 0<=al-e by grind);grind
theorem le_two {e al M:Rat} (h1:al<=e+1) (h2:e<=M) (h3:1<=M):al<=M+M:=by grind
theorem cert_pos {a b lo hi w p g s:Nat} {x:Rat} (ha:0<a) (hb:0<b) {sB:Nat} (hsB:sB=11000) (hb2:b<=2^sB) (hx:x*(b:Rat)=(a:Rat)) (hx2:x<=64) (hp:p<=512) (hg:g<=39000) (h:lo<hi) (hG:hi<=lo+w*2^g)
  (hE : ∀L,s<=L->Enc w lo hi (Ex.E x L)) (hw:372000000000<=w) (hw2:w<=2^40):lo/2^(w-p)=(hi-1)/2^(w-p):=by
 refine Classical.byContradiction fun hc => ?_
 obtain⟨u,u0,u1,u2⟩:=cert_or h hc;obtain⟨W,hW⟩ : ∃k:Nat,k=371000000000:=⟨_,rfl⟩
 obtain⟨sv,hsv⟩ : ∃k:Nat,k=520:=⟨_,rfl⟩
 have Pp:=p2_pos p;have P:=p2_pos w;obtain⟨al,hal⟩ : ∃r:Rat,r=(u:Rat)/p2 p:=⟨_,rfl⟩
 have ap:al*p2 p=(u:Rat):=by rw[hal];exact xd (by grind)
 have uR:(0:Rat)<(u:Rat):=Ex.castlt u0;have a0:0<al:=by
  rw[hal,xk];exact xt uR (zU.2 Pp)
 have c:=cast_p2 u w p;have ku:al*p2 w=((u*2^(w-p):Nat):Rat):=by
  refine Ex.cancel_l (c:=p2 p) (by grind) ?_;rw[ya,ya (p2 p),c,<- ap];grind
 have x0:0<=x:=by
  have bp:(0:Rat)<(b:Rat):=Ex.castlt hb;refine le_by bp ?_;rw[hx,xw];exact nat_nonneg a
 have l1:(lo:Rat)<=al*p2 w:=by rw[ku];exact Ex.castle u1
 have l2:al*p2 w<=(hi:Rat):=by rw[ku];exact Ex.castle (by omega)
 have near : ∀L,s<=L->Ex.Bdd ((Ex.E x L-al)*Ex.t2 W) 1:=by
  intro L hL;have d:=dist_bd (hE L hL) l1 l2 hG;refine bd_less d ?_;have z:=size_W (w:=w) (g:=g) (r:=0) hW (by omega) hw hw2;rw[yr,yD]at z;exact z
 have al2:al<=Ex.t2 103:=by
  have d:=near s (xQ s);have e:=E_big x0 hx2 s;have t:Ex.t2 103=Ex.t2 102+Ex.t2 102:=Ex.t2_succ 102;have o:(1:Rat)<=Ex.t2 102:=by decide +kernel
  have n:=near_le d.1 (Ex.t2_mono (show 0<=W by omega));rw[t];exact le_two n e o
 obtain⟨K0,hK⟩:=Ex.exp_far (W:=W) (by omega) ha hb hsB hb2 hx hx2 hsv (v:=2^p) (u:=u) (xK (by omega)) (xD (by omega) (by omega)) ap a0 al2;exact hK (max K0 s) (Nat.le_max_left _ _) (near _ (Nat.le_max_right _ _))
theorem inv_gapE {M lo hi W:Nat} (h1:0<W) (h2:M=W*W) (h3:W<=lo) (h4:lo<hi:=by omega) (h5:hi-lo<=W:=by omega):M/lo<=M/hi+(hi-lo)+1/\M/hi<=M/lo/\M/lo<=W:=by
 have lp:0<lo:=by omega
 have hp:0<hi:=by omega
 have a:M/hi<=W:=by
  refine(yL hp).2 ?_;rw[h2];have:=xI W (show W<=hi by omega);omega
 have b:M/lo<=W:=by
  refine(yL lp).2 ?_;rw[h2];have:=xI W h3;omega
 refine⟨?_,ww (by omega) lp,b⟩;refine Nat.le_of_lt_succ ((yC lp).2 ?_);have k:=wh M hp;obtain⟨g,hg⟩ : ∃g,hi=lo+g:=⟨hi-lo,by omega⟩
 rw[show hi-lo=g by omega];generalize M/hi=q at *
 have m1:q*g<=lo*g:=xC g (by omega);have e1:hi*(q+1)=q*lo+lo+q*g+g:=by rw[hg,xZ,xY,xY,xV lo q,xV g q];omega
 have e2:(q+g+1).succ*lo=q*lo+lo*g+lo+lo:=by
  show (q+g+1+1)*lo=_;rw[xZ,xZ,xZ,xV g lo,xe]
 rw[e2];rw[e1]at k;omega
theorem inv_near {e r al P G:Rat} (he:1<=e) (he2:e<=Ex.t2 102) (hr:r*al=1) (ha:0<al) (hP:0<P) (hd:Ex.Bdd ((1/e-r)*P) G) (hG:G*Ex.t2 103<=P):al<=Ex.t2 103/\Ex.Bdd ((e-al)*P) (G*Ex.t2 205):=by
 have i:e*(1/e)=1:=Ex.mul_div e 1 (by grind);have T:=Ex.t2_pos 103;have t2':Ex.t2 103=Ex.t2 102+Ex.t2 102:=Ex.t2_succ 102;have T2:=Ex.t2_pos 102;have nG:=Ex.Bdd_nn hd;have hal:al<=Ex.t2 103:=by
  refine yZ.1 fun h => ?_
  have a1:1<=1/e*Ex.t2 102:=by
   have e0:0<=1/e:=Ex.div_nn (by decide) (by grind);have:=xB he2 e0;grind
  have rp:0<r:=by
   rcases zC (a:=r) (b:=0) with g|g
   ·have:=xA g (xG ha);grind
   ·by_cases z:r=0
    ·subst z;grind
    ·grind
  have a2:r*Ex.t2 103<1:=by
   have:=xt rp (show 0<al-Ex.t2 103 by grind);grind
  obtain⟨-,d2⟩:=hd;have m:=xA d2 (xG T);have a3:1<(1/e-r)*Ex.t2 103:=by
   rw[t2']at a2 ⊢;generalize 1/e=y at *
   grind
  have m2:=xt (show 0<(1/e-r)*Ex.t2 103-1 by grind) hP;have e2:((1/e-r)*Ex.t2 103-1)*P=(1/e-r)*P*Ex.t2 103-P:=by grind
  rw[e2]at m2;grind
 refine⟨hal,?_⟩;have e3:(e-al)*P=(1/e-r)*P * -(e*al):=by
  have:(1/e-r)*P * -(e*al)=(r*al)*e*P-e*(1/e)*al*P:=by grind
  rw[this,hr,i];grind
 rw[e3];have t5:Ex.t2 205=Ex.t2 102*Ex.t2 103:=Ex.t2_add 102 103;have b1:Ex.Bdd (-(e*al)) (Ex.t2 205):=by
  have n1:0<=e*al:=xF (by grind) (xG ha);have m1:=xA he2 (xG ha);have m2:=xB hal (xG T2);have m3:=xE m1 m2;rw[<- t5]at m3;constructor<;>grind
 exact Ex.Bdd_mul hd b1
theorem cert_neg {a b lo hi w p g s:Nat} {x:Rat} (ha:0<a) (hb:0<b) {sB:Nat} (hsB:sB=11000) (hb2:b<=2^sB) (hx:x*(b:Rat)=(a:Rat)) (hx2:x<=64) (hp:p<=512) (hg:g<=39000) (h0:2^w<=lo) (h:lo<hi) (hG:hi<=lo+w*2^g)
  (hE : ∀L,s<=L->Enc w lo hi (Ex.E x L)) (hw:372000000000<=w) (hw2:w<=2^40):2^(2*w)/hi/2^(w-p)=(2^(2*w)/lo+1-1)/2^(w-p):=by
 have PN:0<2^w:=xK (by omega);have gw:w*2^g<=2^w:=by
  refine xH (xC _ hw2) ?_;rw[<- xM];exact xD (by omega) (by omega)
 obtain⟨i1,i2,i3⟩:=inv_gapE (M:=2^(2*w)) (lo:=lo) (hi:=hi) PN (by rw[<- xM];congr 1;omega) h0 h;refine Classical.byContradiction fun hc => ?_
 obtain⟨u,u0,u1,u2⟩:=cert_or (lo:=2^(2*w)/hi) (hi:=2^(2*w)/lo+1) (by omega) hc;obtain⟨W,hW⟩ : ∃k:Nat,k=371000000000:=⟨_,rfl⟩
 obtain⟨sv,hsv⟩ : ∃k:Nat,k=520:=⟨_,rfl⟩
 have Pp:=p2_pos p;have P:=p2_pos w;have uR:(0:Rat)<(u:Rat):=Ex.castlt u0;obtain⟨r,hr⟩ : ∃r:Rat,r=(u:Rat)/p2 p:=⟨_,rfl⟩
 have ar:r*p2 p=(u:Rat):=by rw[hr];exact xd (by grind)
 obtain⟨al,hal⟩ : ∃r:Rat,r=p2 p/(u:Rat):=⟨_,rfl⟩
 have au:al*(u:Rat)=((2^p:Nat):Rat):=by rw[hal];exact xd (by grind)
 have a0:0<al:=by
  rw[hal,xk];exact xt Pp (zU.2 uR)
 have ra:r*al=1:=by
  refine Ex.cancel_l (c:=p2 p) (by grind) ?_;have:p2 p*(r*al)=al*(r*p2 p):=by grind
  rw[this,ar,au,yA]
 have c:=cast_p2 u w p;have ku:r*p2 w=((u*2^(w-p):Nat):Rat):=by
  refine Ex.cancel_l (c:=p2 p) (by grind) ?_;rw[ya,ya (p2 p),c,<- ar];grind
 have x0:0<=x:=by
  have bp:(0:Rat)<(b:Rat):=Ex.castlt hb;refine le_by bp ?_;rw[hx,xw];exact nat_nonneg a
 have l1:((2^(2*w)/hi:Nat):Rat)<=r*p2 w:=by rw[ku];exact Ex.castle u1
 have l2:r*p2 w<=((2^(2*w)/lo+1:Nat):Rat):=by rw[ku];exact Ex.castle (xH u2 (zt _ 1))
 have gp:1<=w*2^g:=yu (by omega) (xK (by omega));have GG:2^(2*w)/lo+1<=2^(2*w)/hi+w*2^g*2^2:=by omega
 have two : ∀L,s+1<=L->al<=Ex.t2 103/\Ex.Bdd ((Ex.E x L-al)*Ex.t2 W) 1:=by
  intro L hL;obtain⟨en,-⟩:=enc_inv (by omega) (hE L (by omega));have d:=dist_bd en l1 l2 GG;have z:=size_W (w:=w) (g:=g) (r:=2+205) hW (by omega) hw hw2;have ez:((w*2^g*2^(2+205):Nat):Rat)=((w*2^g*2^2:Nat):Rat)*Ex.t2 205:=by
   have:w*2^g*2^(2+205)=w*2^g*2^2*2^205:=by rw[xM 2 2,xP (w*2^g)]
   rw[this];exact Ex.castmul _ _
  rw[ez]at z;have nG:=nat_nonneg (w*2^g*2^2);have small:((w*2^g*2^2:Nat):Rat)*Ex.t2 103<=p2 w:=by
   have h1:w*2^g*2^2*2^103<=2^w:=by
    refine xH (xC _ (xC _ (xC _ hw2))) ?_;rw[<- xM,<- xM,<- xM];exact xD (by omega) (by omega)
   have e:((w*2^g*2^2*2^103:Nat):Rat)=((w*2^g*2^2:Nat):Rat)*Ex.t2 103:=Ex.castmul _ _;rw[<- e];exact Ex.castle h1
  obtain⟨n1,n2⟩:=inv_near (E_one x0) (E_big x0 hx2 L) ra a0 P d small;exact⟨n1,bd_less n2 z⟩
 have up:u<=2^p:=by
  have e:2^w=2^p*2^(w-p):=by rw[<- xM];congr 1;omega
  have k:u*2^(w-p)<=2^p*2^(w-p):=by rw[<- e];omega
  exact yv k (xK (by omega))
 have up2:2^p<=2^sv:=xD (by omega) (by omega);obtain⟨K0,hK⟩:=Ex.exp_far (W:=W) (by omega) ha hb hsB hb2 hx hx2 hsv (v:=u) (u:=2^p) u0 (xH up up2) au a0 (two (s+1) (xQ _)).1;exact hK (max K0 (s+1)) (Nat.le_max_left _ _) (two _ (Nat.le_max_right _ _)).2
end Go.Proofs.YtfknkoeagjonbaaGreat
namespace Go.Proofs.YtfknkoeagjonbaaGreat
open Go.Ev
theorem least {P:Nat->Prop} {k:Nat} (h:P k) : ∃j,P j/\j<=k /\ ∀i,i<j -> ¬P i:=by
 induction k using Nat.strongRecOn with
 |_ k ih=>
  by_cases g : ∃i,i<k/\P i
  ·obtain⟨i,hi,hp⟩:=g;obtain⟨j,h1,h2,h3⟩:=ih i hi hp;exact⟨j,h1,by omega,h3⟩
  ·exact⟨k,h,xQ k,fun i hi hp=>g ⟨i,hi,hp⟩⟩
theorem doubles {w0 M:Nat} (h0:0<w0) (h:w0<=M) : ∃k,M<=w0*2^k/\w0*2^k<2*M:=by
 have top:M<=w0*2^M:=xH (zf Nat.lt_two_pow_self) (zI _ h0);obtain⟨k,h1,-,h3⟩:=least (P:=fun k=>M<=w0*2^k) top;refine⟨k,h1,?_⟩;cases k with
 |zero=>rw[yr,yD];omega
 |succ k=>
  have:=h3 k (Nat.lt_succ_self k);rw[xU,<- xP];omega
section
variable {p sp M:Nat} {f:FuncId} {caps:List SV} {lo hi:Nat->Nat}
theorem certain_at (h0:0<p+sp) (hM:p+sp<=M) (hc : ∀w,M<=w->w<2*M->lo w/2^(w-p)=(hi w-1)/2^(w-p)) :
  ∃k,lo ((p+sp)*2^k)/2^((p+sp)*2^k-p)=(hi ((p+sp)*2^k)-1)/2^((p+sp)*2^k-p)/\(p+sp)*2^k<2*M /\ ∀i,i<k->lo ((p+sp)*2^i)/2^((p+sp)*2^i-p)≠(hi ((p+sp)*2^i)-1)/2^((p+sp)*2^i-p):=by
 obtain⟨k0,a1,a2⟩:=doubles h0 hM;obtain⟨k,b1,b2,b3⟩:=least (P:=fun k=>lo ((p+sp)*2^k)/2^((p+sp)*2^k-p)=(hi ((p+sp)*2^k)-1)/2^((p+sp)*2^k-p)) (hc _ a1 a2);refine⟨k,b1,yM (xI _ (xD (by omega) b2)) a2,b3⟩
set_option maxHeartbeats 1000000 in
theorem fix_CertainL (hsp:0<sp) (hM:p+sp<=M) (hM2:M<=380000000000) (hp:p<=10000) (hs:sp<=10000)
  (hf : ∀w:Nat,p+sp<=w->w<2*M->Go.Ev.Fn CX f (.int .i64 (w:Int)::caps) (spanV (lo w) (hi w)))
  (hl : ∀w:Nat,p+sp<=w->w<2*M->(lim (lo w)).length<=26000000000/\(lim (hi w)).length<=26000000000/\(lim (lo w/2^(w-p))).length<=5000)
  (hc : ∀w,M<=w->w<2*M->lo w/2^(w-p)=(hi w-1)/2^(w-p)) :
  ∃w,p+sp<=w/\w<2*M/\lo w/2^(w-p)=(hi w-1)/2^(w-p) /\
   Go.Ev.Fn CX 231 [.int .i64 (p:Int),.int .i64 (sp:Int),.fn f caps] (ballR (mkRat ((lo w/2^(w-p):Nat):Int) (2^p)) (mkRat ((lo w/2^(w-p)+1:Nat):Int) (2^p))):=by
 obtain⟨k,c1,c2,c3⟩:=certain_at (by omega) hM hc;obtain⟨W,hW⟩ : ∃W,W=(p+sp)*2^k:=⟨_,rfl⟩
 have pk : ∀i,p+sp<=(p+sp)*2^i:=fun i=>yi _ (xK (by omega))
 have mk : ∀i,i<=k->(p+sp)*2^i<=W:=fun i hi=>by rw[hW];exact xI _ (xD (by omega) hi)
 rw[<- hW]at c1 c2;refine⟨W,by rw[hW];exact pk k,c2,c1,?_⟩;obtain⟨la,lb,lm⟩:=hl W (by rw[hW];exact pk k) c2;have hfW:=hf W (by rw[hW];exact pk k) c2;have hpW:p<W:=by have:=pk k;omega
 have fl:=fix_Floor (a:=lo W) (b:=hi W) (w:=W) (p:=p) (by omega) (by omega) hpW;rw[decide_eq_true c1]at fl;have o:=fix_One;have l1:=lim_len1;have sh:=fix_shl (a:=1) (m:=p);have lp:=lim_len_shl (a:=1) (n:=p);rw[xe]at sh lp;have n1:=fix_Next (a:=lo W/2^(W-p));have l2:=lim_len_add (a:=lo W/2^(W-p)) (b:=1) (L:=5000);have r1:=rat_OfL (s:=false) (n:=lo W/2^(W-p)) (d:=2^p);have r2:=rat_OfL (s:=false) (n:=lo W/2^(W-p)+1) (d:=2^p);rw[show sgn false (lo W/2^(W-p))=((lo W/2^(W-p):Nat):Int) from rfl]at r1;rw[show sgn false (lo W/2^(W-p)+1)=((lo W/2^(W-p)+1:Nat):Int) from rfl]at r2
 generalize mkRat ((lo W/2^(W-p):Nat):Int) (2^p)=q1 at *
 generalize mkRat ((lo W/2^(W-p)+1:Nat):Int) (2^p)=q2 at *
 generalize lo W/2^(W-p)+1=a' at *
 generalize ha:lo W/2^(W-p)=a at *
 generalize 2^p=P at *
 -- one round that is not the last
 have rd : ∀i,i<k -> ∃x y:Nat,∃m:Nat,Go.Ev.Fn CX f (.int .i64 (((p+sp)*2^i:Nat):Int)::caps) (spanV x y)/\Go.Ev.Fn CX 284 [spanV x y,.int .i64 (((p+sp)*2^i:Nat):Int),.int .i64 (p:Int)] (.tup [natV (lim m),.bool false]):=by
  intro i hi';have h1:=pk i;have h2:=mk i (by omega);obtain⟨xa,xb,-⟩:=hl ((p+sp)*2^i) h1 (by omega);have g:=fix_Floor (a:=lo ((p+sp)*2^i)) (b:=hi ((p+sp)*2^i)) (w:=(p+sp)*2^i) (p:=p);rw[decide_eq_false (c3 i hi')]at g;exact⟨_,_,_,hf _ h1 (by omega),g⟩
 have dbl : ∀i:Nat,i<k->(p+sp)*2^i*2=(p+sp)*2^(i+1):=fun i _=>by rw[xU,xP]
 clear hc hl hf c3 c1 la lb lm l2 lp l1;refine fni Tryz.f231 ?_;unfold Tryz.f231;repeat (first|simp only[go_sem]|simp (disch:=first|exact omg|fail) only[AX]|refine wki ?_)
 refine vp_loop_inv (fun s=>s.tmp 0 = .sv (.int .i64 (p:Int))/\s.tmp 2 = .sv (.fn f caps)/\s.tmp 6 = .ptr 6 0 0/\s.obj 6 0=some [.bool false,.sl 0 [],.sl 0 [],.bool false,.sl 0 [],.sl 0 []] /\ ∃i:Nat,i<=k/\s.tmp 7 = .sv (.int .i64 (((p+sp)*2^i:Nat):Int)))
  (fun s=>match s.tmp 7 with | .sv (.int _ j)=>800000000000-j.toNat|_=>0) ⟨rfl,rfl,rfl,rfl,0,by omega,by rw[yr,yD];rfl⟩ ?_
 rintro s ⟨i0,i2,i6,o6,i,hi',i7⟩
 by_cases e:i=k
 ·subst e;rw[<- hW]at i7;clear rd dbl;repeat (first|simp only[go_sem,i0,i2,i6,o6,i7]|simp (disch:=first|exact omg|fail) only[AX,i0,i2,i6,o6,i7]|refine wki ?_|refine vfa ?_)
 ·obtain⟨x,y,m,g1,g2⟩:=rd i (by omega);have h1:=mk (i+1) (by omega);have h3:=pk i;have h2:=dbl i (by omega);have e2:(((p+sp)*2^(i+1):Nat):Int)=(((p+sp)*2^i:Nat):Int)*2:=by rw[<- h2];exact yF _ _
  clear rd dbl hfW fl;generalize hv:(p+sp)*2^(i+1)=v at *
  generalize (p+sp)*2^i=u at *
  repeat (first|simp only[go_sem,i0,i2,i6,o6,i7]|simp (disch:=first|exact omg|fail) only[AX,i0,i2,i6,o6,i7]|refine wki ?_|refine vfa ?_)
  exact⟨⟨i+1,by omega,by rw[hv,e2]⟩,by omega⟩
end
end Go.Proofs.YtfknkoeagjonbaaGreat
namespace Go.Proofs.YtfknkoeagjonbaaGreat
open Go.Ev
theorem lim_len_pw {n w:Nat} (h:n<2^w:=by omega):(lim n).length<=w/32+1:=by
 refine lim_len_lt (xz h ?_);rw[show (4294967296:Nat)=2^32 from rfl,<- zF];exact xD (by omega) (by omega)
set_option maxHeartbeats 1000000 in
theorem exps_row {w Y A B:Nat} (hw:64<=w) (hw2:w<=800000000000) (hY:Y+1<=2^(w-7)) (h:eRow w Y (w/7+3) 1 (2^w) (2^w+1) (2^w) (2^w+1)=some (A,B)) :
  Go.Ev.Fn CX 285 [spanV Y (Y+1),.int .i64 (w:Int)] (spanV A B):=by
 have un:=fix_Unit (w:=w);have lw:w<2^w:=Nat.lt_two_pow_self;have e1:2^(w+1)=2^w*2:=xU _ _;have e2:2^(w+2)=2^w*4:=xM _ _ _;have hYw:2^(w-7)<=2^w:=xD (by omega) (by omega);have lY:=lim_len_pw (n:=Y) (w:=w+2);have lY1:=lim_len_pw (n:=Y+1) (w:=w+2);have i0:=eInv_0 w;have lens:=fun (n t1 t2 a1 a2:Nat) (hn:n<=w/7+4) (h:eInv w n t1 t2 a1 a2)=>(show (lim t1).length<=27000000000/\(lim t2).length<=27000000000/\(lim a1).length<=27000000000/\(lim a2).length<=27000000000 from by
  obtain⟨q1,q2,q3,q4,q5,q6,q7,q8⟩:=h;have a:=lim_len_pw (n:=t1) (w:=w+2);have b:=lim_len_pw (n:=t2) (w:=w+2);have c:=lim_len_pw (n:=a1) (w:=w+2);have d:=lim_len_pw (n:=a2) (w:=w+2);exact⟨by omega,by omega,by omega,by omega⟩)
 have step:=fun (n t1 t2 a1 a2:Nat) (h:eInv w n t1 t2 a1 a2)=>eInv_step (Y:=Y) hw hY h
 generalize hP:2^w=P at un h i0;clear e1 e2 lw;refine fni Tryz.f285 ?_;unfold Tryz.f285;repeat (first|simp only[go_sem]|simp (disch:=first|exact omg|fail) only[AX]|refine wki ?_|refine vfa ?_)
 refine vp_loop_inv (fun s=>s.tmp 1 = .sv (.int .i64 (w:Int))/\s.tmp 2 = .ptr 2 0 0/\s.obj 2 0=some [natV (lim Y),natV (lim (Y+1))]/\s.tmp 4 = .ptr 4 0 0/\s.obj 4 0=some [.sl 0 [],.sl 0 []]/\s.tmp 5 = .ptr 5 0 0/\s.tmp 6 = .ptr 6 0 0 /\
   ∃f n t1 t2 a1 a2:Nat,s.tmp 7 = .sv (.int .u64 (n:Int))/\f+n=w/7+4/\eRow w Y f n t1 t2 a1 a2=some (A,B)/\s.obj 6 0=some [natV (lim t1),natV (lim t2)]/\s.obj 5 0=some [natV (lim a1),natV (lim a2)]/\eInv w n t1 t2 a1 a2)
  (fun s=>match s.tmp 7 with | .sv (.int _ i)=>w/7+5-i.toNat|_=>0) ⟨rfl,rfl,rfl,rfl,rfl,rfl,rfl,w/7+3,1,P,P+1,P,P+1,rfl,by omega,h,rfl,rfl,i0⟩ ?_
 rintro s ⟨i1,i2,o2,i4,o4,i5,i6,f,n,t1,t2,a1,a2,i7,hfn,hgo,o6,o5,hok⟩
 obtain⟨lt1,lt2,la1,la2⟩:=lens n t1 t2 a1 a2 (by omega) hok;have hn1:=hok.1;have st:=step n t1 t2 a1 a2 hok;have sm:=fix_Small (a:=t1) (b:=t2) (k:=1);cases f with
 |zero=>simp only[eRow]at hgo;cases hgo
 |succ f=>
  rw[eRow]at hgo;by_cases hs:t2<2
  ·rw[if_pos hs]at hgo;simp only[Option.some.injEq,Prod.mk.injEq]at hgo;obtain⟨rfl,rfl⟩:=hgo;rw[decide_eq_true (show t2<2^1 from hs)]at sm;have wd:=fix_Wider (a:=a1) (b:=a2) (n:=1);clear step lens st h un;repeat (first|simp only[go_sem,i1,i2,o2,i4,o4,i5,i6,i7,o5,o6,xL]|simp (disch:=first|exact omg|fail) only[AX,i1,i2,o2,i4,o4,i5,i6,i7,o5,o6,xL]|refine wki ?_|refine vfa ?_)
  ·rw[if_neg hs]at hgo;rw[decide_eq_false (show ¬t2<2^1 from hs)]at sm;obtain⟨lu1,lu2,lb1,lb2⟩:=lens (n+1) _ _ _ _ (by omega) st;have mu:=fix_Mul (a:=t1) (b:=t2) (c:=Y) (d:=Y+1) (w:=w);have o1:=fix_One;have q1:=nat_Of n;have l1:=lim_len1;have lq:(lim n).length<=2:=lim_len_lt;have z1:=lim_len_mul (a:=t1) (b:=Y);have z2:=lim_len_mul (a:=t2) (b:=Y+1);have z3:=lim_len_mono (xv (t1*Y) (2^w));have z4:=lim_len_add (a:=t2*(Y+1)/2^w) (b:=1) (L:=54000000000) (xH (lim_len_mono (xv (t2*(Y+1)) (2^w))) (by omega));have ti:=fix_Times (a:=t1*Y/2^w) (b:=t2*(Y+1)/2^w+1) (n:=1) (d:=n)
   generalize t1*Y/2^w*1/n=u1 at *
   generalize (t2*(Y+1)/2^w+1)*1/n+1=u2 at *
   generalize t1*Y/2^w=v1 at *
   generalize t2*(Y+1)/2^w+1=v2 at *
   have ad:=fix_Add (a:=a1) (b:=a2) (c:=u1) (d:=u2);clear step lens h un;repeat (first|simp only[go_sem,i1,i2,o2,i4,o4,i5,i6,i7,o5,o6,xg]|simp (disch:=first|exact omg|fail) only[AX,i1,i2,o2,i4,o4,i5,i6,i7,o5,o6,xg]|refine wki ?_|refine vfa ?_)
   exact⟨⟨f,n+1,u1,u2,a1+u1,a2+u2,rfl,by omega,hgo,rfl,rfl,st⟩,by omega⟩
def nearS (n d w:Nat) (R:Nat×Nat):Prop := ∃A B:Nat,eRow w (n*2^w/(d*2^14)) (w/7+3) 1 (2^w) (2^w+1) (2^w) (2^w+1)=some (A,B)/\A<=B/\2^w<=A/\B<2^(w+2)/\R=sqs w 14 A B
def nearR (neg:Bool) (w:Nat) (R:Nat×Nat):Nat×Nat:=if neg then (2^(2*w)/R.2,2^(2*w)/R.1+1) else R
set_option maxHeartbeats 1000000 in
theorem exps_near {s:Bool} {n d w:Nat} {R:Nat×Nat} (hd:0<d) (h:n<=64*d) (hw:160<=w) (hw2:w<=800000000000) (ln:(lim n).length<=1000) (ld:(lim d).length<=1000) (hR:nearS n d w R) :
  Go.Ev.Fn CX 233 [ratV s (lim n) (lim d),.int .i64 (w:Int)] (spanV (nearR s w R).1 (nearR s w R).2):=by
 obtain⟨A,B,hr,hAB,hA,hB,rfl⟩:=hR;have sh:=fix_shl (a:=d) (m:=14);have ls:=lim_len_shl (a:=d) (n:=14);have dp:0<d*2^14:=by omega
 have of:=fix_Of (n:=n) (d:=d*2^14) (w:=w);have hY:n*2^w/(d*2^14)+1<=2^(w-7):=by
  have e8:2^w=2^(w-8)*256:=by rw[show (256:Nat)=2^8 from rfl,<- xM];congr 1;omega
  have e7:2^(w-7)=2^(w-8)*2:=by rw[<- xU];congr 1;omega
  have p8:0<2^(w-8):=xK (by omega);have Yle:n*2^w/(d*2^14)<=2^(w-8):=by
   refine(yL dp).2 ?_;have m:=xC (2^w) h;have k:64*d*2^w=2^(w-8)*(d*2^14):=by
    rw[e8];generalize 2^(w-8)=z;rw[show (2:Nat)^14=16384 from rfl];grind
   omega
  omega
 have rw1:=exps_row (w:=w) (by omega) (by omega) hY hr;generalize hY':n*2^w/(d*2^14)=Y at *
 have e14:d*2^14=d*16384:=rfl;generalize d*2^14=d' at *
 clear hr hY ln ld ls;obtain⟨c14,hc14⟩ : ∃c:Nat,c=32768:=⟨_,rfl⟩
 have fin:=sqs_ok (w:=w) 14 A B 2 (B-A+1) hA hAB hB (by omega) (by omega);obtain⟨R1,R2,hRR⟩ : ∃R1 R2:Nat,sqs w 14 A B=(R1,R2):=⟨_,_,rfl⟩
 rw[hRR]at fin ⊢;obtain⟨f1,f2,f3,-⟩:=fin;rw[show 2*2^14=c14 by omega]at f3;simp only at f1 f2 f3;have Pw:0<2^w:=xK (by omega);have lR1:=lim_len_pw (n:=R1) (w:=w+c14);have lR2:=lim_len_pw (n:=R2) (w:=w+c14);have inv:=fix_Inverse (a:=R1) (b:=R2) (w:=w);have loop : ∀ (k lo hi c:Nat),2^w<=lo->lo<=hi->hi<2^(w+c)->c*2^k<=c14->1<=k->(Go.Ev.Fn CX 163 [spanV lo hi,spanV lo hi,.int .i64 (w:Int)] (spanV (lo*lo/2^w) (hi*hi/2^w+1))/\2^w<=lo*lo/2^w/\lo*lo/2^w<=hi*hi/2^w+1/\hi*hi/2^w+1<2^(w+(c+c))/\(c+c)*2^(k-1)<=c14):=by
  intro k lo hi c h1 h2 h3 h4 h5;obtain⟨s1,s2,s3,-⟩:=sq_step h1 h2 h3 (G:=hi-lo+1);have hc:c<=c14:=xH (yi _ (xK (by omega))) h4;have l1:=lim_len_pw (n:=lo) (w:=w+c);have l2:=lim_len_pw (n:=hi) (w:=w+c) h3;have mu:=fix_Mul (a:=lo) (b:=hi) (c:=lo) (d:=hi) (w:=w);refine⟨mu,s1,s2,s3,?_⟩;have e:(c+c)*2^(k-1)=c*2^k:=by
   obtain⟨j,rfl⟩ : ∃j,k=j+1:=⟨k-1,by omega⟩
   rw[wF,xU,<- Nat.mul_two,xP,xV 2]
  rw[e];exact h4
 refine fni Tryz.f233 ?_;unfold Tryz.f233;repeat (first|simp only[go_sem]|simp (disch:=first|exact omg|fail) only[AX]|refine wki ?_|refine vpd 1 [10,8,11] ?_|refine vfa ?_)
 refine vp_loop_inv (fun s'=>s'.tmp 1 = .sv (.int .i64 (w:Int))/\s'.tmp 2 = .ptr 2 0 0/\s'.obj 2 0=some [.bool s,natV (lim n),natV (lim d)]/\s'.tmp 4 = .ptr 4 0 0/\s'.obj 4 0=some [.sl 0 [],.sl 0 []]/\s'.tmp 6 = .ptr 6 0 0 /\
   ∃k lo hi c:Nat,s'.tmp 17 = .sv (.int .i64 ((14-k:Nat):Int))/\k<=14/\s'.obj 6 0=some [natV (lim lo),natV (lim hi)]/\sqs w k lo hi=(R1,R2)/\2^w<=lo/\lo<=hi/\hi<2^(w+c)/\c*2^k<=c14)
  (fun s'=>match s'.tmp 17 with | .sv (.int _ i)=>15-i.toNat|_=>0) ⟨rfl,rfl,rfl,rfl,rfl,rfl,14,A,B,2,rfl,by omega,rfl,hRR,hA,hAB,hB,by omega⟩ ?_
 rintro s' ⟨i1,i2,o2,i4,o4,i6,k,lo,hi,c,i17,hk,o6,hsq,g1,g2,g3,g4⟩
 cases k with
 |zero=>
  have hsq':(lo,hi)=(R1,R2):=hsq;simp only[Prod.mk.injEq]at hsq';obtain⟨rfl,rfl⟩:=hsq';clear loop;cases s with
  |true=>
   show _;unfold nearR;rw[if_pos rfl];repeat (first|simp only[go_sem,i1,i2,o2,i4,o4,i6,i17,o6]|simp (disch:=first|exact omg|fail) only[AX,i1,i2,o2,i4,o4,i6,i17,o6]|refine wki ?_|refine vpd 1 [10,8,11] ?_|refine vfa ?_)
  |false=>
   unfold nearR;rw[if_neg (by simp)];repeat (first|simp only[go_sem,i1,i2,o2,i4,o4,i6,i17,o6]|simp (disch:=first|exact omg|fail) only[AX,i1,i2,o2,i4,o4,i6,i17,o6]|refine wki ?_|refine vpd 1 [10,8,11] ?_)
 |succ k=>
  obtain⟨mu,s1,s2,s3,s4⟩:=loop (k+1) lo hi c g1 g2 g3 g4 (by omega);rw[wF]at s4;have hsq':sqs w k (lo*lo/2^w) (hi*hi/2^w+1)=(R1,R2):=hsq;clear loop hsq;generalize lo*lo/2^w=lo' at *
  generalize hi*hi/2^w+1=hi' at *
  repeat (first|simp only[go_sem,i1,i2,o2,i4,o4,i6,i17,o6]|simp (disch:=first|exact omg|fail) only[AX,i1,i2,o2,i4,o4,i6,i17,o6]|refine wki ?_|refine vpd 1 [10,8,11] ?_|refine vfa ?_)
  exact⟨⟨k,lo',hi',c+c,by congr 2;omega,by omega,rfl,hsq',s1,s2,s3,s4⟩,by omega⟩
end Go.Proofs.YtfknkoeagjonbaaGreat
namespace Go.Proofs.YtfknkoeagjonbaaGreat
open Go.Ev
def evX (x:Rat) (L:Nat):Rat:=if x<0 then 1/Ex.E (-x) L else Ex.E x L
def nearF (n d w:Nat):Nat×Nat:=match eRow w (n*2^w/(d*2^14)) (w/7+3) 1 (2^w) (2^w+1) (2^w) (2^w+1) with
 |some (A,B)=>sqs w 14 A B
 |none=>(0,0)
theorem nearF_ok {n d w g c:Nat} (hg:g=32794) (hc:c=32768) (hd:0<d) (h:n<=64*d) (hw:160<=w) :
  nearS n d w (nearF n d w)/\2^w<=(nearF n d w).1/\(nearF n d w).1<(nearF n d w).2/\(nearF n d w).2<2^(w+c)/\(nearF n d w).2<=(nearF n d w).1+w*2^g /\
   ∀x:Rat,x*(d:Rat)=(n:Rat) -> ∃s,∀L,s<=L->Enc w (nearF n d w).1 (nearF n d w).2 (Ex.E x L):=by
 obtain⟨A,B,r1,r2,r3,r4,r5,r6,r7,r8,r9⟩:=near_ok hg hc hd h hw;have e:nearF n d w=sqs w 14 A B:=by unfold nearF;rw[r1]
 rw[e];have strict : ∀ (k lo hi:Nat),lo<=hi->(sqs w (k+1) lo hi).1<(sqs w (k+1) lo hi).2:=by
  intro k;induction k with
  |zero=>
   intro lo hi h;show lo*lo/2^w<hi*hi/2^w+1;exact Nat.lt_succ_of_le (xf (xO h h))
  |succ k ih=>
   intro lo hi h;exact ih _ _ (yP (xf (xO h h)))
 exact⟨⟨A,B,r1,r2,r3,r4,rfl⟩,r5,strict 13 A B r2,r7,r8,r9⟩
theorem exps_Exp1 {s:Bool} {n d:List Nat} {w:Nat} {r1 r2:Nat} (h:Go.Ev.Fn CX 233 [ratV s n d,.int .i64 (w:Int)] (spanV r1 r2)) :
  Go.Ev.Fn CX 232 [.int .i64 (w:Int),.mem [.bool s,natV n,natV d]] (spanV r1 r2):=by
 refine fni Tryz.f232 ?_;unfold Tryz.f232;repeat (first|simp only[go_sem]|simp (disch:=first|exact omg|fail) only[AX]|refine wki ?_|refine vfa ?_)
theorem neg_numX {x:Rat}:decide (x.num<0)=decide (x<0):=by
 have h:=zL (q:=x);refine decide_eq_decide.2 ⟨fun g => ?_,fun g => ?_⟩
 ·have : ¬0<=x:=fun k=>absurd (h.2 k) (by omega)
  grind
 ·rcases Int.lt_or_le x.num 0 with k|k
  ·exact k
  ·exact absurd (h.1 k) (by grind)
section
variable {v:SV} {x:Rat} {L P:Nat} {pI:Int}
theorem exp_end {n d:Nat} {neg:Bool} (hn0:0<n) (hd:0<d) (h:n<=64*d) {sB:Nat} (hsB:sB=11000) (hd2:d<=2^sB) (hP:P<=512) (ln:(lim n).length<=1000) (ld:(lim d).length<=1000) :
  ∃m s0:Nat,(lim m).length<=5000/\Go.Ev.Fn CX 231 [.int .i64 (P:Int),.int .i64 160,.fn 232 [.mem [.bool neg,natV (lim n),natV (lim d)]]] (ballR (mkRat (m:Int) (2^P)) (mkRat ((m+1:Nat):Int) (2^P))) /\
   ∀x:Rat,x*(d:Rat)=(n:Rat) -> ∃s0,∀L,s0<=L->Enc P m (m+1) (if neg then 1/Ex.E x L else Ex.E x L):=by
 obtain⟨g,hg⟩ : ∃g:Nat,g=32794:=⟨_,rfl⟩
 obtain⟨c,hc⟩ : ∃g:Nat,g=32768:=⟨_,rfl⟩
 have ok:=fun w (hw:160<=w)=>nearF_ok (n:=n) (d:=d) (w:=w) hg hc hd h hw
 have dR:(0:Rat)<(d:Rat):=by exact_mod_cast hd
 obtain⟨q,hq⟩ : ∃q:Rat,q=(n:Rat)/(d:Rat):=⟨_,rfl⟩
 have qd:q*(d:Rat)=(n:Rat):=by rw[hq];exact xd (by grind)
 have q64:q<=64:=by
  refine le_by dR ?_;rw[qd];have:((n:Nat):Rat)<=((64*d:Nat):Rat):=Ex.castle h;rw[Ex.castmul]at this;exact this
 have cert : ∀w,372000000000<=w->w<2*372000000000->(nearR neg w (nearF n d w)).1/2^(w-P)=((nearR neg w (nearF n d w)).2-1)/2^(w-P):=by
  intro w hw hw2;obtain⟨-,o1,o2,o3,o4,o5⟩:=ok w (by omega);obtain⟨s,hs⟩:=o5 q qd;have w40:w<=2^40:=by omega
  cases neg with
  |false=>
   unfold nearR;rw[if_neg (by simp)];exact cert_pos hn0 hd hsB hd2 qd q64 hP (by omega) o2 o4 hs hw w40
  |true=>
   unfold nearR;rw[if_pos rfl];exact cert_neg hn0 hd hsB hd2 qd q64 hP (by omega) o1 o2 o4 hs hw w40
 have size : ∀w,160<=w->w<2*372000000000->P<=w->(nearR neg w (nearF n d w)).1<2^(w+c)/\(nearR neg w (nearF n d w)).2<2^(w+c):=by
  intro w hw hw2 hPw;obtain⟨-,o1,o2,o3,o4,-⟩:=ok w hw;cases neg with
  |false=>
   unfold nearR;rw[if_neg (by simp)];exact⟨by omega,o3⟩
  |true=>
   unfold nearR;rw[if_pos rfl];have Pw:0<2^w:=xK (by omega);have e2:2^(2*w)=2^w*2^w:=by rw[<- xM];congr 1;omega
   have big:2^w*4<=2^(w+c):=by
    rw[show (4:Nat)=2^2 from rfl,<- xM];exact xD (by omega) (by omega)
   have one : ∀z:Nat,2^w<=z->2^(2*w)/z<=2^w:=by
    intro z hz;refine(yL (by omega)).2 ?_;rw[e2];have:=xI (2^w) hz;omega
   have a:=one (nearF n d w).2 (by omega);have b:=one (nearF n d w).1 o1;constructor
   ·show 2^(2*w)/(nearF n d w).2<_;omega
   ·show 2^(2*w)/(nearF n d w).1+1<_;omega
 obtain⟨w,w1,w2,w3,fn⟩:=fix_CertainL (p:=P) (sp:=160) (M:=372000000000) (f:=232) (caps:=[.mem [.bool neg,natV (lim n),natV (lim d)]]) (lo:=fun w=>(nearR neg w (nearF n d w)).1) (hi:=fun w=>(nearR neg w (nearF n d w)).2) (by omega) (by omega) (by omega) (by omega) (by omega)
  (fun w hw hw2=>exps_Exp1 (exps_near hd h (by omega) (by omega) ln ld (ok w (by omega)).1))
  (fun w hw hw2=>by
   obtain⟨z1,z2⟩:=size w (by omega) hw2 (by omega);have a:=lim_len_pw z1;have b:=lim_len_pw z2;have m:(nearR neg w (nearF n d w)).1/2^(w-P)<2^(P+c):=by
    refine(yC (xK (by omega))).2 ?_;rw[<- xM,show P+c+(w-P)=w+c by omega];exact z1
   have l:=lim_len_pw m;exact⟨by omega,by omega,by omega⟩)
  cert
 obtain⟨z1,-⟩:=size w (by omega) w2 (by omega);obtain⟨-,o1,o2,o3,o4,o5⟩:=ok w (by omega);obtain⟨m,hm⟩ : ∃m,m=(nearR neg w (nearF n d w)).1/2^(w-P):=⟨_,rfl⟩
 have lm:m<2^(P+c):=by
  rw[hm];refine(yC (xK (by omega))).2 ?_;rw[<- xM,show P+c+(w-P)=w+c by omega];exact z1
 have ll:=lim_len_pw lm;refine⟨m,0,by omega,by rw[hm];exact fn,fun x hx => ?_⟩;obtain⟨s0,hs⟩:=o5 x hx;refine⟨s0,fun L hL => ?_⟩;have en:Enc w (nearR neg w (nearF n d w)).1 (nearR neg w (nearF n d w)).2 (if neg then 1/Ex.E x L else Ex.E x L):=by
  cases neg with
  |false=>
   unfold nearR;rw[if_neg (by simp),if_neg (by simp)];exact hs L hL
  |true=>
   unfold nearR;rw[if_pos rfl,if_pos rfl];exact(enc_inv (by have:0<2^w:=xK (by omega);omega) (hs L hL)).1
 have pos2:0<(nearR neg w (nearF n d w)).2:=by
  cases neg with
  |false=>unfold nearR;rw[if_neg (by simp)];omega
  |true=>unfold nearR;rw[if_pos rfl];exact Nat.succ_pos _
 have w3':m=((nearR neg w (nearF n d w)).2-1)/2^(w-P):=by rw[hm];exact w3
 generalize (if neg then 1/Ex.E x L else Ex.E x L)=z at *
 generalize (nearR neg w (nearF n d w)).1=lo at *
 generalize (nearR neg w (nearF n d w)).2=hi at *
 have Pw:=p2_pos (w-P);have e:p2 w=p2 P*p2 (w-P):=by
  have:w=P+(w-P):=by omega
  have e2:2^w=2^P*2^(w-P):=by rw[<- xM];congr 1
  show ((2^w:Nat):Rat)=_;rw[e2];exact Ex.castmul _ _
 obtain⟨b1,b2⟩:=en;rw[e,<- zG]at b1 b2;constructor
 ·refine le_by Pw ?_;have k:m*2^(w-P)<=lo:=by rw[hm];exact wO _ _
  have k2:=Ex.castle k;rw[Ex.castmul]at k2;exact xE k2 b1
 ·refine le_by Pw ?_;have k:hi<=(m+1)*2^(w-P):=by
   have:=wh (hi-1) (show 0<2^(w-P) from xK (by omega));rw[<- w3',xV]at this;omega
  have k2:=Ex.castle k;rw[Ex.castmul]at k2;exact xE b2 k2
theorem exps_Exp (hv:RatA v x L) (hL1:1<=L) (hL:L<=343) (hx0:x≠0) (h1 : -64<=x) (h2:x<=64) (hd : ∀s:Nat,s=11000->x.den<=2^s) (hP:P<=512) (hpI:(pI<=0/\P=0)\/pI=(P:Int)) :
  ∃m:Nat,(lim m).length<=5000/\Go.Ev.Fn CX 162 [v,.int .i64 pI] (.tup [ballR (mkRat (m:Int) (2^P)) (mkRat ((m+1:Nat):Int) (2^P)),.bool true]) /\ ∃s0,∀L,s0<=L->Enc P m (m+1) (evX x L):=by
 have zx:=szR_of hv hL1;have n1:=rat_Norm hv;have im:=rat_Int (-64);have ip:=rat_Int 64;have c1:=rat_Cmp (RatA_rv zx) (RatA_rv (int_szR (n := -64))) hL1;have c2:=rat_Cmp (RatA_rv zx) (RatA_rv (int_szR (n:=64))) hL1;have zr:=rat_Zero (RatA_rv zx) hL1;rw[decide_eq_false hx0]at zr;have e1:decide (cmpR x ((-64:Int):Rat)<0)=false:=by rw[cmpR_lt];exact decide_eq_false (yZ.2 h1)
 have e2:decide (cmpR x ((64:Int):Rat)>0)=false:=by rw[cmpR_gt];exact decide_eq_false (yZ.2 h2)
 have dp:=x.den_pos;have dR:(0:Rat)<(x.den:Rat):=by exact_mod_cast dp
 have nd:=Ex.denR x;have n0:0<x.num.natAbs:=by
  have:x.num≠0:=fun e=>hx0 (num_zero.1 e)
  omega
 have xm:x.num<=64*(x.den:Int) /\ -(64*(x.den:Int))<=x.num:=by
  constructor
  ·have m:=xA h2 (xG dR);rw[nd]at m;have:(x.num:Rat)<=((64*(x.den:Int):Int):Rat):=by rw[wb];exact m
   exact zo.1 this
  ·have m:=xA h1 (xG dR);rw[nd]at m;have:((-(64*(x.den:Int)):Int):Rat)<=(x.num:Rat):=by
    rw[Rat.intCast_neg,wb];have e : -(((64:Int):Rat)*((x.den:Int):Rat)) = -64*(x.den:Rat):=by
     have e3:((x.den:Int):Rat)=(x.den:Rat):=rfl;have e4:((64:Int):Rat)=64:=rfl;rw[e3,e4];grind
    rw[e];exact m
   exact zo.1 this
 obtain⟨sB,hsB⟩ : ∃s:Nat,s=11000:=⟨_,rfl⟩
 have hd:=hd sB hsB;obtain⟨m,-,lm,fn,en⟩:=exp_end (P:=P) (n:=x.num.natAbs) (d:=x.den) (neg:=decide (x.num<0)) n0 dp (by omega) hsB hd hP (xH zx.1 (by omega)) (xH zx.2 (by omega));have x1:(if (0:Int)>pI then (0:Int) else pI)=(P:Int):=by split<;>omega
 have x2:(if (512:Int)<(P:Int) then (512:Int) else (P:Int))=(P:Int):=if_neg (by omega);refine⟨m,lm,?_,?_⟩
 ·clear en nd xm zx h1 h2 hx0 hpI;obtain⟨s,n,d,rfl,-⟩:=hv;generalize mkRat (m:Int) (2^P)=q1 at *
  generalize mkRat ((m+1:Nat):Int) (2^P)=q2 at *
  generalize cmpR x ((-64:Int):Rat)=y1 at *
  generalize cmpR x ((64:Int):Rat)=y2 at *
  refine fni Tryz.f162 ?_;unfold Tryz.f162;repeat (first|simp only[go_sem,x1,x2,e1,e2,wN,Array.size_empty]|simp (disch:=first|exact omg|fail) only[AX,x1,x2,e1,e2,wN,Array.size_empty]|refine wki ?_|refine vpd 2 [] ?_|refine vfa ?_)
 ·by_cases hneg:x.num<0
  ·have xneg:x<0:=by
    have:=neg_numX (x:=x);rw[decide_eq_true hneg]at this;exact of_decide_eq_true this.symm
   obtain⟨s0,hs⟩:=en (-x) (by
    have e:(x.num.natAbs:Int) = -x.num:=by omega
    have e2:((x.num.natAbs:Nat):Rat)=((x.num.natAbs:Int):Rat):=rfl;rw[e2,e,Rat.intCast_neg,<- nd];grind)
   rw[decide_eq_true hneg]at hs;refine⟨s0,fun L hL => ?_⟩;unfold evX;rw[if_pos xneg];exact hs L hL
  ·have xpos : ¬x<0:=by
    have:=neg_numX (x:=x);rw[decide_eq_false hneg]at this;exact of_decide_eq_false this.symm
   obtain⟨s0,hs⟩:=en x (by
    have e:(x.num.natAbs:Int)=x.num:=by omega
    have e2:((x.num.natAbs:Nat):Rat)=((x.num.natAbs:Int):Rat):=rfl;rw[e2,e,<- nd])
   rw[decide_eq_false hneg]at hs;refine⟨s0,fun L hL => ?_⟩;unfold evX;rw[if_neg xpos];exact hs L hL
end
end Go.Proofs.YtfknkoeagjonbaaGreat
namespace Go.Proofs.YtfknkoeagjonbaaGreat
open Go.Ev
def tRow (w Y1 Y2 M:Nat):Nat->Nat->Nat->Nat->Nat->Nat->Option (Nat×Nat)
 |0,_,_,_,_,_=>none
 |f+1,k,t1,t2,a1,a2=>if M<=k/\t2<4 then some (a1,a2+8) else
   tRow w Y1 Y2 M f (k+2) (t1*Y1/2^w*1/k) ((t2*Y2/2^w+1)*1/k+1) (a1+t1*Y1/2^w*1/k) (a2+((t2*Y2/2^w+1)*1/k+1))
def tInv (w k0 i k t1 t2 a1 a2:Nat):Prop:=k=k0+2*i/\t1<=t2/\a1<=a2/\t2<2^(w+9+9*min i 1024)/\a2<(i+2)*2^(w+10000)
theorem tInv_0 {w k0 t1 t2 a1 a2:Nat} (h1:t1<=t2:=by omega) (h2:a1<=a2:=by omega) (h3:t2<2^(w+9):=by omega) (h4:a2<2^(w+10):=by omega):tInv w k0 0 k0 t1 t2 a1 a2:=by
 have:2^(w+10)<=2^(w+10000):=xD (by omega) (by omega);refine⟨by omega,h1,h2,h3,by omega⟩
theorem tStep_le {w Y2 k t2:Nat} (hY:Y2<=2^(w+8)) (hk:1<=k):(t2*Y2/2^w+1)*1/k+1<=t2*256+2/\(2048<=k->(t2*Y2/2^w+1)*1/k+1<=t2/8+2)/\(2048<=k->t2<=4->(t2*Y2/2^w+1)*1/k+1=1):=by
 have P:0<2^w:=xK (by omega);have h1:t2*Y2/2^w<=t2*256:=by
  refine(yL P).2 ?_;have m:=xI t2 hY;have e:t2*2^(w+8)=2^w*(t2*256):=by rw[xM,show (2:Nat)^8=256 from rfl,ym]
  rw[xV (t2*256)];omega
 rw[yD];generalize t2*Y2/2^w=q at *
 have a:=xv (q+1) k;refine⟨by omega,fun g => ?_,fun g g2 => ?_⟩
 ·have b:(q+1)/k<=(q+1)/2048:=ww g (by omega);omega
 ·rw[yn (by omega)]
theorem tInv_step {w Y1 Y2 k0 i k t1 t2 a1 a2:Nat} (hY:Y2<=2^(w+8)) (hY1:Y1<=Y2) (hk0:1<=k0) (h:tInv w k0 i k t1 t2 a1 a2) :
  tInv w k0 (i+1) (k+2) (t1*Y1/2^w*1/k) ((t2*Y2/2^w+1)*1/k+1) (a1+t1*Y1/2^w*1/k) (a2+((t2*Y2/2^w+1)*1/k+1)):=by
 obtain⟨h1,h2,h3,h4,h5⟩:=h;obtain⟨u1,u2,u3⟩:=tStep_le (t2:=t2) hY (show 1<=k by omega);have q0:t1*Y1/2^w*1/k<=(t2*Y2/2^w+1)*1/k+1:=by
  refine yP (xf (xC 1 ?_));exact yP (xf (xO h2 hY1))
 have nt:(t2*Y2/2^w+1)*1/k+1<2^(w+9+9*min (i+1) 1024):=by
  by_cases hi:i<1024
  ·rw[show min (i+1) 1024=min i 1024+1 by omega,show w+9+9*(min i 1024+1)=(w+9+9*min i 1024)+9 by omega,xM _ _ 9,show (2:Nat)^9=512 from rfl];have:2^2<=2^(w+9+9*min i 1024):=xD (by omega) (by omega);omega
  ·rw[show min (i+1) 1024=min i 1024 by omega];have g:=u2 (by omega);have:2^4<=2^(w+9+9*min i 1024):=xD (by omega) (by omega);omega
 have le:2^(w+9+9*min (i+1) 1024)<=2^(w+10000):=xD (by omega) (by omega);generalize t1*Y1/2^w*1/k=x at *
 generalize (t2*Y2/2^w+1)*1/k+1=y at *
 refine⟨by omega,q0,by omega,nt,?_⟩;rw[show i+1+2=(i+2)+1 by omega,xZ (i+2) 1,xe];omega
theorem tRow_low {w Y1 Y2 M k0:Nat} (hY:Y2<=2^(w+8)) (hY1:Y1<=Y2) (hk0:1<=k0) (hM:M<=2048) : ∀ (m f i k t1 t2 a1 a2:Nat),tInv w k0 i k t1 t2 a1 a2->2048<=k->t2<=2^(3*m)+3->m+2<=f -> ∃A B,tRow w Y1 Y2 M f k t1 t2 a1 a2=some (A,B)/\A<=B/\B<(i+m+4)*2^(w+10000):=by
 intro m;induction m with
 |zero=>
  intro f i k t1 t2 a1 a2 h hk ht hf;obtain⟨f,rfl⟩ : ∃j,f=j+2:=⟨f-2,by omega⟩
  have P:2^4<=2^(w+10000):=xD (by omega) (by omega);have hh:=h;obtain⟨h1,h2,h3,h4,h5⟩:=hh;rw[tRow];by_cases g:M<=k/\t2<4
  ·rw[if_pos g];refine⟨a1,a2+8,rfl,by omega,?_⟩;rw[show i+0+4=(i+2)+2 by omega,xZ (i+2) 2];omega
  ·rw[if_neg g];have st:=tInv_step hY hY1 hk0 h;have t4:t2<=4:=by have:2^(3*0)=1:=rfl;omega
   rw[(tStep_le (t2:=t2) hY (show 1<=k by omega)).2.2 hk t4]at st ⊢;obtain⟨k1,k2,k3,k4,k5⟩:=st;rw[tRow,if_pos (by omega)];refine⟨_,_,rfl,by omega,?_⟩;rw[show i+0+4=(i+1+2)+1 by omega,xZ (i+1+2) 1];omega
 |succ m ih=>
  intro f i k t1 t2 a1 a2 h hk ht hf;obtain⟨f,rfl⟩ : ∃j,f=j+1:=⟨f-1,by omega⟩
  have P:2^4<=2^(w+10000):=xD (by omega) (by omega);have hh:=h;obtain⟨h1,h2,h3,h4,h5⟩:=hh;rw[tRow];by_cases g:M<=k/\t2<4
  ·rw[if_pos g];refine⟨a1,a2+8,rfl,by omega,?_⟩;rw[show i+(m+1)+4=(i+2)+(m+3) by omega,xZ (i+2)];have:=zI (2^(w+10000)) (show 0<m+3 by omega);omega
  ·rw[if_neg g];have st:=tInv_step hY hY1 hk0 h;have up:=(tStep_le (t2:=t2) hY (show 1<=k by omega)).2.1 hk;have dv:t2/8<=2^(3*m):=by
    have e:2^(3*(m+1))=2^(3*m)*8:=by rw[show 3*(m+1)=3*m+3 by omega,xM]
    rw[e]at ht;omega
   obtain⟨A,B,r1,r2,r3⟩:=ih f (i+1) (k+2) _ _ _ _ st (by omega) (by omega) (by omega);exact⟨A,B,r1,r2,by rw[show i+(m+1)+4=i+1+m+4 by omega];exact r3⟩
theorem tRow_end {w Y1 Y2 M k0:Nat} (hY:Y2<=2^(w+8)) (hY1:Y1<=Y2) (hk0:1<=k0) (hM:M<=2048) (hw:w<=3000) : ∀ (d f i k t1 t2 a1 a2:Nat),tInv w k0 i k t1 t2 a1 a2->2048<=k+2*d->i+d<=1024->d+4100<=f -> ∃A B,tRow w Y1 Y2 M f k t1 t2 a1 a2=some (A,B)/\A<=B/\B<2^(w+10014):=by
 have fin : ∀z B:Nat,z<=16000->B<z*2^(w+10000)->B<2^(w+10014):=by
  intro z B hz hB;have e:2^(w+10014)=16384*2^(w+10000):=by rw[show w+10014=14+(w+10000) by omega,xM 2 14]
  have m:=xC (2^(w+10000)) (show z<=16384 by omega);omega
 intro d;induction d with
 |zero=>
  intro f i k t1 t2 a1 a2 h hk hi hf;have h4:=h.2.2.2.1;obtain⟨m,hm⟩ : ∃m:Nat,m=4098:=⟨_,rfl⟩
  obtain⟨A,B,r1,r2,r3⟩:=tRow_low hY hY1 hk0 hM m f i k t1 t2 a1 a2 h (by omega) (by
   have:2^(w+9+9*min i 1024)<=2^(3*m):=xD (by omega) (by omega);omega) (by omega)
  exact⟨A,B,r1,r2,fin _ _ (by omega) r3⟩
 |succ d ih=>
  intro f i k t1 t2 a1 a2 h hk hi hf;obtain⟨f,rfl⟩ : ∃j,f=j+1:=⟨f-1,by omega⟩
  have hh:=h;obtain⟨h1,h2,h3,h4,h5⟩:=hh;rw[tRow];by_cases g:M<=k/\t2<4
  ·rw[if_pos g];refine⟨a1,a2+8,rfl,by omega,fin (i+3) _ (by omega) ?_⟩;have P:2^4<=2^(w+10000):=xD (by omega) (by omega);rw[show i+3=(i+2)+1 by omega,xZ (i+2) 1];omega
  ·rw[if_neg g];exact ih f (i+1) (k+2) _ _ _ _ (tInv_step hY hY1 hk0 h) (by omega) (by omega) (by omega)
end Go.Proofs.YtfknkoeagjonbaaGreat
namespace Go.Proofs.YtfknkoeagjonbaaGreat
open Go.Ev
theorem p2_add (a b:Nat):p2 (a+b)=p2 a*p2 b:=by
 show ((2^(a+b):Nat):Rat)=_;rw[xM];exact_mod_cast rfl
theorem n_mul (a b:Nat):((a*b:Nat):Rat)=(a:Rat)*(b:Rat):=by exact_mod_cast rfl
theorem n_le {a b:Nat} (h:a<=b):(a:Rat)<=(b:Rat):=by exact_mod_cast h
theorem n_nn (a:Nat):(0:Rat)<=(a:Rat):=by exact_mod_cast zj a
def SQ:Rat:=mkRat (rootPi:Int) (2^400)
theorem SQ_mul:SQ*p2 400=(rootPi:Rat):=by
 unfold SQ;rw[wk];exact xd (by have:(0:Rat)<p2 400:=p2_pos 400;grind)
theorem SQ_nn:0<=SQ:=le_by (p2_pos 400) (by rw[SQ_mul,xw];exact n_nn _)
theorem sq_split {p:Nat} (hp:p<=800):SQ*SQ*p2 p*p2 (800-p)=((rootPi*rootPi:Nat):Rat):=by
 have h1:p2 p*p2 (800-p)=p2 400*p2 400:=by rw[<- p2_add,<- p2_add];congr 1;omega
 have h2:SQ*SQ*p2 p*p2 (800-p)=SQ*SQ*(p2 p*p2 (800-p)):=by grind
 have h3:SQ*SQ*(p2 400*p2 400)=(SQ*p2 400)*(SQ*p2 400):=by grind
 rw[h2,h1,h3,SQ_mul,n_mul]
theorem sq_lo {a p:Nat} (hp:p<=800) (h:a*2^(800-p)<=rootPi*rootPi):(a:Rat)<=SQ*SQ*p2 p:=by
 refine le_by (p2_pos (800-p)) ?_;rw[sq_split hp];have:=n_le h;rw[n_mul]at this;exact this
theorem sq_hi {a p:Nat} (hp:p<=800) (h:rootPi*rootPi<=a*2^(800-p)):SQ*SQ*p2 p<=(a:Rat):=by
 refine le_by (p2_pos (800-p)) ?_;rw[sq_split hp];have:=n_le h;rw[n_mul a]at this;exact this
theorem sq_ge {a p:Nat} (hp:p<=400) (h:rootPi*rootPi<=(a+1)*2^(800-p)):2^p<=a:=by
 have h1:2*2^800<=rootPi*rootPi:=by decide +kernel
 have h2:2^800=2^p*2^(800-p):=by rw[<- xM];congr 1;omega
 have h3:0<2^(800-p):=xK (by omega);have h4:2*2^p*2^(800-p)<=(a+1)*2^(800-p):=by rw[xP,<- h2];exact xH h1 h
 have h5:=yv h4 h3;have h6:0<2^p:=xK (by omega);omega
theorem sq_mono {x y:Rat} (hx:0<=x) (hy:0<=y) (h:x*x<=y*y):x<=y:=by
 rcases zC (a:=x) (b:=y) with g|g
 ·exact g
 ·by_cases e:y=x
  ·rw[e];exact xN
  ·have h1:y<x:=by grind
   have h2:y*y<=x*y:=xA g hy;have h3:x*y<x*x:=by
    have:0<x*(x-y):=xt (by grind) (by grind);grind
   grind
theorem root_width {lo lo' hi' hi A B P:Rat} (hP:0<P) (a2:lo<=lo') (a4:A<=lo'*lo') (a5:(lo'-lo)*P<=1) (h0:0<=lo) (b1:0<=hi') (b3:hi'*hi'<=B) (b5:(hi-hi')*P<=1) (hA:1<=A) (hAB:(B-A)*P<=1) (hAB0:A<=B):(hi-lo)*P<=3:=by
 have l0:0<=lo':=xE h0 a2;have l1:1<=lo':=sq_mono (by decide) l0 (by rw[yA];exact xE hA a4);have key:hi'-lo'<=B-A:=by
  rcases zC (a:=hi') (b:=lo') with g|g
  ·grind
  ·have h1:(hi'-lo')*1<=(hi'-lo')*(hi'+lo'):=xB (by grind) (by grind);have h2:(hi'-lo')*(hi'+lo')=hi'*hi'-lo'*lo':=by grind
   grind
 have k2:=xA key (show 0<=P by grind);have e:(hi-lo)*P=(hi-hi')*P+(hi'-lo')*P+(lo'-lo)*P:=by grind
 grind
end Go.Proofs.YtfknkoeagjonbaaGreat
namespace Go.Proofs.YtfknkoeagjonbaaGreat
open Go.Ev
theorem pi256:piOk 256=true:=by kernel_rfl
theorem pi328:piOk 328=true:=by kernel_rfl
theorem arcs_PiX {p:Nat} (h1:8<=p) (h2:p<233\/p=256\/p=328) : ∃a:Nat,Go.Ev.Fn CX 240 [.int .i64 (p:Int)] (ballR (mkRat (a:Int) (2^p)) (mkRat ((a+1:Nat):Int) (2^p)))/\a*2^(800-p)<=rootPi*rootPi/\rootPi*rootPi<=(a+1)*2^(800-p):=by
 have h:piOk p=true:=by
  rcases h2 with h2|rfl|rfl
  ·exact allFrom_at pi_ok p h1 (by omega)
  ·exact pi256
  ·exact pi328
 unfold piOk at h;split at h
 ·rename_i lo hi hpi;rw[pin_eq,xh,xh]at h;obtain⟨k1,k2,k3⟩:=h;have k1:=Nat.eq_of_beq_eq_true k1;have k2:=xj k2;have k3:=xj k3;obtain⟨f,g1,g2⟩:=arcs_pi (by omega) (by omega) hpi;have c:=fix_Certain1 (p:=p) (sp:=64) f (by omega) (by omega) (by omega) (by omega) (by omega) k1;refine⟨lo/2^64,?_,k2,k3⟩;have hh:=arcs_held (p:Int);rw[if_neg (by omega),if_neg (by omega)]at hh;generalize mkRat ((lo/2^64:Nat):Int) (2^p)=q1 at *
  generalize mkRat ((lo/2^64+1:Nat):Int) (2^p)=q2 at *
  clear k2 k3 f hpi;refine fni Tryz.f240 ?_;unfold Tryz.f240;repeat (first|simp only[go_sem]|simp (disch:=first|exact omg|fail) only[AX]|refine wki ?_|refine vfa ?_)
 ·cases h
end Go.Proofs.YtfknkoeagjonbaaGreat
namespace Go.Proofs.YtfknkoeagjonbaaGreat
open Go.Ev
theorem mk_p2 (a p:Nat):mkRat (a:Int) (2^p)*p2 p=(a:Rat):=mk_mulP (a:Int) (xK (by omega))
theorem many_pi {d:Nat} (h1:8<=d) (h2:d<233\/d=256\/d=328:=by omega) : ∃m1 m2:Rat,Go.Ev.Fn CX 240 [.int .i64 (d:Int)] (ballR m1 m2)/\m1<=SQ*SQ/\SQ*SQ<=m2/\(m2-m1)*p2 d<=1/\1<=m1/\szR m1 40/\szR m2 40:=by
 obtain⟨a,f,g1,g2⟩:=arcs_PiX h1 h2;have P:=p2_pos d;have e1:=mk_p2 a d;have e2:=mk_p2 (a+1) d;have k1:=sq_lo (by omega) g1;have k2:=sq_hi (a:=a+1) (by omega) g2;have k3:=sq_ge (by omega) g2;have hA:a<=2^(d+4):=by
  have x1:rootPi*rootPi<=2^804:=by decide +kernel
  have x2:2^804=2^(d+4)*2^(800-d):=by rw[<- xM];congr 1;omega
  rw[x2]at x1;exact yv (xH g1 x1) (xK (by omega))
 have hp:2^d<=2^(d+4):=xD (by omega) (by omega);have hB:a+1<=2^(d+5):=by
  have:2^(d+5)=2^(d+4)*2:=by rw[<- xU]
  have:=xK (a:=2) (n:=d+4) (by omega);omega
 have lp:=lim_len_p2 hp;have la:=lim_len_p2 hA;have lb:=lim_len_p2 hB;refine⟨_,_,f,le_by P (by rw[e1];exact k1),le_by P (by rw[e2];exact k2),?_,le_by P (by rw[e1,xc];exact n_le k3),szR_nat la lp,szR_nat lb lp⟩;have e : ∀a b c:Rat,(a-b)*c=a*c-b*c:=by intro a b c;grind
 rw[e,e1,e2];have:((a+1:Nat):Rat)=(a:Rat)+1:=by exact_mod_cast rfl
 rw[this];grind
theorem many_root {m1 m2:Rat} {d:Nat} (hd:d<400) (h1:m1<=SQ*SQ) (h2:SQ*SQ<=m2) (h3:(m2-m1)*p2 d<=1) (h4:1<=m1) (z1:szR m1 40) (z2:szR m2 40) :
  ∃lo hi:Rat,Go.Ev.Fn CX 287 [ballR m1 m2,.int .i64 (d:Int)] (.tup [ballR lo hi,.bool true])/\lo<=SQ/\SQ<=hi/\(hi-lo)*p2 d<=3/\szR lo 80/\szR hi 80:=by
 have h5:m1<=m2:=xE h1 h2;obtain⟨lo,lo',hi',hi,f,g1,g2,g3,g4,g5,k1,k2,k3,k4,k5,y1,y2⟩:=root_Of (L:=40) (p:=d) (A:=m1) (B:=m2) (by grind) (by grind) z1 z2;refine⟨lo,hi,f,sq_mono g1 SQ_nn (xE g3 h1),sq_mono SQ_nn (xE k1 k2) (xE h2 k4),root_width (p2_pos d) g2 g4 g5 g1 k1 k3 k5 h4 h3 h5,y1,y2⟩
section
variable {v:SV} {q:Rat} {roots pI:Int} {P:Nat}
end
end Go.Proofs.YtfknkoeagjonbaaGreat
namespace Go.Proofs.YtfknkoeagjonbaaGreat
open Go.Ev
section
variable {v:SV} {z:Rat} {L P w:Nat} {pI:Int}
theorem bell_nigh (hv:RatA v z L) (hL1:1<=L) (hL:L<=100) (h1 : -8<=z) (h2:z<=8):Go.Ev.Fn CX 263 [v] (.bool false):=by
 have zx:=szR_of hv hL1;have im:=rat_Int (-8);have ip:=rat_Int 8;have c1:=rat_Cmp hv (RatA_rv (int_szR (n := -8))) hL1;have c2:=rat_Cmp hv (RatA_rv (int_szR (n:=8))) hL1;have e1:decide (cmpR z ((-8:Int):Rat)<0)=false:=by rw[cmpR_lt];exact decide_eq_false (yZ.2 h1)
 have e2:decide (cmpR z ((8:Int):Rat)>0)=false:=by rw[cmpR_gt];exact decide_eq_false (yZ.2 h2)
 obtain⟨s,n,d,rfl,-⟩:=hv;generalize cmpR z ((-8:Int):Rat)=y1 at *
 generalize cmpR z ((8:Int):Rat)=y2 at *
 refine fni Tryz.f263 ?_;unfold Tryz.f263;repeat (first|simp only[go_sem,e1,e2]|simp (disch:=first|exact omg|fail) only[AX,e1,e2]|refine wki ?_|refine vpd 1 [] ?_|refine vfa ?_)
theorem bell_held (hpI:(pI<=0/\P=0)\/pI=(P:Int)) (hP:P<=200):Go.Ev.Fn CX 264 [.int .i64 pI] (.int .i64 (P:Int)):=by
 have e1:(if (0:Int)>pI then (0:Int) else pI)=(P:Int):=by split<;>omega
 have e2:(if (200:Int)<(P:Int) then (200:Int) else (P:Int))=(P:Int):=if_neg (by omega);refine fni Tryz.f264 ?_;unfold Tryz.f264;repeat (first|simp only[go_sem,e1,e2]|simp (disch:=first|exact omg|fail) only[AX,e1,e2]|refine wki ?_)
theorem unN_mk (m w:Nat):unN (mkRat (m:Int) (2^w)) w=m:=by
 have P:0<2^w:=xK (by omega);obtain⟨q,hq⟩ : ∃q,q=mkRat (m:Int) (2^w):=⟨_,rfl⟩
 have e:=mk_p2 m w;rw[<- hq]at e ⊢;have q0:0<=q:=by
  refine le_by (p2_pos w) ?_;rw[e,xw];exact nat_nonneg m
 have nn:0<=q.num:=zL.2 q0;have d:=Ex.denR q;have k:((q.num.natAbs*2^w:Nat):Rat)=((m*q.den:Nat):Rat):=by
  rw[Ex.castmul,Ex.castmul,<- e];have:((q.num.natAbs:Nat):Rat)=(q.num:Rat):=by
   have h:((q.num.natAbs:Nat):Rat)=((q.num.natAbs:Int):Rat):=rfl;rw[h,wJ nn]
  rw[this,<- d];grind
 have k2:=Ex.nat_inj k;show q.num.natAbs*2^w/q.den=m;rw[k2];exact Nat.mul_div_cancel _ q.den_pos
theorem exps_Exp0 {pI:Int} (hv:RatA v 0 L) (hL:L<=100):Go.Ev.Fn CX 162 [v,.int .i64 pI] (.tup [ballR 1 1,.bool true]):=by
 have n1:=rat_Norm hv;have im:=rat_Int (-64);have ip:=rat_Int 64;have i1:=rat_Int 1;have z0:szR 0 1:=szR_zero;have c1:=rat_Cmp (RatA_rv z0) (RatA_rv (int_szR (n := -64)));have c2:=rat_Cmp (RatA_rv z0) (RatA_rv (int_szR (n:=64)));have zr:=rat_Zero (RatA_rv z0);rw[decide_eq_true rfl]at zr;have o:=ball_Of (RatA_rv (int_szR (n:=1)));rw[show ((1:Int):Rat)=1 from rfl]at i1 o;have e1:decide (cmpR 0 ((-64:Int):Rat)<0)=false:=by rw[cmpR_lt];decide +kernel
 have e2:decide (cmpR 0 ((64:Int):Rat)>0)=false:=by rw[cmpR_gt];decide +kernel
 obtain⟨s,n,d,rfl,-⟩:=hv;generalize cmpR 0 ((-64:Int):Rat)=y1 at *
 generalize cmpR 0 ((64:Int):Rat)=y2 at *
 refine fni Tryz.f162 ?_;unfold Tryz.f162;repeat (first|simp only[go_sem,e1,e2]|simp (disch:=first|exact omg|fail) only[AX,e1,e2]|refine wki ?_|refine vpd 2 [] ?_|refine vfa ?_)
theorem bell_fall (hv:RatA v z L) (hL1:1<=L) (hL:L<=100) (h1 : -64<=z) (h2:z<=0) (hd : ∀s:Nat,s=11000->z.den<=2^s) (hw:w<=512:=by omega) :
  ∃A B:Nat,A<=B/\B<=A+2/\B<=2^w+2/\Go.Ev.Fn CX 301 [v,.int .i64 (w:Int)] (spanV A B) /\ ∃s0,∀L,s0<=L->Enc w A B (evX z L):=by
 have P:=p2_pos w;by_cases h0:z=0
 ·subst h0;have ex:=exps_Exp0 (pI:=(w:Int)) hv hL;have fb:=fix_Ball (w:=w) (lo:=1) (hi:=1) (L:=1) ⟨lim_len_lt (by decide +kernel),lim_len_lt (by decide +kernel)⟩ ⟨lim_len_lt (by decide +kernel),lim_len_lt (by decide +kernel)⟩;have u:unN 1 w=2^w:=by show (1:Rat).num.natAbs*2^w/(1:Rat).den=_;rw[show (1:Rat).num.natAbs=1 from rfl,show (1:Rat).den=1 from rfl,xe,zK]
  rw[u]at fb;refine⟨2^w,2^w+1,by omega,by omega,by omega,?_,1,fun L hL => ?_⟩
  ·obtain⟨s,n,d,rfl,-⟩:=hv;generalize 2^w=y at *
   refine fni Tryz.f301 ?_;unfold Tryz.f301;repeat (first|simp only[go_sem]|simp (disch:=first|exact omg|fail) only[AX]|refine wki ?_|refine vfa ?_)
  ·have e:evX 0 L=1:=by
    unfold evX;rw[if_neg (by decide)];obtain⟨k,rfl⟩ : ∃k,L=k+1:=⟨L-1,by omega⟩
    exact Ex.E_zero k
   rw[e];refine⟨by rw[xc];exact xN,?_⟩;rw[xc];exact_mod_cast yg (2^w)
 ·have hneg:z<0:=by grind
  obtain⟨m,lm,fn,s0,hs⟩:=exps_Exp (P:=w) (pI:=(w:Int)) hv hL1 (by omega) h0 h1 (by grind) hd hw (.inr rfl);have hm:m<=2^w:=by
   have e:=(hs (s0+1) (by omega)).1;have one:=E_one (x := -z) (by grind) (L:=s0+1);have i:Ex.E (-z) (s0+1)*(1/Ex.E (-z) (s0+1))=1:=Ex.mul_div _ 1 (by grind);have i0:0<=1/Ex.E (-z) (s0+1):=Ex.div_nn (by decide) (by grind);have le1:1/Ex.E (-z) (s0+1)<=1:=by
    have:=xA one i0;rw[i,xc]at this;exact this
   unfold evX at e;rw[if_pos hneg]at e;have k:=xE e (xA le1 (xG P));rw[xc]at k;exact_mod_cast k
  have lp:=lim_len_pw (n:=2^w) (w:=w+1) (by rw[xU];have:0<2^w:=xK (by omega);omega);have lm2:=lim_len_pw (n:=m+1) (w:=w+2) (by rw[xM];have:0<2^w:=xK (by omega);omega);have lm1:(lim m).length<=(lim (m+1)).length:=lim_len_mono (yg m);have z1:szR (mkRat (m:Int) (2^w)) 20:=szR_nat;have z2:szR (mkRat ((m+1:Nat):Int) (2^w)) 20:=szR_nat;have fb:=fix_Ball (w:=w) z1 z2;rw[unN_mk,unN_mk]at fb;refine⟨m,m+2,by omega,by omega,by omega,?_,s0,fun L hL => ?_⟩
  ·clear hs z1 z2 hd h1 h2 h0 hneg;obtain⟨s,n,d,rfl,-⟩:=hv;generalize mkRat (m:Int) (2^w)=q1 at *
   generalize mkRat ((m+1:Nat):Int) (2^w)=q2 at *
   refine fni Tryz.f301 ?_;unfold Tryz.f301;repeat (first|simp only[go_sem]|simp (disch:=first|exact omg|fail) only[AX]|refine wki ?_|refine vfa ?_)
  ·exact enc_wider (n:=1) (hs L hL)
theorem unN_lt {q:Rat} (h0:0<=q) (w:Nat):q*p2 w<((unN q w+1:Nat):Rat):=by
 have d:=Ex.denR q;have dR:(0:Rat)<(q.den:Rat):=by exact_mod_cast q.den_pos
 have nn:0<=q.num:=zL.2 h0;have k:=wh (q.num.natAbs*2^w) q.den_pos;have k2:=Ex.castlt k;rw[Ex.castmul,Ex.castmul]at k2;have e:((q.num.natAbs:Nat):Rat)=(q.num:Rat):=by
  have h:((q.num.natAbs:Nat):Rat)=((q.num.natAbs:Int):Rat):=rfl;rw[h,wJ nn]
 rw[e,<- d]at k2;refine wv.1 fun hc => ?_
 have m:=xA hc (xG dR);have k3:q*(q.den:Rat)*p2 w<(q.den:Rat)*((unN q w+1:Nat):Rat):=k2;grind
theorem unN_mono {p q:Rat} (h0:0<=p) (h:p<=q) (w:Nat):unN p w<=unN q w:=by
 have a:=(unN_le h0 w).1;have b:=(unN_lt (show 0<=q by grind) w)
 have m:=xA h (xG (p2_pos w));have k:((unN p w:Nat):Rat)<((unN q w+1:Nat):Rat):=by grind
 have k2:unN p w<unN q w+1:=by exact_mod_cast k
 omega
theorem lohi1 {c lo hi:Rat} (hc:0<=c) (g:lo<=hi):loL (c*lo) [c*hi,c*lo,c*hi]=c*lo/\hiL (c*lo) [c*hi,c*lo,c*hi]=c*hi:=by
 have g2:=xB g hc;generalize c*lo=u at *
 generalize c*hi=v at *
 constructor
 ·simp only[loL,List.foldl_cons,List.foldl_nil,mnR];repeat (first|rw[if_neg (by grind)]|rfl)
 ·simp only[hiL,List.foldl_cons,List.foldl_nil,mxR];by_cases e:u<v
  ·rw[if_pos e,if_neg (show ¬v<u by grind),if_neg (show ¬v<v by grind)]
  ·rw[if_neg e,if_neg (show ¬u<u by grind),if_neg e];grind
theorem fix_RatS {s:Bool} {n d:Nat} (hd:0<d) (ln:(lim n).length<=1000:=by omega) (ld:(lim d).length<=1000:=by omega) (hw:w<=10000:=by omega):Go.Ev.Fn CX 171 [ratV s (lim n) (lim d),.int .i64 (w:Int)] (spanV (n*2^w/d) (n*2^w/d+1)):=by
 have of:=fix_Of (n:=n) (d:=d) (w:=w);generalize n*2^w/d=x at *
 refine fni Tryz.f171 ?_;unfold Tryz.f171;repeat (first|simp only[go_sem]|simp (disch:=first|exact omg|fail) only[AX]|refine wki ?_|refine vfa ?_)
end
end Go.Proofs.YtfknkoeagjonbaaGreat
namespace Go.Proofs.YtfknkoeagjonbaaGreat
open Go.Ev
theorem ball_Neg {a b:Rat} {L:Nat} (ha:szR a L) (hb:szR b L) (hL1:1<=L:=by omega) (hL:L<=100000:=by omega):Go.Ev.Fn CX 267 [ballR a b] (ballR (-b) (-a)):=by
 have n1:=rat_Neg (RatA_rv ha) hL1;have n2:=rat_Neg (RatA_rv hb) hL1;generalize -a=u at *
 generalize -b=w at *
 refine fni Tryz.f267 ?_;unfold Tryz.f267;repeat (first|simp only[go_sem]|simp (disch:=first|exact omg|fail) only[AX]|refine wki ?_|refine vpd 1 [] ?_|refine vfa ?_)
theorem ball_Add {a b c d:Rat} {L M:Nat} (ha:szR a L) (hb:szR b L) (hc:szR c M) (hd:szR d M) (hL1:1<=L:=by omega) (hM1:1<=M:=by omega) (hL:L+M<=100000:=by omega):Go.Ev.Fn CX 268 [ballR a b,ballR c d] (ballR (a+c) (b+d)):=by
 have s1:=rat_Add (RatA_rv ha) (RatA_rv hc) hL1 hM1;have s2:=rat_Add (RatA_rv hb) (RatA_rv hd) hL1 hM1;generalize a+c=x at *
 generalize b+d=y at *
 refine fni Tryz.f268 ?_;unfold Tryz.f268;repeat (first|simp only[go_sem]|simp (disch:=first|exact omg|fail) only[AX]|refine wki ?_|refine vpd 1 [] ?_|refine vfa ?_)
theorem rv_neg (z:Rat) : ∃s:Bool,rv (-z)=ratV s (lim z.num.natAbs) (lim z.den):=by
 refine⟨decide ((-z).num<0),?_⟩;show ratV (decide ((-z).num<0)) (lim (-z).num.natAbs) (lim (-z).den)=_;rw[Rat.neg_num,Rat.neg_den,yJ]
theorem two_len:szR 2 1:=⟨lim_len_lt (by decide +kernel),lim_len_lt (by decide +kernel)⟩
theorem den_le {q:Rat} {L:Nat} (h:szR q L) (hL:L<=343:=by omega) : ∀s:Nat,s=11000->q.den<=2^s:=by
 intro s hs;have a:q.den<4294967296^(lim q.den).length:=lim_len_pow;have b:4294967296^(lim q.den).length=2^(32*(lim q.den).length):=by rw[zF]
 have c:2^(32*(lim q.den).length)<=2^s:=xD (by omega) (by have:=h.2;omega);omega
theorem num_le8 {z:Rat} (h0:0<=z) (h:z<=8):z.num.natAbs<=8*z.den:=by
 have d:=Ex.denR z;have dR:(0:Rat)<(z.den:Rat):=by exact_mod_cast z.den_pos
 have nn:0<=z.num:=zL.2 h0;have m:=xA h (xG dR);rw[d]at m;have k:z.num<=8*(z.den:Int):=by
  have:(z.num:Rat)<=((8*(z.den:Int):Int):Rat):=by rw[wb];exact m
  exact zo.1 this
 omega
theorem neg64 {q:Rat} (h0:0<=q) (h:q<=64) : -64 <= -q /\ -q<=0:=by constructor<;>grind
theorem sq_same {y z:Rat} (h:y=z\/y = -z):y*y=z*z:=by rcases h with rfl|rfl<;>grind
theorem sq_bd {z:Rat} (h0:0<=z) (h:z<=8):0<=z*z/\z*z<=64:=by
 have a:=xF h0 h0;have b:=xB h h0;exact⟨a,by grind⟩
section
variable {z:Rat} {w P:Nat} {pI:Int}
end
end Go.Proofs.YtfknkoeagjonbaaGreat
namespace Go.Proofs.YtfknkoeagjonbaaGreat
open Go.Ev
theorem half_div:((1:Int):Rat)/((2:Int):Rat)=1/2:=rfl
theorem hlf_len:szR (1/2) 1:=⟨lim_len_lt (by decide +kernel),lim_len_lt (by decide +kernel)⟩
theorem unit_len:szR 1 1:=⟨lim_len_lt (by decide +kernel),lim_len_lt (by decide +kernel)⟩
theorem told_span {A B w p:Nat} (hAB:A<=B) (hB:B<2^(w+10040)) (hp:p<w:=by omega) (hw:w<=500:=by omega) :
  ∃l h:Rat,l<=h/\0<=l/\szR l 400/\szR h 400/\l=mkRat ((A/2^(w-p):Nat):Int) (2^p)/\h=mkRat ((B/2^(w-p)+1:Nat):Int) (2^p)/\Go.Ev.Fn CX 110 [spanV A B,.int .i64 (w:Int),.int .i64 (p:Int)] (ballR l h):=by
 have lB:=lim_len_pw hB;have lA:=lim_len_mono hAB;have t:=fix_Told (a:=A) (b:=B) (w:=w) (p:=p) (by omega) (by omega) hp;have P:=p2_pos p;have a:=mk_p2 (A/2^(w-p)) p;have b:=mk_p2 (B/2^(w-p)+1) p;have d:A/2^(w-p)<=B/2^(w-p)+1:=yP (xf hAB);have l1:=lim_len_mono (xv A (2^(w-p)));have l2:=lim_len_mono (xv B (2^(w-p)));have l3:=lim_len_add (a:=B/2^(w-p)) (b:=1) (L:=399) (by omega) (by have:=lim_len1;omega);have lp:=lim_len_shl (a:=1) (n:=p);rw[xe]at lp;have lo:=lim_len1;refine⟨_,_,le_by P ?_,le_by P ?_,szR_nat,szR_nat,rfl,rfl,t⟩
 ·rw[a,b];exact Ex.castle d
 ·rw[a,xw];exact nat_nonneg _
section
variable {z:Rat} {P:Nat} {pI:Int}
theorem num_neg_iff {x:Rat} (h:0<x):decide (x.num<0)=false/\decide ((-x).num<0)=true:=by
 have a:=neg_numX (x:=x);have b:=neg_numX (x := -x);rw[decide_eq_false (show ¬x<0 by grind)]at a;rw[decide_eq_true (show -x<0 by grind)]at b;exact⟨a,b⟩
theorem bell_Phi0 {v:SV} (hv:RatA v 0 3):Go.Ev.Fn CX 206 [v,.int .i64 pI] (.tup [ballR (1/2) (1/2),.bool true]):=by
 have z0:szR 0 3:=szR_zero;have fr:=bell_nigh hv (by omega) (by omega) (by decide +kernel) (by decide +kernel);have nm:=rat_Norm hv;have zr:=rat_Zero (RatA_rv z0);rw[decide_eq_true rfl]at zr;have i1:=rat_Int 1;have i2:=rat_Int 2;have dv:=rat_Div (RatA_rv (int_szR (n:=1))) (RatA_rv (int_szR (n:=2)));rw[half_div,decide_eq_true (show ¬((2:Int):Rat)=0 by decide)]at dv;have oh:=ball_Of (RatA_rv hlf_len);obtain⟨s,n,d,rfl,-⟩:=hv;generalize (1/2:Rat)=hf at *
 refine fni Tryz.f206 ?_;unfold Tryz.f206;repeat (first|simp only[go_sem]|simp (disch:=first|exact omg|fail) only[AX]|refine wki ?_|refine vpd 8 [] ?_|refine vpd 11 [] ?_|refine vfa ?_)
end
end Go.Proofs.YtfknkoeagjonbaaGreat
namespace Go.Proofs.YtfknkoeagjonbaaGreat
open Go.Ev
theorem distE_one:Go.Ev.Fn CX 105 [] (ballR 1 1):=by
 have i1:=rat_Int 1;have o:=ball_Of (RatA_rv (int_szR (n:=1)));rw[show ((1:Int):Rat)=1 from rfl]at i1 o;refine fni Tryz.f105 ?_;unfold Tryz.f105;repeat (first|simp only[go_sem]|simp (disch:=first|exact omg|fail) only[AX]|refine wki ?_|refine vfa ?_)
abbrev noB:SV := .agg [.bool false,.sl 0 [],.sl 0 [],.bool false,.sl 0 [],.sl 0 []]
section
variable {v:SV} {x l h:Rat} {L P:Nat} {p:Int} {ok:Bool}
theorem chance_normal {n m:Int} {sa sb:Bool} {na da nb db:List Nat} {a b:Rat} {M:Nat} (hA:RatA (ratV sa na da) a M) (hB:RatA (ratV sb nb db) b M) (hM:1<=M) (hM2:M<=1000) (hx:RatA v x L) (hL1:1<=L) (hL:L<=1000)
  (f:Go.Ev.Fn CX 206 [rv ((x-a)/b),.int .i64 p] (.tup [ballR l h,.bool ok])) :
  Go.Ev.Fn CX 137 [distV 1 n m sa na da sb nb db,v,.int .i64 p] (.tup [ballR l h,.bool ok]):=by
 have zx:=szR_of hx hL1;have za:=szR_of hA hM;have sb:=rat_Sub hx hA hL1 hM;have ov:=dist_over (RatA_rv (szR_sub zx za hL1)) hB (by omega) hM;clear hA hB zx za;obtain⟨s,nn,dd,rfl,-⟩:=hx;generalize (x-a)/b=y at *
 generalize x-a=y2 at *
 refine fni Tryz.f137 ?_;unfold Tryz.f137;repeat (first|simp only[go_sem]|simp (disch:=first|exact omg|fail) only[AX]|refine wki ?_|refine vpd 3 [] ?_|refine vpd 11 [] ?_|refine vpd 13 [] ?_|refine vpd 15 [] ?_|refine vpd 17 [] ?_|refine vpd 18 [] ?_|refine vpd 24 [] ?_|refine vpd 26 [] ?_|refine vfa ?_)
theorem chance_expo {n m:Int} {sa sb:Bool} {na da nb db:List Nat} {a:Rat} {M:Nat} (hA:RatA (ratV sa na da) a M) (hM:1<=M) (hM2:M<=1000) (hx:RatA v x L) (hL1:1<=L) (hL:L<=1000) (h0:0<x) (z1:szR l 400) (z2:szR h 400)
  (f:Go.Ev.Fn CX 162 [rv (-(a*x)),.int .i64 p] (.tup [ballR l h,.bool ok])) :
  Go.Ev.Fn CX 137 [distV 2 n m sa na da sb nb db,v,.int .i64 p] (.tup [ballR (1-h) (1-l),.bool ok]):=by
 have bl:=dist_below hx hL1 (by omega) 0;have ab:=dist_above hx hL1 (by omega) 0;rw[show ((0:Int):Rat)=0 from rfl]at bl ab;rw[decide_eq_false (show ¬x<0 by grind)]at bl;rw[decide_eq_true h0]at ab;have zx:=szR_of hx hL1;have za:=szR_of hA hM;have mu:=rat_Mul hA hx hM hL1;have ng:=rat_Neg (RatA_rv (szR_mul za zx hM));have d1:=distE_one;have bs:=ball_Sub (a:=1) (b:=1) (L:=400) (szR_mono unit_len) (szR_mono unit_len) z1 z2;clear hA zx za z1 z2 h0;obtain⟨s,nn,dd,rfl,-⟩:=hx;generalize -(a*x)=y1 at *
 generalize a*x=y2 at *
 generalize 1-h=u1 at *
 generalize 1-l=u2 at *
 refine fni Tryz.f137 ?_;unfold Tryz.f137;repeat (first|simp only[go_sem,xL]|simp (disch:=first|exact omg|fail) only[AX,xL]|refine wki ?_|refine vpd 3 [] ?_|refine vpd 11 [] ?_|refine vpd 13 [] ?_|refine vpd 15 [] ?_|refine vpd 17 [] ?_|refine vpd 18 [] ?_|refine vpd 24 [] ?_|refine vpd 26 [] ?_|refine vf_of (by first|exact bl|exact ab|exact mu|exact ng|exact f|exact d1|exact bs) ?_)
end
end Go.Proofs.YtfknkoeagjonbaaGreat
namespace Go.Proofs.YtfknkoeagjonbaaGreat
open Go.Ev
def ofV (ok:Bool) (lo hi:Rat):SV:=if ok then .tup [ballR lo hi,.int .i64 0] else .tup [noB,.int .i64 7]
section
variable {k n m:Int} {sa sb:Bool} {na da nb db:List Nat} {Lo Hi:Tells} {κ:Rat}
structure Fam (κ:Rat) (d:SV) (Lo Hi:Tells) (c:Rat) (W:Nat) (lo0 hi0:Rat):Prop where
 ck:Go.Ev.Fn CX 26 [d] (.int .i64 0)
 ct:Go.Ev.Fn CX 27 [d] (.bool false)
 iw:Go.Ev.Fn CX 30 [d] (.bool false)
 st:Go.Ev.Fn CX 31 [d] (.tup [rv lo0,rv hi0])
 W0:0<W
 hW:W<18446744073709551616
 zc:szR c 10
 hl:c<=lo0
 hh:hi0<=c+134217728
 lt:lo0<hi0
 dl:Dz c W 22 lo0
 dh:Dz c W 22 hi0
 cdf:CdfA κ d Lo Hi c W lo0 hi0
theorem srg_0 {q c lo0 hi0:Rat} {W:Nat} (hl:c<=lo0) (hh:hi0<=c+134217728) (lt:lo0<hi0) (dl:Dz c W 22 lo0) (dh:Dz c W 22 hi0):SrG Lo Hi q c W lo0 hi0 0 lo0 hi0:=by
 refine⟨.inl rfl,.inl rfl,lt,dl,dh,?_⟩;show (hi0-lo0)*1<=134217728*1;grind
set_option maxHeartbeats 4000000 in
theorem of_G {p W:Nat} {pI:Int} (hp:p<=20) (hpI:(pI<=0/\p=0)\/pI=(p:Int)) {q c lo0 hi0:Rat} {v:SV} (F:Fam κ (distV k n m sa na da sb nb db) Lo Hi c W lo0 hi0) (hq:RatA v q 1) (q0:0<q) (q1:q<1) :
  ∃ok lo hi,Go.Ev.Fn CX 7 [distV k n m sa na da sb nb db,v,.int .i64 pI] (ofV ok lo hi) /\
   (ok=true -> ∃k',SrG Lo Hi q c W lo0 hi0 k' lo hi/\k'<=114/\hi-lo<=mkRat 1 (2^p)) /\
   (ok=false->(∃s,ToldK κ Lo Hi q lo0 s/\0<=s)\/(∃s,ToldK κ Lo Hi q hi0 s/\s<=0)\/Stuck κ Lo Hi q (mkRat 1 (2^p)/4) lo0 hi0) /\
   (ok=true->(∃h,Hi lo0 h/\h<q) /\ ∃l,Lo hi0 l/\q<l):=by
 have zq:=szR_of hq;obtain⟨to,t,htoE,htt,ht,t0,hto,h65,z1,z2⟩:=to_factsG hp;obtain⟨ck,ct,iw,st,W0,hW,zc,hl,hh,lt,dl,dh,hcdf⟩:=F;obtain⟨_,_,⟨b,k',lo,hi,S,hk,hw,hst,rfl,rfl⟩,nr⟩:=narrows_G (q:=q) hp W0 hW zc zq htt ht t0 hto h65 z1 z2 (srg_0 hl hh lt dl dh) hl hh hcdf;have zl:szR lo0 20:=srg_sz (q:=q) dl (by omega) W0 hW zc hl hh (by grind) (by grind);have zh:szR hi0 20:=srg_sz (q:=q) dh (by omega) W0 hW zc hl hh (by grind) (by grind);obtain⟨_,_,⟨s1,ht1,rfl,rfl⟩,sl⟩:=side_K (lo:=lo0) (hi:=hi0) zq zl (hcdf lo0 ⟨22,by omega,dl⟩ (by grind) (by grind))
 obtain⟨_,_,⟨s2,ht2,rfl,rfl⟩,sh⟩:=side_K (lo:=lo0) (hi:=hi0) zq zh (hcdf hi0 ⟨22,by omega,dh⟩ (by grind) (by grind));have i0:=rat_Int 0;have i1:=rat_Int 1;have d0:=rat_Cmp hq (RatA_rv (int_szR (n:=0)));have d1:=rat_Cmp hq (RatA_rv (int_szR (n:=1)));have e0:=cmpR_le (q:=q) (r:=((0:Int):Rat));have e1:=cmpR_ge (q:=q) (r:=((1:Int):Rat));have k0:((0:Int):Rat)=0:=rfl;have k1:((1:Int):Rat)=1:=rfl;rw[k0]at i0 d0 e0;rw[k1]at i1 d1 e1;rw[decide_eq_false (show ¬q<=0 by grind)]at e0;rw[decide_eq_false (show ¬1<=q by grind)]at e1;have bo:=ball_Of hq;have bt:=q_bit p;rw[<- htoE]at bt
 have x1:(if (0:Int)>pI then (0:Int) else pI)=(p:Int):=by split<;>omega
 have x2:(if (40:Int)<(p:Int) then (40:Int) else (p:Int))=(p:Int):=if_neg (by omega);by_cases g1:s1>=0
 ·refine⟨false,0,0,?_,fun h=>(nomatch h),fun _ => .inl ⟨s1,ht1,g1⟩,fun h=>(nomatch h)⟩;clear k0 k1 S hk hw hst ht htt t0 hto h65 z1 z2 htoE q0 q1 hcdf ht1 ht2 zq nr sh zc hl hh lt dl dh;obtain⟨sq,nq,dq,rfl,-⟩:=hq;show Go.Ev.Fn CX _ _ (.tup [noB,.int .i64 7]);refine fni Tryz.f7 ?_;unfold Tryz.f7;repeat (first|simp only[go_sem,e0,e1]|simp (disch:=first|exact omg|fail) only[AX,e0,e1]|refine wki ?_|refine vpd 6 [] ?_|refine vpd 11 [] ?_|refine vpd 14 [] ?_|refine vfa ?_)
  refine vi_of sl rfl ?_;repeat (first|simp only[go_sem]|simp (disch:=first|exact omg|fail) only[AX]|refine wki ?_|refine vpd 6 [] ?_|refine vpd 11 [] ?_|refine vpd 14 [] ?_)
 by_cases g2:s2<=0
 ·refine⟨false,0,0,?_,fun h=>(nomatch h),fun _ => .inr (.inl ⟨s2,ht2,g2⟩),fun h=>(nomatch h)⟩;clear k0 k1 S hk hw hst ht htt t0 hto h65 z1 z2 htoE q0 q1 hcdf ht1 ht2 zq nr zc hl hh lt dl dh;obtain⟨sq,nq,dq,rfl,-⟩:=hq;show Go.Ev.Fn CX _ _ (.tup [noB,.int .i64 7]);refine fni Tryz.f7 ?_;unfold Tryz.f7;repeat (first|simp only[go_sem,e0,e1]|simp (disch:=first|exact omg|fail) only[AX,e0,e1]|refine wki ?_|refine vpd 6 [] ?_|refine vpd 11 [] ?_|refine vpd 14 [] ?_|refine vfa ?_)
  refine vi_of sl rfl ?_;repeat (first|simp only[go_sem]|simp (disch:=first|exact omg|fail) only[AX]|refine wki ?_|refine vpd 6 [] ?_|refine vpd 11 [] ?_|refine vpd 14 [] ?_)
  refine vi_of sh rfl ?_;repeat (first|simp only[go_sem]|simp (disch:=first|exact omg|fail) only[AX]|refine wki ?_|refine vpd 6 [] ?_|refine vpd 11 [] ?_|refine vpd 14 [] ?_)
 rw[htoE]at hw;rw[htt,htoE]at hst;cases b
 ·refine⟨false,0,0,?_,fun h=>(nomatch h),fun _ => .inr (.inr (hst rfl)),fun h=>(nomatch h)⟩;clear k0 k1 S hk hw hst ht htt t0 hto h65 z1 z2 htoE q0 q1 hcdf ht1 ht2 zq zc hl hh lt dl dh;obtain⟨sq,nq,dq,rfl,-⟩:=hq;show Go.Ev.Fn CX _ _ (.tup [noB,.int .i64 7]);refine fni Tryz.f7 ?_;unfold Tryz.f7;repeat (first|simp only[go_sem,e0,e1]|simp (disch:=first|exact omg|fail) only[AX,e0,e1]|refine wki ?_|refine vpd 6 [] ?_|refine vpd 11 [] ?_|refine vpd 14 [] ?_|refine vfa ?_)
  refine vi_of sl rfl ?_;repeat (first|simp only[go_sem]|simp (disch:=first|exact omg|fail) only[AX]|refine wki ?_|refine vpd 6 [] ?_|refine vpd 11 [] ?_|refine vpd 14 [] ?_)
  refine vi_of sh rfl ?_;repeat (first|simp only[go_sem,x1,x2]|simp (disch:=first|exact omg|fail) only[AX,x1,x2]|refine wki ?_|refine vpd 6 [] ?_|refine vpd 11 [] ?_|refine vpd 14 [] ?_|refine vfa ?_)
  refine vi_of nr rfl ?_;repeat (first|simp only[go_sem,xg]|simp (disch:=first|exact omg|fail) only[AX,xg]|refine wki ?_|refine vpd 6 [] ?_|refine vpd 11 [] ?_|refine vpd 14 [] ?_)
 ·have w1 : ∃h,Hi lo0 h/\h<q:=by
   rcases ht1 with⟨-,h⟩|⟨e,-⟩|⟨e,-⟩
   ·exact h
   ·omega
   ·omega
  have w2 : ∃l,Lo hi0 l/\q<l:=by
   rcases ht2 with⟨e,-⟩|⟨-,h⟩|⟨e,-⟩
   ·omega
   ·exact h
   ·omega
  refine⟨true,lo,hi,?_,fun _=>⟨k',S,hk,hw rfl⟩,fun h=>(nomatch h),fun _=>⟨w1,w2⟩⟩;clear w1 w2;clear k0 k1 S hk hw hst ht htt t0 hto h65 z1 z2 htoE q0 q1 hcdf ht1 ht2 zq zc hl hh lt dl dh;obtain⟨sq,nq,dq,rfl,-⟩:=hq;show Go.Ev.Fn CX _ _ (.tup [ballR lo hi,.int .i64 0]);refine fni Tryz.f7 ?_;unfold Tryz.f7;repeat (first|simp only[go_sem,e0,e1]|simp (disch:=first|exact omg|fail) only[AX,e0,e1]|refine wki ?_|refine vpd 6 [] ?_|refine vpd 11 [] ?_|refine vpd 14 [] ?_|refine vfa ?_)
  refine vi_of sl rfl ?_;repeat (first|simp only[go_sem]|simp (disch:=first|exact omg|fail) only[AX]|refine wki ?_|refine vpd 6 [] ?_|refine vpd 11 [] ?_|refine vpd 14 [] ?_)
  refine vi_of sh rfl ?_;repeat (first|simp only[go_sem,x1,x2]|simp (disch:=first|exact omg|fail) only[AX,x1,x2]|refine wki ?_|refine vpd 6 [] ?_|refine vpd 11 [] ?_|refine vpd 14 [] ?_|refine vfa ?_)
  refine vi_of nr rfl ?_;repeat (first|simp only[go_sem,xL]|simp (disch:=first|exact omg|fail) only[AX,xL]|refine wki ?_|refine vpd 6 [] ?_|refine vpd 11 [] ?_|refine vpd 14 [] ?_)
end
end Go.Proofs.YtfknkoeagjonbaaGreat
namespace Go.Proofs.YtfknkoeagjonbaaGreat
open Go.Ev
theorem blen_half {x:Nat} (h:x≠0):blen x=blen (x/2)+1:=by
 have h1:=blen_iff (x:=x) (k:=blen x);have h2:=blen_iff (x:=x/2) (k:=blen (x/2));have h3:=blen_iff (x:=x) (k:=blen (x/2)+1);have h4:=blen_iff (x:=x/2) (k:=blen x-1);have h5:blen x≠0:=fun e=>by rw[e]at h1;simp at h1;omega
 have h6:x<2^blen x:=h1.1 (xQ _);have h7:x/2<2^blen (x/2):=h2.1 (xQ _);rw[xU]at h3;have h8:2^blen x=2^(blen x-1)*2:=by rw[<- xU,Nat.succ_eq_add_one,show blen x-1+1=blen x by omega]
 have h9:=h3.2 (by omega);have h10:=h4.2 (by omega);omega
theorem ref1_Bits {N:Nat} (h:(lim N).length<=1000000:=by omega):Go.Ev.Fn CX 313 [natV (lim N)] (.int .i64 (blen N:Nat)):=by
 have t:=ref1_Trim (lim N) (okL_lim N);rw[wth_lim]at t;by_cases h0:N=0
 ·subst h0;have e:(lim 0).length=0:=by rw[lim_zero];rfl
  have e2:blen 0=0:=rfl;rw[e2];refine fni Tryz.f313 ?_;unfold Tryz.f313;repeat (first|simp only[go_sem]|simp (disch:=first|exact omg|fail) only[AX]|refine wki ?_|refine vfa ?_)
  rfl
 ·have e:=blen_lims N h0;have hl:=lim_pos h0;have hg:=getD_lt (okL_lim N) ((lim N).length-1);have hb:blen ((lim N).getD ((lim N).length-1) 0)<=32:=blen_iff.2 hg;rw[e];generalize hgx:(lim N).getD ((lim N).length-1) 0=x at *
  generalize hcs:lim N=cs at *
  refine fni Tryz.f313 ?_;unfold Tryz.f313;repeat (first|simp only[go_sem,hgx]|simp (disch:=first|exact omg|fail) only[AX,hgx]|refine wki ?_|refine vfa ?_)
  refine vp_loop_inv (fun s => ∃y:Nat,y<4294967296/\blen y<=32/\s.tmp 5 = .sv (.int .u32 (y:Int))/\blen y<=blen x/\s.tmp 4 = .sv (.int .i64 ((32*(cs.length-1)+(blen x-blen y):Nat):Int)))
   (fun s=>match s.tmp 5 with | .sv (.int _ i)=>i.toNat|_=>0) ⟨x,hg,hb,rfl,xQ _,by rw[wo,yE];first|rfl|(congr 2;omega)⟩ ?_
  rintro s ⟨y,g1,g2,i5,g3,i4⟩
  by_cases hy:y=0
  ·subst hy;rw[show blen 0=0 from rfl,Nat.sub_zero]at i4;repeat (first|simp only[go_sem,i5,i4]|simp (disch:=first|exact omg|fail) only[AX,i5,i4]|refine wki ?_)
  ·have e2:=blen_half hy;repeat (first|simp only[go_sem,i5,i4]|simp (disch:=first|exact omg|fail) only[AX,i5,i4]|refine wki ?_)
   exact⟨⟨y/2,by omega,by omega,by first|rfl|(congr 2;omega),by omega,by first|rfl|(congr 2;omega)⟩,by omega⟩
theorem ref4_root {a:Nat} (h:(lim a).length<=100:=by omega):Go.Ev.Fn CX 299 [natV (lim a)] (natV (lim (rtN a))):=by
 have b:=ref1_Bits (N:=a);have hb:a<2^blen a:=blen_iff.1 (xQ _);have hB:blen a<=3200:=by
  obtain⟨K,hK⟩ : ∃K:Nat,K=3200:=⟨_,rfl⟩
  rw[<- hK];refine blen_iff.2 (xz lim_len_pow ?_);rw[show (4294967296:Nat)=2^32 from rfl,<- zF];exact xD (by omega) (by omega)
 generalize hBB:blen a=B at *
 have hK:a<2^((B+1)/2)*2^((B+1)/2):=by
  rw[<- xM];exact xz hb (xD (by omega) (by omega))
 have tq:((B:Int)+1).tdiv 2=(((B+1)/2:Nat):Int):=_root_.id rfl;have tq2:((B+1:Nat):Int).tdiv 2=(((B+1)/2:Nat):Int):=_root_.id rfl;refine fni Tryz.f299 ?_;unfold Tryz.f299;repeat (first|simp only[go_sem,tq,tq2]|simp (disch:=first|exact omg|fail) only[AX,tq,tq2]|refine wki ?_|refine vfa ?_)
 refine vp_loop_inv (fun s=>s.tmp 0 = .sv (natV (lim a)) /\ ∃k r:Nat,k<=1602/\s.tmp 4 = .sv (.int .i64 ((k:Int)-1))/\(s.tmp 3 = .sv (natV (lim r))\/r=0/\s.tmp 3 = .nil)/\r*r<=a/\a<(r+2^k)*(r+2^k))
  (fun s=>match s.tmp 4 with | .sv (.int _ i)=>(i+1).toNat|_=>0) ?_ ?_
 ·refine⟨rfl,(B+1)/2+1,0,by omega,by rw[show ((((B+1)/2+1:Nat):Int)-1)=(((B+1)/2:Nat):Int) by omega];rfl,.inr ⟨rfl,rfl⟩,by omega,?_⟩;rw[yV,xU];have:=xO (yi (2^((B+1)/2)) (show 0<2 by omega)) (yi (2^((B+1)/2)) (show 0<2 by omega));omega
 rintro s ⟨i0,k,r,hk,i4,i3,g1,g2⟩
 rcases xo k with h0|h0
 ·subst h0;obtain rfl:=rtN_eq g1 g2;rcases i3 with i3|⟨e,i3⟩
  ·repeat (first|simp only[go_sem,i0,i4,i3]|simp (disch:=first|exact omg|fail) only[AX,i0,i4,i3]|refine wki ?_)
  ·rw[e,lim_zero];repeat (first|simp only[go_sem,i0,i4,i3]|simp (disch:=first|exact omg|fail) only[AX,i0,i4,i3]|refine wki ?_)
   rfl
 ·obtain⟨j,rfl⟩ : ∃j,k=j+1:=⟨k-1,by omega⟩
  have p:=ref4_pow2 (n:=j);have l:=lim_len_shl (a:=1) (n:=j);have l1:=lim_len1;rw[xe]at l;have lr:(lim r).length<=100:=xH (lim_len_mono (by rcases xo r with e|e;(omega);(have:=zI r e;omega))) h;have s1:=ref1_AddL (N:=r) (D:=2^j);have l2:=lim_len_add (a:=r) (b:=2^j) (L:=200);have m:=ref1_MulL (N:=r+2^j) (D:=r+2^j);have l3:=lim_len_mul (a:=r+2^j) (b:=r+2^j);have c:=ref1_CmpL (N:=(r+2^j)*(r+2^j)) (D:=a);have e1:decide (cmpN ((r+2^j)*(r+2^j)) a<=0)=decide ((r+2^j)*(r+2^j)<=a):=decide_eq_decide.2 (by unfold cmpN;split<;>(try split)<;>omega);have e4:((j+1:Nat):Int)-1=(j:Int):=by omega
  rw[e4]at i4;generalize hz:cmpN ((r+2^j)*(r+2^j)) a=z at *
  by_cases hle:(r+2^j)*(r+2^j)<=a
  ·rw[decide_eq_true hle]at e1;rw[show r+2^(j+1)=r+2^j+2^j by rw[xU];omega]at g2;generalize hu:(r+2^j)*(r+2^j)=u at *
   generalize hv:r+2^j=v at *
   generalize hw:(v+2^j)*(v+2^j)=w at *
   rcases i3 with i3|⟨e,i3⟩
   ·repeat (first|simp only[go_sem,i0,i4,i3]|simp (disch:=first|exact omg|fail) only[AX,i0,i4,i3]|refine wki ?_)
    repeat (first|simp only[go_sem,i0,i4,i3,e1]|simp (disch:=first|exact omg|fail) only[AX,i0,i4,i3,e1]|refine wki ?_|refine vfa ?_)
    exact⟨⟨j,v,by omega,by first|rfl|(congr 2;omega),.inl rfl,by rw[hu];exact hle,by rw[hw];exact g2⟩,by omega⟩
   ·subst e;rw[lim_zero]at s1;repeat (first|simp only[go_sem,i0,i4,i3,e1]|simp (disch:=first|exact omg|fail) only[AX,i0,i4,i3,e1]|refine wki ?_|refine vfa ?_)
    exact⟨⟨j,v,by omega,by first|rfl|(congr 2;omega),.inl rfl,by rw[hu];exact hle,by rw[hw];exact g2⟩,by omega⟩
  ·rw[decide_eq_false hle]at e1;generalize hu:(r+2^j)*(r+2^j)=u at *
   generalize hv:r+2^j=v at *
   rcases i3 with i3|⟨e,i3⟩
   ·repeat (first|simp only[go_sem,i0,i4,i3]|simp (disch:=first|exact omg|fail) only[AX,i0,i4,i3]|refine wki ?_)
    repeat (first|simp only[go_sem,i0,i4,i3,e1]|simp (disch:=first|exact omg|fail) only[AX,i0,i4,i3,e1]|refine wki ?_|refine vfa ?_)
    exact⟨⟨j,r,by omega,by first|rfl|(congr 2;omega),.inl (by first|rfl|exact i3),g1,by rw[hv,hu];omega⟩,by omega⟩
   ·subst e;rw[lim_zero]at s1;repeat (first|simp only[go_sem,i0,i4,i3,e1]|simp (disch:=first|exact omg|fail) only[AX,i0,i4,i3,e1]|refine wki ?_|refine vfa ?_)
    exact⟨⟨j,0,by omega,by first|rfl|(congr 2;omega),.inr (by first|rfl|exact⟨rfl,rfl⟩|exact⟨rfl,i3⟩),g1,by rw[hv,hu];omega⟩,by omega⟩
theorem ref4_Sqrt {a b w:Nat} (ha:(lim a).length<=60) (hb:(lim b).length<=60) (hw:w<=1000):Go.Ev.Fn CX 255 [ivV (a:Int) (b:Int),.int .i64 (w:Int)] (ivV (rtN (a*2^w):Int) ((rtN (b*2^w)+1:Nat):Int)):=by
 have s1:=ref1_shl (N:=a) (m:=w);have s2:=ref1_shl (N:=b) (m:=w);have l1:=lim_len_shl (a:=a) (n:=w);have l2:=lim_len_shl (a:=b) (n:=w);have r1:=ref4_root (a:=a*2^w);have r2:=ref4_root (a:=b*2^w);have o:=ref4_Whole 1;have l3:=lim_len_mono (rtN_self (b*2^w));have l4:(lim (rtN (b*2^w):Int).natAbs).length<=1000:=by rw[xJ];omega
 have p:=ref4_Plus (rtN (b*2^w):Int) 1 (by omega) (xH lim_len1 (by omega));have q : ∀n:Nat,intV (n:Int) = .agg [.bool false,natV (lim n)]:=fun n=>iv_eq (xJ n) (decide_eq_false (by omega))
 rw[show ((rtN (b*2^w):Int)+1)=((rtN (b*2^w)+1:Nat):Int) from rfl,q,q]at p;have qq : ∀m n:Nat,ivV (m:Int) (n:Int) = .agg [.bool false,natV (lim m),.bool false,natV (lim n)]:=fun m n=>by
  show SV.agg [.bool (decide ((m:Int)<0)),natV (lim (m:Int).natAbs),.bool (decide ((n:Int)<0)),natV (lim (n:Int).natAbs)]=_;rw[xJ,xJ,decide_eq_false (by omega),decide_eq_false (by omega)]
 rw[qq,qq];generalize rtN (b*2^w)+1=y at *
 generalize rtN (b*2^w)=z at *
 generalize rtN (a*2^w)=x at *
 generalize a*2^w=u at *
 generalize b*2^w=v at *
 refine fni Tryz.f255 ?_;unfold Tryz.f255;repeat (first|simp only[go_sem]|simp (disch:=first|exact omg|fail) only[AX]|refine wki ?_|refine vpd 1 [7,9,14,16] ?_|refine vfa ?_)
end Go.Proofs.YtfknkoeagjonbaaGreat
