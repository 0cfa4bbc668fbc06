/- Part 7 of the proof: the evaluator, contracts of functions and their plain laws (joined by program). No condition. -/
import Derived.Test.YtenjdajophfpcaaGreatPart6
set_option linter.unusedVariables false
set_option linter.unusedSimpArgs false
set_option maxRecDepth 100000
namespace Go.Proofs.YtenjdajophfpcaaGreat
open Go.Ev
def Dz (c:Rat) (W J:Nat) (x:Rat):Prop := ∃Z:Int,(x-c)*((W:Rat)*p2 J)=(Z:Rat)
section
variable {c x y t:Rat} {W J s:Nat}
theorem dz_up (h:Dz c W J x):Dz c W (J+1) x:=by
 obtain⟨Z,e⟩:=h
 refine⟨Z*2,?_⟩
 rw[p2_next,Rat.intCast_mul,<- e,show ((2:Int):Rat)=2 from rfl]
 generalize p2 J=P
 grind
theorem dz_mid (h:Dz c W J x) (k:Dz c W J y):Dz c W (J+1) ((x+y)/2):=by
 obtain⟨Z,e⟩:=h
 obtain⟨Y,f⟩:=k
 refine⟨Z+Y,?_⟩
 have d:=Rat.div_mul_cancel (a:=x+y) (b:=2) (by decide)
 rw[p2_next,Rat.intCast_add,<- e,<- f]
 generalize (x+y)/2=m at *
 generalize p2 J=P
 grind
theorem dz_part (hs:s<=J) (ht:t*p2 s=1):t*((W:Rat)*p2 J)=(((W*2^(J-s):Nat):Int):Rat):=by
 have e:p2 J=p2 s*p2 (J-s):=by rw[<- p2_cat];congr 1;omega
 rw[e,Rat.intCast_natCast,show ((W*2^(J-s):Nat):Rat)=(W:Rat)*p2 (J-s) by exact_mod_cast rfl]
 generalize p2 (J-s)=a
 generalize p2 s=b at *
 grind
theorem dz_add (h:Dz c W J x) (hs:s<=J) (ht:t*p2 s=1):Dz c W J (x+t):=by
 obtain⟨Z,e⟩:=h
 refine⟨Z+((W*2^(J-s):Nat):Int),?_⟩
 rw[Rat.intCast_add,<- e,<- dz_part hs ht]
 grind
theorem dz_sub (h:Dz c W J x) (hs:s<=J) (ht:t*p2 s=1):Dz c W J (x-t):=by
 obtain⟨Z,e⟩:=h
 refine⟨Z-((W*2^(J-s):Nat):Int),?_⟩
 rw[Rat.intCast_sub,<- e,<- dz_part hs ht]
 grind
theorem frac_sz {z:Rat} {D B L:Nat} {Z:Int} (h:z*(D:Rat)=(Z:Rat)) (D0:0<D) (hz : -(B:Rat)<=z/\z<=(B:Rat)) (hD:D*(B+1)<4294967296^L) (hL:1<=L):szR z L:=by
 have DR:(0:Rat)<(D:Rat):=by exact_mod_cast D0
 have hN:Z.natAbs<=B*D:=by
  have u:=Rat.mul_le_mul_of_nonneg_right hz.2 (Rat.le_of_lt DR)
  have v:=Rat.mul_le_mul_of_nonneg_right hz.1 (Rat.le_of_lt DR)
  rw[h]at u v
  have a:Z<=((B*D:Nat):Int):=by
   have:(Z:Rat)<=(((B*D:Nat):Int):Rat):=by
    rw[Rat.intCast_natCast,show ((B*D:Nat):Rat)=(B:Rat)*(D:Rat) by exact_mod_cast rfl];exact u
   exact Rat.intCast_le_intCast.1 this
  have b : -((B*D:Nat):Int)<=Z:=by
   have:((-((B*D:Nat):Int):Int):Rat)<=(Z:Rat):=by
    rw[Rat.intCast_neg,Rat.intCast_natCast,show ((B*D:Nat):Rat)=(B:Rat)*(D:Rat) by exact_mod_cast rfl]
    grind
   exact Rat.intCast_le_intCast.1 this
  omega
 have e2:z=mkRat Z D:=by
  rw[Rat.mkRat_eq_div,<- h]
  generalize (D:Rat)=d at *
  grind
 have m:D*(B+1)=B*D+D:=by rw[Nat.mul_add,Nat.mul_one,Nat.mul_comm]
 rw[e2]
 rcases Int.le_total 0 Z with g|g
 ·have:Z=sgn false Z.natAbs:=by show Z=((Z.natAbs:Nat):Int);omega
  rw[this]
  exact szR_mk (lim_len_lt (by omega)) (lim_len_lt (by omega)) hL
 ·have:Z=sgn true Z.natAbs:=by show Z = -((Z.natAbs:Nat):Int);omega
  rw[this]
  exact szR_mk (lim_len_lt (by omega)) (lim_len_lt (by omega)) hL
theorem dz_sz {L:Nat} (h:Dz c W J x) (W0:0<W) (hW:W<18446744073709551616) (hJ:J<=140) (zc:szR c L) (hL:1<=L) (hx:c-134217728<=x/\x<=c+134217728):szR x (L+9):=by
 obtain⟨Z,e⟩:=h
 have e1:(x-c)*((W*2^J:Nat):Rat)=(Z:Rat):=by
  rw[<- e,show ((W*2^J:Nat):Rat)=(W:Rat)*p2 J by exact_mod_cast rfl]
 have hp:2^J<=2^140:=Nat.pow_le_pow_right (by omega) hJ
 have hm:W*2^J<=18446744073709551616*2^140:=Nat.mul_le_mul (by omega) hp
 have z:=frac_sz (L:=8) (B:=134217728) e1 (Nat.mul_pos W0 (Nat.pow_pos (by omega))) (by constructor<;>grind) (by omega) (by omega)
 have ex:x=c+(x-c):=by grind
 rw[ex]
 exact szR_mono (szR_add zc z (by omega)) (by omega)
end
structure SrG (Lo Hi:Tells) (q c:Rat) (W:Nat) (lo0 hi0:Rat) (k:Nat) (lo hi:Rat):Prop where
 low:lo=lo0\/(lo0<lo /\ ∃h,Hi lo h/\h<q)
 high:hi=hi0\/(hi<hi0 /\ ∃l,Lo hi l/\q<l)
 lt:lo<hi
 dlo:Dz c W (22+k) lo
 dhi:Dz c W (22+k) hi
 w:(hi-lo)*((4^k:Nat):Rat)<=134217728*((3^k:Nat):Rat)
section
variable {Lo Hi:Tells} {q c lo0 hi0 lo hi lo' hi':Rat} {W k:Nat}
theorem srg_k (h:SrG Lo Hi q c W lo0 hi0 k lo hi) (hw:1<(hi-lo)*1048576):k<114:=by
 rcases Nat.lt_or_ge k 114 with h1|h1
 ·exact h1
 ·exfalso
  obtain⟨r,rfl⟩ : ∃r,k=114+r:=⟨k-114,by omega⟩
  have hh:=h.w
  have e4:((4^(114+r):Nat):Rat)=((4^114:Nat):Rat)*((4^r:Nat):Rat):=by rw[Nat.pow_add];exact_mod_cast rfl
  have e3:((3^(114+r):Nat):Rat)=((3^114:Nat):Rat)*((3^r:Nat):Rat):=by rw[Nat.pow_add];exact_mod_cast rfl
  have m:((3^r:Nat):Rat)<=((4^r:Nat):Rat):=nat_le_rat (Nat.pow_le_pow_left (by omega) r)
  have r0:(0:Rat)<((4^r:Nat):Rat):=by exact_mod_cast Nat.pow_pos (a:=4) (by omega)
  have g:(134217728*((3^114:Nat):Rat))*1048576<=((4^114:Nat):Rat):=by decide +kernel
  have p4:(0:Rat)<((4^114:Nat):Rat):=by decide +kernel
  have p3:(0:Rat)<=134217728*((3^114:Nat):Rat):=by decide +kernel
  rw[e4,e3]at hh
  generalize ((4^114:Nat):Rat)=A at *
  generalize ((3^114:Nat):Rat)=B at *
  generalize ((4^r:Nat):Rat)=R at *
  generalize ((3^r:Nat):Rat)=T at *
  have a1:=Rat.mul_le_mul_of_nonneg_left m p3
  have a2:=Rat.mul_le_mul_of_nonneg_right g (Rat.le_of_lt r0)
  have a3:=Rat.mul_lt_mul_of_pos_right hw (Rat.mul_pos p4 r0)
  grind
theorem srg_next (h:SrG Lo Hi q c W lo0 hi0 k lo hi) (l':lo'=lo0\/(lo0<lo' /\ ∃h,Hi lo' h/\h<q)) (h':hi'=hi0\/(hi'<hi0 /\ ∃l,Lo hi' l/\q<l)) (hlt:lo'<hi')
  (d1:Dz c W (22+(k+1)) lo') (d2:Dz c W (22+(k+1)) hi') (hw:(hi'-lo')*4<=(hi-lo)*3):SrG Lo Hi q c W lo0 hi0 (k+1) lo' hi':=by
 refine⟨l',h',hlt,d1,d2,?_⟩
 have e4:((4^(k+1):Nat):Rat)=((4^k:Nat):Rat)*4:=by rw[Nat.pow_succ];exact_mod_cast rfl
 have e3:((3^(k+1):Nat):Rat)=((3^k:Nat):Rat)*3:=by rw[Nat.pow_succ];exact_mod_cast rfl
 have p4:(0:Rat)<=((4^k:Nat):Rat):=nat_nonneg _
 have hh:=h.w
 rw[e4,e3]
 generalize ((4^k:Nat):Rat)=F at *
 generalize ((3^k:Nat):Rat)=T at *
 have m:=Rat.mul_le_mul_of_nonneg_right hw p4
 grind
theorem srg_ends (h:SrG Lo Hi q c W lo0 hi0 k lo hi):lo0<=lo/\hi<=hi0:=by
 constructor
 ·rcases h.low with e|⟨e,_⟩<;>grind
 ·rcases h.high with e|⟨e,_⟩<;>grind
theorem srg_round {p:Nat} {t:Rat} (S:SrG Lo Hi q c W lo0 hi0 k lo hi) (hp:p<=20) (ht:t*p2 (p+2)=1) (t0:0<t) (hw:4*t<hi-lo) :
  ∃m,m=(lo+hi)/2/\lo<m-t/\m-t<m/\m<m+t/\m+t<hi/\Dz c W (22+(k+1)) lo/\Dz c W (22+(k+1)) hi/\Dz c W (22+(k+1)) m/\Dz c W (22+(k+1)) (m-t)/\Dz c W (22+(k+1)) (m+t) /\
   (hi-(m-t))*4<=(hi-lo)*3/\(m+t-lo)*4<=(hi-lo)*3:=by
 have dm:=dz_mid S.dlo S.dhi
 refine⟨_,rfl,by grind,by grind,by grind,by grind,dz_up S.dlo,dz_up S.dhi,dm,dz_sub dm (by omega) ht,dz_add dm (by omega) ht,by grind,by grind⟩
theorem srg_rises {q' c':Rat} {W' k':Nat} (rise : ∀x y l h,lo0<=x->x<y->y<=hi0->0<l->h<1->Lo x l->Hi y h->l<=h) (S:SrG Lo Hi q c W lo0 hi0 k lo hi) (S':SrG Lo Hi q' c' W' lo0 hi0 k' lo' hi') (hq:q<=q') (q0:0<q') (q1:q<1):lo<=hi':=by
 obtain⟨a1,a2⟩:=srg_ends S
 obtain⟨b1,b2⟩:=srg_ends S'
 have l1:=S.lt
 have l2:=S'.lt
 rcases S.low with e|⟨e,h,H,g⟩
 ·grind
 rcases S'.high with e'|⟨e',l,L,g'⟩
 ·grind
 refine Rat.not_lt.1 fun lt => ?_
 have:=rise _ _ _ _ (by grind) lt (by grind) (by grind) (by grind) L H
 grind
end
end Go.Proofs.YtenjdajophfpcaaGreat
namespace Go.Proofs.YtenjdajophfpcaaGreat
open Go.Ev
theorem to_factsG {p:Nat} (hp:p<=20) : ∃to t:Rat,to=mkRat 1 (2^p)/\t=to/4/\t*p2 (p+2)=1/\0<t/\to=4*t/\1<=to*1048576/\szR to 1/\szR t 1:=by
 have m:=mk_mulP (1:Int) (b:=2^p) (Nat.pow_pos (by omega))
 have P:=p2_pos p
 have le:p2 p<=1048576:=by
  have h:2^p<=1048576:=by
   have:=Nat.pow_le_pow_right (n:=2) (by omega) hp
   exact this
  exact_mod_cast h
 have e2:p2 (p+2)=p2 p*4:=by rw[p2_cat];rfl
 have m1:mkRat 1 (2^p)*p2 p=1:=m
 have z1:szR (mkRat 1 (2^p)) 1:=by
  have h:2^p<4294967296^1:=by
   have:=Nat.pow_le_pow_right (n:=2) (by omega) hp
   omega
  exact szR_mk (s:=false) (n:=1) (by decide) (lim_len_lt h) (by omega)
 have e4:mkRat 1 (2^p)/4=mkRat 1 (2^(p+2)):=by
  have m2:=mk_mulP (1:Int) (b:=2^(p+2)) (Nat.pow_pos (by omega))
  have m3:mkRat 1 (2^(p+2))*p2 (p+2)=1:=m2
  rw[e2]at m3
  generalize mkRat 1 (2^(p+2))=y at *
  generalize mkRat 1 (2^p)=x at *
  generalize p2 p=w at *
  grind
 have z2:szR (mkRat 1 (2^p)/4) 1:=by
  rw[e4]
  have h:2^(p+2)<4294967296^1:=by
   have:=Nat.pow_le_pow_right (n:=2) (by omega) (show p+2<=22 by omega)
   omega
  exact szR_mk (s:=false) (n:=1) (by decide) (lim_len_lt h) (by omega)
 clear e4
 have x0:0<=mkRat 1 (2^p):=by
  clear m z1 z2 e2
  generalize mkRat 1 (2^p)=x at *
  generalize p2 p=w at *
  rcases Rat.le_total (a:=x) (b:=0) with h|h
  ·have:=Rat.mul_le_mul_of_nonneg_right h (Rat.le_of_lt P)
   grind
  ·exact h
 have l:=Rat.mul_le_mul_of_nonneg_left le x0
 refine⟨_,_,rfl,rfl,?_,?_,?_,?_,z1,z2⟩<;>clear m z1 z2
 ·rw[e2]
  generalize mkRat 1 (2^p)=x at *
  generalize p2 p=w at *
  grind
 ·generalize mkRat 1 (2^p)=x at *
  generalize p2 p=w at *
  by_cases e:x=0
  ·subst e;grind
  ·grind
 ·generalize mkRat 1 (2^p)=x at *
  grind
 ·generalize mkRat 1 (2^p)=x at *
  generalize p2 p=w at *
  grind
section
variable {k n m:Int} {sa sb:Bool} {na da nb db:List Nat} {Lo Hi:Tells} {κ:Rat}
def CdfA (κ:Rat) (d:SV) (Lo Hi:Tells) (c:Rat) (W:Nat) (lo0 hi0:Rat):Prop := ∀x,(∃J,J<=140/\Dz c W J x)->lo0<=x->x<=hi0->CdfK κ d Lo Hi x
def Stuck (κ:Rat) (Lo Hi:Tells) (q t lo0 hi0:Rat):Prop := ∃x,lo0<x/\x+2*t<hi0/\NearK κ Lo Hi q x/\NearK κ Lo Hi q (x+2*t)
theorem srg_sz {q c lo0 hi0 x:Rat} {W J:Nat} (h:Dz c W J x) (hJ:J<=140) (W0:0<W) (hW:W<18446744073709551616) (zc:szR c 10) (hl:c<=lo0) (hh:hi0<=c+134217728) (a:lo0<=x) (b:x<=hi0):szR x 20:=
 szR_mono (dz_sz h W0 hW hJ zc (by omega) ⟨by grind,by grind⟩) (by omega)
set_option maxHeartbeats 8000000 in
theorem narrows_G {p W:Nat} (hp:p<=20) {q to t c lo0 hi0:Rat} (W0:0<W) (hW:W<18446744073709551616) (zc:szR c 10) (zq:szR q 1)
  (htt:t=to/4) (ht:t*p2 (p+2)=1) (t0:0<t) (hto:to=4*t) (h65:1<=to*1048576) (z1:szR to 1) (z2:szR t 1) (S0:SrG Lo Hi q c W lo0 hi0 0 lo0 hi0) (hl0:c<=lo0) (hh0:hi0<=c+134217728)
  (hcdf:CdfA κ (distV k n m sa na da sb nb db) Lo Hi c W lo0 hi0) :
  ∃r exps,(∃b k' lo hi,SrG Lo Hi q c W lo0 hi0 k' lo hi/\k'<=114/\(b=true->hi-lo<=to)/\(b=false->Stuck κ Lo Hi q t lo0 hi0)/\r = .bool b/\exps=[some (seC k n m sa na da sb nb db q lo hi),none])/\FnI CX 36 [.imp (seC k n m sa na da sb nb db q lo0 hi0),.sv (rv to)] r exps:=by
 have r4:=rat_Int 4 (by omega)
 have r2:=rat_Int 2 (by omega)
 have ov4:=q_over (RatA_rv z1) (RatA_rv (int_szR (n:=4) (by omega))) (by omega) (by omega) (by omega)
 have c4:((4:Int):Rat)=4:=rfl
 have c2:((2:Int):Rat)=2:=rfl
 rw[c4]at r4 ov4
 rw[<- htt]at ov4
 rw[c2]at r2
 refine FnI_of (fn:=Tryz.f36) (body:=(Tryz.f36).body.get!) (by kernel_rfl) (by kernel_rfl) (by kernel_rfl) (fun _=>rfl) (Nat.le_of_ble_eq_true (by kernel_rfl)) ?_
 unfold Tryz.f36
 simp only[Option.get!_some,exp_side]
 repeat (first|simp only[go_sem,N0]|simp (disch:=first|exact omg|fail) only[AX,N0]|refine wki ?_|refine vpx [] ?_|refine vf_of (by first|exact r4|exact ov4) ?_)
 refine vp_loop_fam (fun m0 s=>s.tmp 0 = .ptr 1000000 0 0/\s.tmp 3 = .ptr 3 0 0/\s.obj 3 0=some [.bool (decide (to.num<0)),natV (lim to.num.natAbs),natV (lim to.den)]/\s.tmp 5 = .ptr 5 0 0/\s.obj 5 0=some [.bool (decide (t.num<0)),natV (lim t.num.natAbs),natV (lim t.den)] /\
   ∃k' lo hi,s.obj 1000000 0=some (seC k n m sa na da sb nb db q lo hi)/\SrG Lo Hi q c W lo0 hi0 k' lo hi/\k'<=114/\m0=120-k') 120 ?_ ?_
 ·exact⟨rfl,rfl,rfl,rfl,rfl,0,lo0,hi0,rfl,S0,by omega,rfl⟩
 rintro m0 s ⟨i0,i3,o3,i5,o5,k',lo,hi,oS,S,hk,rfl⟩
 obtain⟨l0,h1⟩:=srg_ends S
 have lt:=S.lt
 have zl:szR lo 20:=srg_sz (q:=q) S.dlo (by omega) W0 hW zc hl0 hh0 l0 (by grind)
 have zh:szR hi 20:=srg_sz (q:=q) S.dhi (by omega) W0 hW zc hl0 hh0 (by grind) h1
 obtain⟨_,_,⟨rfl,rfl⟩,wd⟩:=wide_T (k:=k) (n:=n) (m:=m) (sa:=sa) (na:=na) (da:=da) (sb:=sb) (nb:=nb) (db:=db) (q:=q) zl zh
 have cw:=rat_Cmp (RatA_rv (szR_sub zh zl (by omega))) (RatA_rv z1) (by omega) (by omega) (by omega)
 have ew:=cmpR_gt (q:=hi-lo) (r:=to)
 by_cases hw:to<hi-lo
 ·rw[decide_eq_true hw]at ew
  have hk39:=srg_k S (by grind)
  obtain⟨md,hm,a1,a2,a3,a4,d1,d2,d3,d4,d5,w1,w2⟩:=srg_round S hp ht t0 (by rw[<- hto];exact hw)
  have ad:=rat_Add (RatA_rv zl) (RatA_rv zh) (by omega) (by omega) (by omega)
  have zs:=szR_add zl zh (by omega)
  have ov:=q_over (RatA_rv zs) (RatA_rv (int_szR (n:=2) (by omega))) (by omega) (by omega) (by omega)
  rw[c2,<- hm]at ov
  have zm:szR md 20:=srg_sz (q:=q) d3 (by omega) W0 hW zc hl0 hh0 (by grind) (by grind)
  have zm1:szR (md-t) 20:=srg_sz (q:=q) d4 (by omega) W0 hW zc hl0 hh0 (by grind) (by grind)
  have zm2:szR (md+t) 20:=srg_sz (q:=q) d5 (by omega) W0 hW zc hl0 hh0 (by grind) (by grind)
  obtain⟨_,_,⟨b,lo1,hi1,rfl,rfl,cm⟩,tk⟩:=takes_K zq zm zl zh (hcdf (md) ⟨_,by omega,d3⟩ (by grind) (by grind)) (show lo<md by grind) (show md<hi by grind)
  have sb':=rat_Sub (RatA_rv zm) (RatA_rv z2) (by omega) (by omega) (by omega)
  have ad2:=rat_Add (RatA_rv zm) (RatA_rv z2) (by omega) (by omega) (by omega)
  obtain⟨_,_,⟨b2,lo2,hi2,rfl,rfl,cx⟩,tk2⟩:=takes_K zq zm1 zl zh (hcdf (md-t) ⟨_,by omega,d4⟩ (by grind) (by grind)) (show lo<md-t by grind) (show md-t<hi by grind)
  repeat (first|simp only[go_sem,i0,i3,o3,i5,o5,oS]|simp (disch:=first|exact omg|fail) only[AX,i0,i3,o3,i5,o5,oS]|refine wki ?_|refine vpx [] ?_)
  refine vr_of wd (by kernel_rfl) (by kernel_rfl) ?_ (same_se _ _ _) ?_
  ·simp only[go_sem,i0,i3,o3,i5,o5,oS]
  repeat (first|simp only[go_sem,i0,i3,o3,i5,o5,oS,ew]|simp (disch:=first|exact omg|fail) only[AX,i0,i3,o3,i5,o5,oS,ew]|refine wki ?_|refine vpx [] ?_|refine vf_of (by first|exact cw|exact ad|exact r2|exact ov) ?_)
  refine vi_of tk rfl ?_
  rcases cm with⟨rfl,e1,e2,hc⟩|⟨rfl,e1,e2,hc⟩|⟨rfl,e1,e2,-⟩
  ·have e1:=e1.symm;have e2:=e2.symm;subst e1 e2
   repeat (first|simp only[go_sem,i0,i3,o3,i5,o5,oS]|simp (disch:=first|exact omg|fail) only[AX,i0,i3,o3,i5,o5,oS]|refine wki ?_|refine vpx [] ?_)
   exact⟨120-(k'+1),by omega,k'+1,_,_,rfl,srg_next S (.inr ⟨by grind,hc⟩) S.high (by grind) d3 d2 (by grind),by omega,rfl⟩
  ·have e1:=e1.symm;have e2:=e2.symm;subst e1 e2
   repeat (first|simp only[go_sem,i0,i3,o3,i5,o5,oS]|simp (disch:=first|exact omg|fail) only[AX,i0,i3,o3,i5,o5,oS]|refine wki ?_|refine vpx [] ?_)
   exact⟨120-(k'+1),by omega,k'+1,_,_,rfl,srg_next S S.low (.inr ⟨by grind,hc⟩) (by grind) d1 d3 (by grind),by omega,rfl⟩
  ·have e1:=e1.symm;have e2:=e2.symm;subst e1 e2
   repeat (first|simp only[go_sem,i0,i3,o3,i5,o5,oS]|simp (disch:=first|exact omg|fail) only[AX,i0,i3,o3,i5,o5,oS]|refine wki ?_|refine vpx [] ?_|refine vf_of (by first|exact sb') ?_)
   refine vi_of tk2 rfl ?_
   rcases cx with⟨rfl,e1,e2,hc⟩|⟨rfl,e1,e2,hc⟩|⟨rfl,e1,e2,hc⟩
   ·have e1:=e1.symm;have e2:=e2.symm;subst e1 e2
    obtain⟨_,_,⟨b3,lo3,hi3,rfl,rfl,cy⟩,tk3⟩:=takes_K zq zm2 zm1 zh (hcdf (md+t) ⟨_,by omega,d5⟩ (by grind) (by grind)) (show md-t<md+t by grind) (show md+t<hi by grind)
    repeat (first|simp only[go_sem,i0,i3,o3,i5,o5,oS]|simp (disch:=first|exact omg|fail) only[AX,i0,i3,o3,i5,o5,oS]|refine wki ?_|refine vpx [] ?_|refine vf_of (by first|exact ad2) ?_)
    refine vi_of tk3 rfl ?_
    rcases cy with⟨rfl,e3,e4,hc3⟩|⟨rfl,e3,e4,hc3⟩|⟨rfl,e3,e4,-⟩
    ·have e3:=e3.symm;have e4:=e4.symm;subst e3 e4
     repeat (first|simp only[go_sem,i0,i3,o3,i5,o5,oS,Bool.not_true,Bool.not_false]|simp (disch:=first|exact omg|fail) only[AX,i0,i3,o3,i5,o5,oS,Bool.not_true,Bool.not_false]|refine wki ?_|refine vpx [] ?_)
     exact⟨120-(k'+1),by omega,k'+1,_,_,rfl,srg_next S (.inr ⟨by grind,hc3⟩) S.high (by grind) d5 d2 (by grind),by omega,rfl⟩
    ·have e3:=e3.symm;have e4:=e4.symm;subst e3 e4
     repeat (first|simp only[go_sem,i0,i3,o3,i5,o5,oS,Bool.not_true,Bool.not_false]|simp (disch:=first|exact omg|fail) only[AX,i0,i3,o3,i5,o5,oS,Bool.not_true,Bool.not_false]|refine wki ?_|refine vpx [] ?_)
     exact⟨120-(k'+1),by omega,k'+1,_,_,rfl,srg_next S (.inr ⟨by grind,hc⟩) (.inr ⟨by grind,hc3⟩) (by grind) d4 d5 (by grind),by omega,rfl⟩
    ·have e3:=e3.symm;have e4:=e4.symm;subst e3 e4
     repeat (first|simp only[go_sem,i0,i3,o3,i5,o5,oS,Bool.not_true,Bool.not_false]|simp (disch:=first|exact omg|fail) only[AX,i0,i3,o3,i5,o5,oS,Bool.not_true,Bool.not_false]|refine wki ?_|refine vpx [] ?_)
     exact⟨120-(k'+1),by omega,k'+1,_,_,rfl,srg_next S (.inr ⟨by grind,hc⟩) S.high (by grind) d4 d2 w1,by omega,rfl⟩
   ·have e1:=e1.symm;have e2:=e2.symm;subst e1 e2
    obtain⟨_,_,⟨rfl,rfl⟩,tk3⟩:=takes_outT (k:=k) (n:=n) (m:=m) (sa:=sa) (na:=na) (da:=da) (sb:=sb) (nb:=nb) (db:=db) (q:=q) zm2 zl zm1 (show lo<md+t by grind) (show md-t<=md+t by grind)
    repeat (first|simp only[go_sem,i0,i3,o3,i5,o5,oS]|simp (disch:=first|exact omg|fail) only[AX,i0,i3,o3,i5,o5,oS]|refine wki ?_|refine vpx [] ?_|refine vf_of (by first|exact ad2) ?_)
    refine vi_of tk3 rfl ?_
    repeat (first|simp only[go_sem,i0,i3,o3,i5,o5,oS,Bool.not_true,Bool.not_false]|simp (disch:=first|exact omg|fail) only[AX,i0,i3,o3,i5,o5,oS,Bool.not_true,Bool.not_false]|refine wki ?_|refine vpx [] ?_)
    exact⟨120-(k'+1),by omega,k'+1,_,_,rfl,srg_next S S.low (.inr ⟨by grind,hc⟩) (by grind) d1 d4 (by grind),by omega,rfl⟩
   ·have e1:=e1.symm;have e2:=e2.symm;subst e1 e2
    obtain⟨_,_,⟨b3,lo3,hi3,rfl,rfl,cy⟩,tk3⟩:=takes_K zq zm2 zl zh (hcdf (md+t) ⟨_,by omega,d5⟩ (by grind) (by grind)) (show lo<md+t by grind) (show md+t<hi by grind)
    repeat (first|simp only[go_sem,i0,i3,o3,i5,o5,oS]|simp (disch:=first|exact omg|fail) only[AX,i0,i3,o3,i5,o5,oS]|refine wki ?_|refine vpx [] ?_|refine vf_of (by first|exact ad2) ?_)
    refine vi_of tk3 rfl ?_
    rcases cy with⟨rfl,e3,e4,hc3⟩|⟨rfl,e3,e4,hc3⟩|⟨rfl,e3,e4,hc3⟩
    ·have e3:=e3.symm;have e4:=e4.symm;subst e3 e4
     repeat (first|simp only[go_sem,i0,i3,o3,i5,o5,oS,Bool.not_true,Bool.not_false]|simp (disch:=first|exact omg|fail) only[AX,i0,i3,o3,i5,o5,oS,Bool.not_true,Bool.not_false]|refine wki ?_|refine vpx [] ?_)
     exact⟨120-(k'+1),by omega,k'+1,_,_,rfl,srg_next S (.inr ⟨by grind,hc3⟩) S.high (by grind) d5 d2 (by grind),by omega,rfl⟩
    ·have e3:=e3.symm;have e4:=e4.symm;subst e3 e4
     repeat (first|simp only[go_sem,i0,i3,o3,i5,o5,oS,Bool.not_true,Bool.not_false]|simp (disch:=first|exact omg|fail) only[AX,i0,i3,o3,i5,o5,oS,Bool.not_true,Bool.not_false]|refine wki ?_|refine vpx [] ?_)
     exact⟨120-(k'+1),by omega,k'+1,_,_,rfl,srg_next S S.low (.inr ⟨by grind,hc3⟩) (by grind) d1 d5 w2,by omega,rfl⟩
    ·have e3:=e3.symm;have e4:=e4.symm;subst e3 e4
     repeat (first|simp only[go_sem,i0,i3,o3,i5,o5,oS,Bool.not_true,Bool.not_false]|simp (disch:=first|exact omg|fail) only[AX,i0,i3,o3,i5,o5,oS,Bool.not_true,Bool.not_false]|refine wki ?_|refine vpx [] ?_)
     exact⟨_,_,⟨false,k',lo,hi,S,hk,(fun h=>nomatch h),(fun _=>⟨md-t,by grind,by grind,hc,by rw[show md-t+2*t=md+t by grind];exact hc3⟩),rfl,rfl⟩,rfl,rfl⟩
 ·rw[decide_eq_false hw]at ew
  repeat (first|simp only[go_sem,i0,i3,o3,i5,o5,oS]|simp (disch:=first|exact omg|fail) only[AX,i0,i3,o3,i5,o5,oS]|refine wki ?_|refine vpx [] ?_)
  refine vr_of wd (by kernel_rfl) (by kernel_rfl) ?_ (same_se _ _ _) ?_
  ·simp only[go_sem,i0,i3,o3,i5,o5,oS]
  repeat (first|simp only[go_sem,i0,i3,o3,i5,o5,oS,ew]|simp (disch:=first|exact omg|fail) only[AX,i0,i3,o3,i5,o5,oS,ew]|refine wki ?_|refine vpx [] ?_|refine vf_of (by first|exact cw) ?_)
  exact⟨_,_,⟨true,k',lo,hi,S,hk,(fun _=>by grind),(fun h=>nomatch h),rfl,rfl⟩,rfl,rfl⟩
end
end Go.Proofs.YtenjdajophfpcaaGreat
namespace Go.Ex
def mulu (d:Rat) (g:Nat->Rat):Nat->Rat
 |0=>d*g 0
 |k+1=>d*g (k+1)+g k
def dvu (d:Rat) (f:Nat->Rat):Nat->Rat
 |0=>f 0/d
 |k+1=>(f (k+1)-dvu d f k)/d
theorem mul_div (d x:Rat) (hd:d≠0):d*(x/d)=x:=by rw[Rat.mul_comm];exact Rat.div_mul_cancel hd
theorem mulu_dvu {d:Rat} (hd:d≠0) (f:Nat->Rat) : ∀k,mulu d (dvu d f) k=f k
 |0=>mul_div d _ hd
 |k+1=>by
  show d*((f (k+1)-dvu d f k)/d)+dvu d f k=_
  rw[mul_div d _ hd];grind
theorem dvu_uniq {d:Rat} (hd:d≠0) {f g:Nat->Rat} (h : ∀k,mulu d g k=f k) : ∀k,g k=dvu d f k
 |0=>by
  have:=h 0
  show g 0=f 0/d
  rw[<- this]
  show g 0=d*g 0/d
  rw[Rat.mul_comm];exact(Rat.mul_div_cancel hd).symm
 |k+1=>by
  have e:=h (k+1)
  have ih:=dvu_uniq hd h k
  show g (k+1)=(f (k+1)-dvu d f k)/d
  rw[<- ih,<- e]
  show g (k+1)=(d*g (k+1)+g k-g k)/d
  rw[show d*g (k+1)+g k-g k=g (k+1)*d by grind]
  exact(Rat.mul_div_cancel hd).symm
theorem dvu_congr {d:Rat} {f g:Nat->Rat} (h : ∀k,f k=g k) : ∀k,dvu d f k=dvu d g k
 |0=>by show f 0/d=g 0/d;rw[h]
 |k+1=>by show (f (k+1)-dvu d f k)/d=(g (k+1)-dvu d g k)/d;rw[h,dvu_congr h k]
theorem mulu_comm (d e:Rat) (g:Nat->Rat) : ∀k,mulu d (mulu e g) k=mulu e (mulu d g) k
 |0=>by show d*(e*g 0)=e*(d*g 0);grind
 |1=>by show d*(e*g 1+g 0)+e*g 0=e*(d*g 1+g 0)+d*g 0;grind
 |k+2=>by show d*(e*g (k+2)+g (k+1))+(e*g (k+1)+g k)=e*(d*g (k+2)+g (k+1))+(d*g (k+1)+g k);grind
theorem mulu_congr {d:Rat} {f g:Nat->Rat} (h : ∀k,f k=g k) : ∀k,mulu d f k=mulu d g k
 |0=>by show d*f 0=d*g 0;rw[h]
 |k+1=>by show d*f (k+1)+f k=d*g (k+1)+g k;rw[h,h]
theorem dvu_comm {d e:Rat} (hd:d≠0) (he:e≠0) (f:Nat->Rat) (k:Nat):dvu d (dvu e f) k=dvu e (dvu d f) k:=by
 refine dvu_uniq he (fun k=>dvu_uniq hd (fun k => ?_) k) k
 rw[mulu_comm]
 have h1 : ∀k,mulu d (dvu d (dvu e f)) k=dvu e f k:=mulu_dvu hd _
 rw[mulu_congr h1]
 exact mulu_dvu he f k
def ser (j:Nat):List Nat->Nat->Rat
 | [],k=>if k=0 then 1 else 0
 |s::M,k=>if s=j then ser j M k else dvu ((j:Rat)-(s:Rat)) (ser j M) k
theorem nat_inj {a b:Nat} (h:(a:Rat)=(b:Rat)):a=b:=by exact_mod_cast h
theorem sub_ne {j s:Nat} (h:s≠j):(j:Rat)-(s:Rat)≠0:=by
 intro e
 exact h (nat_inj (show (s:Rat)=(j:Rat) by grind))
theorem ser_perm (j:Nat) {M M':List Nat} (h:M.Perm M') : ∀k,ser j M k=ser j M' k:=by
 induction h with
 |nil=>intro k;rfl
 |cons s _ ih=>
  intro k
  unfold ser
  split
  ·exact ih k
  ·exact dvu_congr ih k
 |swap s t M=>
  intro k
  by_cases h1:s=j<;>by_cases h2:t=j
  ·simp only[ser,if_pos h1,if_pos h2]
  ·simp only[ser,if_pos h1,if_neg h2]
  ·simp only[ser,if_neg h1,if_pos h2]
  ·simp only[ser,if_neg h1,if_neg h2]
   exact dvu_comm (sub_ne h2) (sub_ne h1) _ k
 |trans _ _ ih1 ih2=>intro k;rw[ih1,ih2]
def coef (j:Nat) (M:List Nat) (i:Nat):Rat:=if i<M.count j then ser j M (M.count j-1-i) else 0
theorem coef_same {s:Nat} {M:List Nat} (i:Nat):coef s (s::M) (i+1)=coef s M i:=by
 unfold coef
 rw[List.count_cons_self]
 by_cases h:i<M.count s
 ·rw[if_pos h,if_pos (by omega)]
  simp only[ser,if_pos]
  rw[show M.count s+1-1-(i+1)=M.count s-1-i by omega]
 ·rw[if_neg h,if_neg (by omega)]
theorem coef_other {j s:Nat} {M:List Nat} (h:s≠j) (i:Nat):((j:Rat)-(s:Rat))*coef j (s::M) i+coef j (s::M) (i+1)=coef j M i:=by
 unfold coef
 rw[List.count_cons_of_ne h]
 have key:=mulu_dvu (sub_ne h) (ser j M)
 by_cases h1:i+1<M.count j
 ·rw[if_pos h1,if_pos (by omega),if_pos (by omega)]
  obtain⟨k,hk⟩ : ∃k,M.count j-1-i=k+1:=⟨M.count j-2-i,by omega⟩
  rw[show M.count j-1-(i+1)=k by omega,hk,<- key (k+1)]
  simp only[ser,if_neg h]
  rfl
 ·rw[if_neg h1]
  by_cases h2:i<M.count j
  ·rw[if_pos h2,if_pos h2,show M.count j-1-i=0 by omega,<- key 0]
   simp only[ser,if_neg h]
   rw[Rat.add_zero];rfl
  ·rw[if_neg h2,if_neg h2];grind
def bin:Nat->Nat->Nat
 |_,0=>1
 |0,_+1=>0
 |m+1,i+1=>bin m i+bin m (i+1)
theorem bin_big : ∀m i,m<i->bin m i=0
 |0,i+1,_=>rfl
 |m+1,i+1,h=>by
  show bin m i+bin m (i+1)=0
  rw[bin_big m i (by omega),bin_big m (i+1) (by omega)]
def bw (j:Rat) (m i:Nat):Rat:=(bin m i:Rat)*j^(m-i)
theorem bw_zero (j:Rat) (m:Nat):bw j (m+1) 0=j*bw j m 0:=by
 show ((bin (m+1) 0:Nat):Rat)*j^(m+1)=j*(((bin m 0:Nat):Rat)*j^m)
 have e1:bin (m+1) 0=1:=by cases m<;>rfl
 have e2:bin m 0=1:=by cases m<;>rfl
 rw[e1,e2,Rat.pow_succ];grind
theorem bw_succ (j:Rat) (m i:Nat):bw j (m+1) (i+1)=j*bw j m (i+1)+bw j m i:=by
 show ((bin m i+bin m (i+1):Nat):Rat)*j^(m+1-(i+1))=j*(((bin m (i+1):Nat):Rat)*j^(m-(i+1)))+((bin m i:Nat):Rat)*j^(m-i)
 have e:((bin m i+bin m (i+1):Nat):Rat)=(bin m i:Rat)+(bin m (i+1):Rat):=by exact_mod_cast rfl
 rw[e,show m+1-(i+1)=m-i by omega]
 by_cases h:i+1<=m
 ·rw[show m-i=m-(i+1)+1 by omega,Rat.pow_succ];grind
 ·rw[bin_big m (i+1) (by omega)]
  have:((0:Nat):Rat)=0:=rfl
  rw[this];grind
def gs (j:Rat) (a:Nat->Rat) (m:Nat):Nat->Rat
 |0=>0
 |c+1=>gs j a m c+a c*bw j m c
theorem gs_congr {j:Rat} {a a':Nat->Rat} {m:Nat} : ∀c,(∀i,i<c->a i=a' i)->gs j a m c=gs j a' m c
 |0,_=>rfl
 |c+1,h=>by
  show gs j a m c+a c*_=gs j a' m c+a' c*_
  rw[gs_congr c (fun i hi=>h i (by omega)),h c (by omega)]
theorem gs_shift (j s:Rat) (a:Nat->Rat) (m:Nat) : ∀c,gs j a (m+1) (c+1)+a (c+1)*bw j m c=s*gs j a m (c+1)+gs j (fun i=>(j-s)*a i+a (i+1)) m (c+1)
 |0=>by
  show 0+a 0*bw j (m+1) 0+a 1*bw j m 0=s*(0+a 0*bw j m 0)+(0+((j-s)*a 0+a 1)*bw j m 0)
  rw[bw_zero];grind
 |c+1=>by
  have ih:=gs_shift j s a m c
  show gs j a (m+1) (c+1)+a (c+1)*bw j (m+1) (c+1)+a (c+2)*bw j m (c+1)=s*(gs j a m (c+1)+a (c+1)*bw j m (c+1))+(gs j (fun i=>(j-s)*a i+a (i+1)) m (c+1)+((j-s)*a (c+1)+a (c+2))*bw j m (c+1))
  rw[bw_succ]
  generalize gs j (fun i=>(j-s)*a i+a (i+1)) m (c+1)=z at *
  grind
theorem gs_at {j s:Rat} {a a':Nat->Rat} {m c:Nat} (h0:a c=0) (h : ∀i,i<c->(j-s)*a i+a (i+1)=a' i):gs j a (m+1) c=s*gs j a m c+gs j a' m c:=by
 cases c with
 |zero=>show (0:Rat)=s*0+0;grind
 |succ c=>
  have:=gs_shift j s a m c
  rw[h0]at this
  rw[<- gs_congr (a:=fun i=>(j-s)*a i+a (i+1)) (a':=a') (c+1) h,<- this]
  grind
def Gn (M:List Nat) (m:Nat):Nat->Rat
 |0=>0
 |J+1=>Gn M m J+gs (J:Rat) (coef J M) m (M.count J)
theorem coef_end (j:Nat) (M:List Nat):coef j M (M.count j)=0:=by unfold coef;rw[if_neg (by omega)]
theorem gs_node (j s:Nat) (M:List Nat) (m:Nat):gs (j:Rat) (coef j (s::M)) (m+1) ((s::M).count j)=(s:Rat)*gs (j:Rat) (coef j (s::M)) m ((s::M).count j)+gs (j:Rat) (coef j M) m (M.count j):=by
 by_cases h:s=j
 ·subst h
  rw[gs_at (s:=(s:Rat)) (a':=coef s M) (coef_end s _) (fun i _=>by rw[coef_same];grind)]
  congr 1
  rw[List.count_cons_self]
  show gs _ _ _ _+coef s M (M.count s)*_=_
  rw[coef_end];grind
 ·rw[gs_at (s:=(s:Rat)) (a':=coef j M) (coef_end j _) (fun i _=>coef_other h i)]
  congr 2
  rw[List.count_cons_of_ne h]
theorem Gn_step (s:Nat) (M:List Nat) (m:Nat) : ∀J,Gn (s::M) (m+1) J=(s:Rat)*Gn (s::M) m J+Gn M m J
 |0=>by show (0:Rat)=(s:Rat)*0+0;grind
 |J+1=>by
  show Gn (s::M) (m+1) J+gs _ _ _ _=(s:Rat)*(Gn (s::M) m J+gs _ _ _ _)+(Gn M m J+gs _ _ _ _)
  rw[Gn_step s M m J,gs_node];grind
theorem Gn_perm {M M':List Nat} (h:M.Perm M') (m:Nat) : ∀J,Gn M m J=Gn M' m J
 |0=>rfl
 |J+1=>by
  show Gn M m J+gs _ _ _ _=Gn M' m J+gs _ _ _ _
  rw[Gn_perm h m J,h.count_eq]
  congr 1
  exact gs_congr _ fun i _=>by unfold coef;rw[h.count_eq,ser_perm J h]
theorem Gn_nil (m:Nat) : ∀J,Gn [] m J=0
 |0=>rfl
 |J+1=>by show Gn [] m J+0=0;rw[Gn_nil m J,Rat.add_zero]
def Hn:List Nat->Nat->Nat
 | [],_=>0
 |_::M,0=>if M=[] then 1 else 0
 |s::M,m+1=>s*Hn (s::M) m+Hn M m
theorem Gn_of {s:Nat} {M:List Nat} {J:Nat} (h : ∀m,Gn M m J=(Hn M m:Rat)) (h0:Gn (s::M) 0 J=(Hn (s::M) 0:Rat)) : ∀m,Gn (s::M) m J=(Hn (s::M) m:Rat)
 |0=>h0
 |m+1=>by
  rw[Gn_step,Gn_of h h0 m,h m]
  show _=((s*Hn (s::M) m+Hn M m:Nat):Rat)
  exact_mod_cast rfl
theorem Hn_zero {s:Nat} {M:List Nat} (h:M≠[]):Hn (s::M) 0=0:=by
 show (if M=[] then 1 else 0)=0
 rw[if_neg h]
theorem gs_at0 (j:Rat) (a:Nat->Rat) : ∀c,gs j a 0 (c+1)=a 0
 |0=>by
  show 0+a 0*(((1:Nat):Rat)*j^0)=a 0
  rw[Rat.pow_zero];have:((1:Nat):Rat)=1:=rfl
  rw[this];grind
 |c+1=>by
  show gs j a 0 (c+1)+a (c+1)*(((0:Nat):Rat)*_)=a 0
  rw[gs_at0 j a c];have:((0:Nat):Rat)=0:=rfl
  rw[this];grind
theorem ser_rep (s:Nat) : ∀ (M:List Nat),(∀t∈M,t=s) -> ∀k,ser s M k=if k=0 then 1 else 0
 | [],_,k=>rfl
 |t::M,h,k=>by
  have:t=s:=h t List.mem_cons_self
  simp only[ser,if_pos this]
  exact ser_rep s M (fun u hu=>h u (List.mem_cons_of_mem _ hu)) k
theorem count_rep (s:Nat) : ∀ (M:List Nat),(∀t∈M,t=s)->M.count s=M.length
 | [],_=>rfl
 |t::M,h=>by
  have:t=s:=h t List.mem_cons_self
  subst this
  rw[List.count_cons_self,List.length_cons,count_rep t M (fun u hu=>h u (List.mem_cons_of_mem _ hu))]
theorem Gn_rep {s:Nat} {M:List Nat} (h : ∀t∈M,t=s) (hM:M≠[]) : ∀J,Gn M 0 J=if s<J then coef s M 0 else 0
 |0=>rfl
 |J+1=>by
  show Gn M 0 J+gs _ _ _ _=_
  rw[Gn_rep h hM J]
  have hl:0<M.length:=List.length_pos_iff.2 hM
  by_cases e:s=J
  ·subst e
   rw[if_neg (by omega),if_pos (by omega),count_rep s M h]
   obtain⟨c,hc⟩ : ∃c,M.length=c+1:=⟨M.length-1,by omega⟩
   rw[hc,gs_at0,Rat.zero_add]
  ·have:M.count J=0:=List.count_eq_zero.2 fun hj=>e ((h J hj).symm)
   rw[this]
   show _+0=_
   rw[Rat.add_zero]
   by_cases h1:s<J
   ·rw[if_pos h1,if_pos (by omega)]
   ·rw[if_neg h1,if_neg (by omega)]
theorem Gn_eq (J:Nat) : ∀ (n:Nat) (M:List Nat),M.length=n->(∀t∈M,t<J) -> ∀m,Gn M m J=(Hn M m:Rat):=by
 intro n
 induction n using Nat.strongRecOn with
 |_ n ih=>
  intro M hl hM
  match M,hl,hM with
  | [],_,_=>intro m;rw[Gn_nil];cases m<;>rfl
  |s::M,hl,hM=>
   have hM1:=fun m=>ih M.length (by rw[<- hl,List.length_cons];omega) M rfl (fun t ht=>hM t (List.mem_cons_of_mem _ ht)) m
   refine Gn_of hM1 ?_
   by_cases he : ∀t∈M,t=s
   ·have ha : ∀t∈s::M,t=s:=fun t ht=>by
     rcases List.mem_cons.1 ht with h|h
     ·exact h
     ·exact he t h
    rw[Gn_rep ha (by simp) J,if_pos (hM s List.mem_cons_self)]
    unfold coef
    rw[count_rep s _ ha,if_pos (by simp),ser_rep s _ ha,List.length_cons]
    by_cases hn:M=[]
    ·subst hn;rfl
    ·rw[Hn_zero hn]
     have:0<M.length:=List.length_pos_iff.2 hn
     rw[if_neg (by omega)];rfl
   ·obtain⟨t,ht,hts⟩ : ∃t,t∈M/\t≠s:=by
     refine Classical.byContradiction fun hc=>he fun t ht=>Classical.byContradiction fun hts=>hc ⟨t,ht,hts⟩
    have hn:M≠[]:=by rintro rfl;cases ht
    rw[Hn_zero hn]
    have p:=List.perm_cons_erase ht
    obtain⟨M0,hM0⟩ : ∃M0,M0=M.erase t:=⟨_,rfl⟩
    rw[<- hM0]at p
    have p1:(s::M).Perm (s::t::M0):=List.Perm.cons s p
    have p2:(s::M).Perm (t::s::M0):=p1.trans (List.Perm.swap t s M0)
    have lM:M.length=M0.length+1:=by rw[p.length_eq,List.length_cons]
    have i1:=ih (M0.length+1) (by rw[<- hl,List.length_cons];omega) (t::M0) (by simp) (fun u hu=>hM u (List.mem_cons_of_mem _ (p.mem_iff.2 hu))) 0
    have i2:=ih (M0.length+1) (by rw[<- hl,List.length_cons];omega) (s::M0) (by simp) (fun u hu=>by
     rcases List.mem_cons.1 hu with h|h
     ·rw[h];exact hM s List.mem_cons_self
     ·exact hM u (List.mem_cons_of_mem _ (p.mem_iff.2 (List.mem_cons_of_mem _ h)))) 0
    have e0:(Hn (t::M0) 0)=(Hn (s::M0) 0):=rfl
    have s1:=Gn_step s (t::M0) 0 J
    have s2:=Gn_step t (s::M0) 0 J
    rw[<- Gn_perm p1,<- Gn_perm p1,i1]at s1
    rw[<- Gn_perm p2,<- Gn_perm p2,i2,<- e0]at s2
    have d:((s:Rat)-(t:Rat))*Gn (s::M) 0 J=0:=by
     generalize Gn (s::M) (0+1) J=z at *
     generalize Gn (s::M) 0 J=y at *
     grind
    rcases Rat.mul_eq_zero.1 d with h|h
    ·exact absurd h (sub_ne hts)
    ·rw[h];rfl
end Go.Ex
namespace Go.Ex
def isI (q:Rat):Prop := ∃z:Int,q=(z:Rat)
theorem isI_int (z:Int):isI (z:Rat):=⟨z,rfl⟩
theorem isI_nat (n:Nat):isI (n:Rat):=⟨(n:Int),rfl⟩
theorem isI_add {a b:Rat} (h:isI a) (g:isI b):isI (a+b):=by
 obtain⟨x,rfl⟩:=h;obtain⟨y,rfl⟩:=g;exact⟨x+y,by rw[Rat.intCast_add]⟩
theorem isI_sub {a b:Rat} (h:isI a) (g:isI b):isI (a-b):=by
 obtain⟨x,rfl⟩:=h;obtain⟨y,rfl⟩:=g;exact⟨x-y,by rw[Rat.intCast_sub]⟩
theorem isI_mul {a b:Rat} (h:isI a) (g:isI b):isI (a*b):=by
 obtain⟨x,rfl⟩:=h;obtain⟨y,rfl⟩:=g;exact⟨x*y,by rw[Rat.intCast_mul]⟩
theorem isI_zero:isI 0:=⟨0,rfl⟩
theorem isI_one:isI 1:=⟨1,rfl⟩
theorem isI_pow {a:Rat} (h:isI a) : ∀n:Nat,isI (a^n)
 |0=>by rw[Rat.pow_zero];exact isI_one
 |n+1=>by rw[Rat.pow_succ];exact isI_mul (isI_pow h n) h
def prd (j:Nat):List Nat->Int
 | []=>1
 |s::M=>if s=j then prd j M else prd j M*((j:Int)-(s:Int))
theorem castd (j s:Nat):(((j:Int)-(s:Int):Int):Rat)=(j:Rat)-(s:Rat):=by rw[Rat.intCast_sub];rfl
theorem ser_int {A:Int} (j:Nat) : ∀M:List Nat,(∀s∈M,s≠j->((j:Int)-(s:Int))∣A) -> ∀k,isI (ser j M k*(prd j M:Rat)*(A:Rat)^k)
 | [],_,k=>by
  unfold ser prd
  by_cases h:k=0
  ·subst h;rw[if_pos rfl,Rat.pow_zero];exact⟨1,by decide +kernel⟩
  ·rw[if_neg h];exact⟨0,by grind⟩
 |s::M,hA,k=>by
  have ih:=ser_int j M (fun t ht=>hA t (List.mem_cons_of_mem _ ht))
  unfold ser prd
  by_cases h:s=j
  ·rw[if_pos h,if_pos h];exact ih k
  ·rw[if_neg h,if_neg h]
   obtain⟨e,he⟩:=hA s List.mem_cons_self h
   have hd:=sub_ne h
   have eA:(A:Rat)=((j:Rat)-(s:Rat))*(e:Rat):=by rw[he,Rat.intCast_mul,castd]
   rw[Rat.intCast_mul,castd]
   have key : ∀k,isI (dvu ((j:Rat)-(s:Rat)) (ser j M) k*((prd j M:Rat)*((j:Rat)-(s:Rat)))*(A:Rat)^k):=by
    intro k
    have m:=mulu_dvu hd (ser j M)
    induction k with
    |zero=>
     have m0:((j:Rat)-(s:Rat))*dvu ((j:Rat)-(s:Rat)) (ser j M) 0=ser j M 0:=m 0
     have i0:=ih 0
     rw[<- m0]at i0
     obtain⟨z,hz⟩:=i0
     exact⟨z,by rw[<- hz];grind⟩
    |succ k ihk=>
     have m1:((j:Rat)-(s:Rat))*dvu ((j:Rat)-(s:Rat)) (ser j M) (k+1)+dvu ((j:Rat)-(s:Rat)) (ser j M) k=ser j M (k+1):=m (k+1)
     have i1:=isI_sub (ih (k+1)) (isI_mul ihk (isI_int e))
     obtain⟨z,hz⟩:=i1
     refine⟨z,?_⟩
     rw[<- hz,<- m1,Rat.pow_succ,eA]
     generalize ((j:Rat)-(s:Rat))=d at *
     generalize dvu d (ser j M) (k+1)=y at *
     generalize dvu d (ser j M) k=y' at *
     generalize (d*(e:Rat))^k=P at *
     grind
   have:=key k
   simpa only using this
theorem one_le_sub {j s:Nat} (h:s≠j):1<=(j:Rat)-(s:Rat)\/(j:Rat)-(s:Rat) <= -1:=by
 rcases Nat.lt_or_ge s j with g|g
 ·left
  have:((s+1:Nat):Rat)<=(j:Rat):=by exact_mod_cast g
  have e:((s+1:Nat):Rat)=(s:Rat)+1:=by exact_mod_cast rfl
  rw[e]at this;grind
 ·right
  have g':j+1<=s:=by omega
  have:((j+1:Nat):Rat)<=(s:Rat):=by exact_mod_cast g'
  have e:((j+1:Nat):Rat)=(j:Rat)+1:=by exact_mod_cast rfl
  rw[e]at this;grind
def Bdd (x B:Rat):Prop := -B<=x/\x<=B
theorem Bdd_nn {x B:Rat} (h:Bdd x B):0<=B:=by obtain⟨a,b⟩:=h;grind
theorem Bdd_add {x y B C:Rat} (h:Bdd x B) (g:Bdd y C):Bdd (x+y) (B+C):=by
 obtain⟨a,b⟩:=h;obtain⟨c,d⟩:=g;constructor<;>grind
theorem Bdd_sub {x y B C:Rat} (h:Bdd x B) (g:Bdd y C):Bdd (x-y) (B+C):=by
 obtain⟨a,b⟩:=h;obtain⟨c,d⟩:=g;constructor<;>grind
theorem Bdd_mul {x y B C:Rat} (h:Bdd x B) (g:Bdd y C):Bdd (x*y) (B*C):=by
 have nB:=Bdd_nn h
 have nC:=Bdd_nn g
 obtain⟨a,b⟩:=h;obtain⟨c,d⟩:=g
 have m1:=Rat.mul_nonneg (show 0<=B-x by grind) (show 0<=C-y by grind)
 have m2:=Rat.mul_nonneg (show 0<=B+x by grind) (show 0<=C+y by grind)
 have m3:=Rat.mul_nonneg (show 0<=B-x by grind) (show 0<=C+y by grind)
 have m4:=Rat.mul_nonneg (show 0<=B+x by grind) (show 0<=C-y by grind)
 constructor<;>grind
theorem Bdd_mono {x B C:Rat} (h:Bdd x B) (g:B<=C):Bdd x C:=by
 obtain⟨a,b⟩:=h;constructor<;>grind
theorem Bdd_div {x d B:Rat} (h:Bdd x B) (hd:1<=d\/d <= -1):Bdd (x/d) B:=by
 have dn:d≠0:=by grind
 have e:=mul_div d x dn
 have nB:=Bdd_nn h
 obtain⟨a,b⟩:=h
 generalize x/d=y at *
 rcases hd with hd|hd
 ·constructor
  ·refine Rat.not_lt.1 fun c => ?_
   have:=Rat.mul_nonneg (show 0<=d-1 by grind) (show 0 <= -y-B by grind)
   have:=Rat.mul_nonneg (show 0<=d-1 by grind) nB
   grind
  ·refine Rat.not_lt.1 fun c => ?_
   have:=Rat.mul_nonneg (show 0<=d-1 by grind) (show 0<=y-B by grind)
   have:=Rat.mul_nonneg (show 0<=d-1 by grind) nB
   grind
 ·constructor
  ·refine Rat.not_lt.1 fun c => ?_
   have:=Rat.mul_nonneg (show 0 <= -d-1 by grind) (show 0 <= -y-B by grind)
   have:=Rat.mul_nonneg (show 0 <= -d-1 by grind) nB
   grind
  ·refine Rat.not_lt.1 fun c => ?_
   have:=Rat.mul_nonneg (show 0 <= -d-1 by grind) (show 0<=y-B by grind)
   have:=Rat.mul_nonneg (show 0 <= -d-1 by grind) nB
   grind
abbrev t2 (w:Nat):Rat:=((2^w:Nat):Rat)
theorem t2_pos (w:Nat):0<t2 w:=by
 have:0<2^w:=Nat.pow_pos (by omega)
 exact_mod_cast this
theorem t2_succ (w:Nat):t2 (w+1)=t2 w+t2 w:=by
 show ((2^(w+1):Nat):Rat)=((2^w:Nat):Rat)+((2^w:Nat):Rat)
 rw[Nat.pow_succ,Nat.mul_two];exact_mod_cast rfl
theorem t2_add (a b:Nat):t2 (a+b)=t2 a*t2 b:=by
 show ((2^(a+b):Nat):Rat)=_
 rw[Nat.pow_add];exact_mod_cast rfl
theorem t2_mono {a b:Nat} (h:a<=b):t2 a<=t2 b:=by
 have:2^a<=2^b:=Nat.pow_le_pow_right (by omega) h
 exact_mod_cast this
theorem dvu_bd {d:Rat} (hd:1<=d\/d <= -1) {f:Nat->Rat} {L:Nat} (h : ∀k,Bdd (f k) (t2 (L+k))) : ∀k,Bdd (dvu d f k) (t2 (L+1+k))
 |0=>Bdd_div (Bdd_mono (h 0) (t2_mono (by omega))) hd
 |k+1=>by
  have ih:=dvu_bd hd h k
  refine Bdd_div ?_ hd
  have e:=Bdd_sub (h (k+1)) (Bdd_mono ih (t2_mono (show L+1+k<=L+(k+1) by omega)))
  rw[show L+1+(k+1)=L+(k+1)+1 by omega,t2_succ]
  exact e
theorem ser_bd (j:Nat) : ∀ (M:List Nat) k,Bdd (ser j M k) (t2 (M.length+k))
 | [],k=>by
  unfold ser
  have:=t2_mono (a:=0) (b:=([]:List Nat).length+k) (by omega)
  have e:t2 0=1:=rfl
  rw[e]at this
  split
  ·exact⟨by grind,this⟩
  ·exact⟨by grind,by grind⟩
 |s::M,k=>by
  unfold ser
  have ih:=ser_bd j M
  by_cases h:s=j
  ·rw[if_pos h];exact Bdd_mono (ih k) (t2_mono (by simp))
  ·rw[if_neg h]
   have:=dvu_bd (one_le_sub h) ih k
   rw[List.length_cons]
   exact this
theorem coef_bd (j:Nat) (M:List Nat) (i:Nat):Bdd (coef j M i) (t2 (M.length+M.count j)):=by
 unfold coef
 split
 ·exact Bdd_mono (ser_bd j M _) (t2_mono (by omega))
 ·have:=t2_pos (M.length+M.count j)
  exact⟨by grind,by grind⟩
def nds:Nat->List Nat
 |0=>[]
 |n+1=>List.range 257++nds n
theorem nds_lt : ∀n,∀t∈nds n,t<257
 |0,t,h=>by cases h
 |n+1,t,h=>by
  rcases List.mem_append.1 h with h|h
  ·exact List.mem_range.1 h
  ·exact nds_lt n t h
theorem nds_len : ∀n,(nds n).length=257*n
 |0=>rfl
 |n+1=>by
  show (List.range 257++nds n).length=_
  rw[List.length_append,nds_len n,List.length_range];omega
theorem range_cnt:(List.range 257).all (fun j=>decide ((List.range 257).count j=1))=true:=by decide +kernel
theorem nds_cnt {j:Nat} (hj:j<257) : ∀n,(nds n).count j=n
 |0=>rfl
 |n+1=>by
  show (List.range 257++nds n).count j=_
  rw[List.count_append,nds_cnt hj n,of_decide_eq_true (List.all_eq_true.1 range_cnt j (List.mem_range.2 hj))];omega
theorem prd_append (j:Nat) : ∀M M',prd j (M++M')=prd j M*prd j M'
 | [],M'=>by show prd j M'=1*prd j M';rw[Int.one_mul]
 |s::M,M'=>by
  show (if s=j then prd j (M++M') else prd j (M++M')*_)=(if s=j then prd j M else prd j M*_)*prd j M'
  split
  ·exact prd_append j M M'
  ·rw[prd_append j M M',Int.mul_assoc,Int.mul_assoc,Int.mul_comm (prd j M')]
theorem prd_nds (j:Nat) : ∀n,prd j (nds n)=prd j (List.range 257)^n
 |0=>by rw[Int.pow_zero];rfl
 |n+1=>by
  show prd j (List.range 257++nds n)=_
  rw[prd_append,prd_nds j n,Int.pow_succ,Int.mul_comm]
def F64:Int:=857817775342842654119082271681232625157781520279485619859655650377269452553147589377440291360451408450375885342336584306157196834693696475322289288497426025679637332563368786442675207626794560187968867971521143307702077526646451464709187326100832876325702818980773671781454170250523018608495319068138257481070252817559459476987034665712738139286205234756808218860701203611083152093501947437109101726968262861606263662435022840944191408424615936000000000000000000000000000000000000000000000000000000000000000
def L64:Int:=16674490806895842671659008751776385350270324508909651849955453691538889375930032935391666564679008085339616000
theorem all_L64:(List.range 257).all (fun d=>decide (d=0)||decide ((d:Int)∣L64))=true:=by decide +kernel
theorem sub_dvd {j s:Nat} (hj:j<257) (hs:s<257) (h:s≠j):((j:Int)-(s:Int))∣L64:=by
 obtain⟨d,hd⟩ : ∃d:Nat,d=((j:Int)-(s:Int)).natAbs:=⟨_,rfl⟩
 have a:=List.all_eq_true.1 all_L64 d (List.mem_range.2 (by omega))
 rw[decide_eq_false (by omega),Bool.false_or]at a
 rw[<- Int.natAbs_dvd,<- hd]
 exact of_decide_eq_true a
theorem F64_le:F64<=2^1684/\0<F64/\L64<=2^364/\0<L64:=by decide +kernel
end Go.Ex
namespace Go.Ex
def tm (x:Rat):Nat->Rat
 |0=>1
 |m+1=>tm x m*x/((m+1:Nat):Rat)
def E (x:Rat):Nat->Rat
 |0=>0
 |m+1=>E x m+tm x m
theorem nsucc_ne (m:Nat):((m+1:Nat):Rat)≠0:=fun e=>by have:=nat_inj (b:=0) e;omega
theorem nsucc_pos (m:Nat):(0:Rat)<((m+1:Nat):Rat):=by exact_mod_cast Nat.succ_pos m
theorem nat_nn (m:Nat):(0:Rat)<=(m:Rat):=by exact_mod_cast Nat.zero_le m
theorem castadd (a b:Nat):((a+b:Nat):Rat)=(a:Rat)+(b:Rat):=by exact_mod_cast rfl
theorem castmul (a b:Nat):((a*b:Nat):Rat)=(a:Rat)*(b:Rat):=by exact_mod_cast rfl
theorem tm_succ (x:Rat) (m:Nat):((m+1:Nat):Rat)*tm x (m+1)=x*tm x m:=by
 show ((m+1:Nat):Rat)*(tm x m*x/((m+1:Nat):Rat))=_
 rw[mul_div _ _ (nsucc_ne m),Rat.mul_comm]
theorem div_nn {x d:Rat} (hx:0<=x) (hd:0<d):0<=x/d:=by
 have:=Rat.inv_pos.2 hd
 rw[Rat.div_def];exact Rat.mul_nonneg hx (Rat.le_of_lt this)
theorem tm_nn {x:Rat} (hx:0<=x) : ∀m,0<=tm x m
 |0=>by show (0:Rat)<=1;decide
 |m+1=>div_nn (Rat.mul_nonneg (tm_nn hx m) hx) (nsucc_pos m)
theorem tm_pos {x:Rat} (hx:0<x) : ∀m,0<tm x m
 |0=>by show (0:Rat)<1;decide
 |m+1=>by
  show 0<tm x m*x/((m+1:Nat):Rat)
  rw[Rat.div_def]
  exact Rat.mul_pos (Rat.mul_pos (tm_pos hx m) hx) (Rat.inv_pos.2 (nsucc_pos m))
theorem cancel_l {c x y:Rat} (hc:c≠0) (h:c*x=c*y):x=y:=by
 have:c*(x-y)=0:=by grind
 rcases Rat.mul_eq_zero.1 this with h|h<;>grind
theorem tm_bin (x:Rat) : ∀n a b:Nat,a+b=n->((bin (a+b) a:Nat):Rat)*tm x (a+b)=tm x a*tm x b:=by
 intro n
 induction n with
 |zero=>
  intro a b h
  obtain⟨rfl,rfl⟩:a=0/\b=0:=⟨by omega,by omega⟩
  show ((1:Nat):Rat)*1=1*1
  decide +kernel
 |succ n ih=>
  intro a b h
  match a,b,h with
  |0,b+1,h=>
   rw[show bin (0+(b+1)) 0=1 by cases b<;>rfl,Nat.zero_add]
   show ((1:Nat):Rat)*_=1*_
   rfl
  |a+1,0,h=>
   have e : ∀a,bin a a=1:=by
    intro a
    induction a with
    |zero=>rfl
    |succ a iha=>show bin a a+bin a (a+1)=1;rw[iha,bin_big a (a+1) (by omega)]
   show ((bin (a+1) (a+1):Nat):Rat)*tm x (a+1)=tm x (a+1)*1
   rw[e,Rat.mul_one]
   have:((1:Nat):Rat)=1:=rfl
   rw[this,Rat.one_mul]
  |a+1,b+1,h=>
   have i1:=ih a (b+1) (by omega)
   have i2:=ih (a+1) b (by omega)
   rw[show a+(b+1)=a+b+1 by omega]at i1
   rw[show a+1+b=a+b+1 by omega]at i2
   rw[show a+1+(b+1)=a+b+1+1 by omega]
   have s:=tm_succ x (a+b+1)
   have sa:=tm_succ x a
   have sb:=tm_succ x b
   have eb:((bin (a+b+1+1) (a+1):Nat):Rat)=(bin (a+b+1) a:Rat)+(bin (a+b+1) (a+1):Rat):=by
    rw[<- castadd];rfl
   refine cancel_l (nsucc_ne (a+b+1)) ?_
   have en:((a+b+1+1:Nat):Rat)=((a+1:Nat):Rat)+((b+1:Nat):Rat):=by rw[<- castadd];congr 1;omega
   rw[eb]
   have l:((a+b+1+1:Nat):Rat)*(((bin (a+b+1) a:Rat)+(bin (a+b+1) (a+1):Rat))*tm x (a+b+1+1))=((bin (a+b+1) a:Rat)+(bin (a+b+1) (a+1):Rat))*(((a+b+1+1:Nat):Rat)*tm x (a+b+1+1)):=by grind
   rw[l,s]
   have r:((a+b+1+1:Nat):Rat)*(tm x (a+1)*tm x (b+1))=(((a+1:Nat):Rat)*tm x (a+1))*tm x (b+1)+tm x (a+1)*(((b+1:Nat):Rat)*tm x (b+1)):=by rw[en];grind
   rw[r,sa,sb]
   have l2:((bin (a+b+1) a:Rat)+(bin (a+b+1) (a+1):Rat))*(x*tm x (a+b+1))=x*((bin (a+b+1) a:Rat)*tm x (a+b+1))+x*((bin (a+b+1) (a+1):Rat)*tm x (a+b+1)):=by grind
   rw[l2,i1,i2];grind
theorem tm_scale (j x:Rat) : ∀m,tm (j*x) m=j^m*tm x m
 |0=>by show (1:Rat)=j^0*1;rw[Rat.pow_zero];decide +kernel
 |m+1=>by
  show tm (j*x) m*(j*x)/_=j^(m+1)*(tm x m*x/_)
  rw[tm_scale j x m,Rat.pow_succ,Rat.div_def,Rat.div_def];grind
theorem bw_tm (j x:Rat) {m i:Nat} (h:i<=m):bw j m i*tm x m=tm x i*tm (j*x) (m-i):=by
 have b:=tm_bin x m i (m-i) (by omega)
 rw[show i+(m-i)=m by omega]at b
 unfold bw
 rw[tm_scale]
 have:(bin m i:Rat)*j^(m-i)*tm x m=j^(m-i)*((bin m i:Rat)*tm x m):=by grind
 rw[this,b];grind
theorem bw_big (j:Rat) {m i:Nat} (h:m<i):bw j m i=0:=by
 unfold bw;rw[bin_big m i h]
 have:((0:Nat):Rat)=0:=rfl
 rw[this,Rat.zero_mul]
def Rn (M:List Nat) (x:Rat):Nat->Rat
 |0=>0
 |K+1=>Rn M x K+(Hn M K:Rat)*tm x K
def lv1 (a:Nat->Rat) (x:Rat) (v:Nat->Rat):Nat->Rat
 |0=>0
 |c+1=>lv1 a x v c+a c*tm x c*v c
def LV (M:List Nat) (x:Rat) (v:Nat->Nat->Rat):Nat->Rat
 |0=>0
 |J+1=>LV M x v J+lv1 (coef J M) x (v J) (M.count J)
theorem lv1_step (j x:Rat) (a:Nat->Rat) (K:Nat) : ∀c,lv1 a x (fun i=>E (j*x) (K+1-i)) c=lv1 a x (fun i=>E (j*x) (K-i)) c+gs j a K c*tm x K
 |0=>by show (0:Rat)=0+0*_;grind
 |c+1=>by
  show lv1 a x (fun i=>E (j*x) (K+1-i)) c+a c*tm x c*E (j*x) (K+1-c)=lv1 a x (fun i=>E (j*x) (K-i)) c+a c*tm x c*E (j*x) (K-c)+(gs j a K c+a c*bw j K c)*tm x K
  rw[lv1_step j x a K c]
  by_cases h:c<=K
  ·rw[show K+1-c=K-c+1 by omega]
   have b:=bw_tm j x h
   show _+a c*tm x c*(E (j*x) (K-c)+tm (j*x) (K-c))=_
   have:a c*bw j K c*tm x K=a c*(bw j K c*tm x K):=by grind
   rw[Rat.add_mul,this,b];grind
  ·rw[bw_big j (by omega),show K+1-c=0 by omega,show K-c=0 by omega]
   grind
theorem LV_step (M:List Nat) (x:Rat) (K:Nat) : ∀J,LV M x (fun j i=>E ((j:Rat)*x) (K+1-i)) J=LV M x (fun j i=>E ((j:Rat)*x) (K-i)) J+Gn M K J*tm x K
 |0=>by show (0:Rat)=0+0*_;grind
 |J+1=>by
  show LV M x _ J+lv1 _ x (fun i=>E ((J:Rat)*x) (K+1-i)) _=LV M x _ J+lv1 _ x (fun i=>E ((J:Rat)*x) (K-i)) _+(Gn M K J+gs _ _ _ _)*tm x K
  rw[LV_step M x K J,lv1_step];grind
theorem lv1_zero (a:Nat->Rat) (x:Rat) {v:Nat->Rat} (h : ∀i,v i=0) : ∀c,lv1 a x v c=0
 |0=>rfl
 |c+1=>by show lv1 a x v c+a c*tm x c*v c=0;rw[lv1_zero a x h c,h];grind
theorem LV_zero (M:List Nat) (x:Rat) {v:Nat->Nat->Rat} (h : ∀j i,v j i=0) : ∀J,LV M x v J=0
 |0=>rfl
 |J+1=>by show LV M x v J+lv1 _ x (v J) _=0;rw[LV_zero M x h J,lv1_zero _ x (h J)];grind
theorem Rn_eq {M:List Nat} {J:Nat} (hM : ∀t∈M,t<J) (x:Rat) : ∀K,LV M x (fun j i=>E ((j:Rat)*x) (K-i)) J=Rn M x K
 |0=>LV_zero M x (fun j i=>by rw[Nat.zero_sub];rfl) J
 |K+1=>by
  rw[LV_step,Rn_eq hM x K,Gn_eq J M.length M rfl hM K];rfl
theorem lv1_diff {a:Nat->Rat} {x A T e:Rat} {v v':Nat->Rat} (hx:0<=x) (hA : ∀i,Bdd (a i) A) : ∀c,(∀i,i<c->tm x i<=T)->(∀i,i<c->Bdd (v i-v' i) e)->Bdd (lv1 a x v c-lv1 a x v' c) ((c:Rat)*(A*T*e))
 |0,_,_=>by
  show Bdd (0-0) (((0:Nat):Rat)*_)
  have:((0:Nat):Rat)=0:=rfl
  rw[this];constructor<;>grind
 |c+1,hT,hv=>by
  have ih:=lv1_diff (v:=v) (v':=v') hx hA c (fun i hi=>hT i (by omega)) (fun i hi=>hv i (by omega))
  have ht:Bdd (tm x c) T:=⟨by have:=tm_nn hx c;have:=hT c (by omega);grind,hT c (by omega)⟩
  have b:=Bdd_mul (Bdd_mul (hA c) ht) (hv c (by omega))
  have s:=Bdd_add ih b
  have e1:lv1 a x v (c+1)-lv1 a x v' (c+1)=lv1 a x v c-lv1 a x v' c+a c*tm x c*(v c-v' c):=by
   show lv1 a x v c+a c*tm x c*v c-(lv1 a x v' c+a c*tm x c*v' c)=_
   grind
  have e2:((c+1:Nat):Rat)*(A*T*e)=(c:Rat)*(A*T*e)+A*T*e:=by
   have:((c+1:Nat):Rat)=(c:Rat)+1:=castadd c 1
   rw[this];grind
  rw[e1,e2];exact s
theorem LV_diff {M:List Nat} {x A T e:Rat} {v v':Nat->Nat->Rat} {n:Nat} (hx:0<=x) : ∀J,(∀j,j<J->M.count j=n /\ ∀i,Bdd (coef j M i) A)->(∀i,i<n->tm x i<=T)->(∀j i,j<J->i<n->Bdd (v j i-v' j i) e)->Bdd (LV M x v J-LV M x v' J) ((J:Rat)*((n:Rat)*(A*T*e)))
 |0,_,_,_=>by
  show Bdd (0-0) (((0:Nat):Rat)*_)
  have:((0:Nat):Rat)=0:=rfl
  rw[this];constructor<;>grind
 |J+1,hA,hT,hv=>by
  have ih:=LV_diff (v:=v) (v':=v') hx J (fun j hj=>hA j (by omega)) hT (fun j i hj hi=>hv j i (by omega) hi)
  obtain⟨hc,hb⟩:=hA J (by omega)
  have b:=lv1_diff (v:=v J) (v':=v' J) hx hb n hT (fun i hi=>hv J i (by omega) hi)
  have s:=Bdd_add ih b
  have e1:LV M x v (J+1)-LV M x v' (J+1)=LV M x v J-LV M x v' J+(lv1 (coef J M) x (v J) n-lv1 (coef J M) x (v' J) n):=by
   show LV M x v J+lv1 _ x (v J) (M.count J)-(LV M x v' J+lv1 _ x (v' J) (M.count J))=_
   rw[hc];grind
  have e2:((J+1:Nat):Rat)*((n:Rat)*(A*T*e))=(J:Rat)*((n:Rat)*(A*T*e))+(n:Rat)*(A*T*e):=by
   have:((J+1:Nat):Rat)=(J:Rat)+1:=castadd J 1
   rw[this];grind
  rw[e1,e2];exact s
theorem Hn_small : ∀ (M:List Nat) (m:Nat),m+1<M.length->Hn M m=0
 | [],_,h=>by simp at h
 |s::M,0,h=>Hn_zero (by rintro rfl;simp at h)
 |s::M,m+1,h=>by
  show s*Hn (s::M) m+Hn M m=0
  rw[Hn_small (s::M) m (by omega),Hn_small M m (by rw[List.length_cons]at h;omega),Nat.mul_zero]
theorem Hn_first : ∀ (M:List Nat) (m:Nat),m+1=M.length->Hn M m=1
 | [],_,h=>by simp at h
 |s::M,0,h=>by
  have:M=[]:=by cases M;rfl;simp at h
  subst this;rfl
 |s::M,m+1,h=>by
  show s*Hn (s::M) m+Hn M m=1
  rw[Hn_small (s::M) m (by omega),Hn_first M m (by rw[List.length_cons]at h;omega),Nat.mul_zero,Nat.zero_add]
theorem Hn_le {c:Nat} : ∀ (M:List Nat) (m:Nat),(∀t∈M,t<=c)->0<M.length->Hn M m<=bin m (M.length-1)*c^(m-(M.length-1))
 |s::M,0,h,_=>by
  show (if M=[] then 1 else 0)<=_
  by_cases e:M=[]
  ·subst e;rw[if_pos rfl];exact Nat.le_refl _
  ·rw[if_neg e];exact Nat.zero_le _
 |s::M,m+1,h,hl=>by
  have i1:=Hn_le (s::M) m h (by simp)
  have hs:=h s List.mem_cons_self
  show s*Hn (s::M) m+Hn M m<=_
  rw[List.length_cons,Nat.add_sub_cancel]at *
  by_cases e:M=[]
  ·subst e
   have hz:Hn [] m=0:=by cases m<;>rfl
   rw[hz]
   show s*Hn [s] m+0<=bin (m+1) 0*c^(m+1)
   have b0:bin (m+1) 0=1:=rfl
   have b1:bin m 0=1:=by cases m<;>rfl
   rw[b0,Nat.one_mul]
   have i1':Hn [s] m<=bin m 0*c^m:=i1
   rw[b1,Nat.one_mul]at i1'
   have:=Nat.mul_le_mul hs i1'
   rw[Nat.pow_succ,Nat.mul_comm (c^m)];omega
  ·obtain⟨k,hk⟩ : ∃k,M.length=k+1:=⟨M.length-1,by have:0<M.length:=List.length_pos_iff.2 e;omega⟩
   have i2:=Hn_le M m (fun t ht=>h t (List.mem_cons_of_mem _ ht)) (by omega)
   rw[hk]at i1 i2 ⊢
   rw[Nat.add_sub_cancel]at i2
   show _<=(bin m k+bin m (k+1))*c^(m+1-(k+1))
   rw[show m+1-(k+1)=m-k by omega,Nat.add_mul]
   have m1:=Nat.mul_le_mul hs i1
   by_cases h2:k+1<=m
   ·have e2:c*(bin m (k+1)*c^(m-(k+1)))=bin m (k+1)*c^(m-k):=by
     rw[show m-k=m-(k+1)+1 by omega,Nat.pow_succ,Nat.mul_left_comm,Nat.mul_comm c]
    rw[e2]at m1;omega
   ·rw[bin_big m (k+1) (by omega)]at m1 ⊢
    rw[Nat.zero_mul]at m1 ⊢
    omega
end Go.Ex
namespace Go.Ex
theorem E_nn {x:Rat} (hx:0<=x) : ∀K,0<=E x K
 |0=>Rat.le_refl
 |K+1=>by show 0<=E x K+tm x K;have:=E_nn hx K;have:=tm_nn hx K;grind
theorem E_mono {x:Rat} (hx:0<=x) {K L:Nat} (h:K<=L):E x K<=E x L:=by
 induction L with
 |zero=>rw[show K=0 by omega];exact Rat.le_refl
 |succ L ih=>
  by_cases e:K=L+1
  ·rw[e];exact Rat.le_refl
  ·have:=ih (by omega)
   have:=tm_nn hx L
   show E x K<=E x L+tm x L
   grind
def cv (f g:Nat->Rat) (n:Nat):Nat->Rat
 |0=>0
 |c+1=>cv f g n c+f c*g (n-c)
theorem cv_step (x y:Rat) (n:Nat) : ∀c,c<=n->((n+1:Nat):Rat)*cv (tm x) (tm y) (n+1) (c+1)=x*cv (tm x) (tm y) n c+y*cv (tm x) (tm y) n (c+1)
 |0,_=>by
  have s:=tm_succ y n
  show ((n+1:Nat):Rat)*(0+1*tm y (n+1))=x*0+y*(0+1*tm y n)
  grind
 |c+1,h=>by
  have ih:=cv_step x y n c (by omega)
  obtain⟨d,hd⟩ : ∃d,n=c+1+d:=⟨n-(c+1),by omega⟩
  have s1:=tm_succ x c
  have s2:=tm_succ y d
  show ((n+1:Nat):Rat)*(cv (tm x) (tm y) (n+1) (c+1)+tm x (c+1)*tm y (n+1-(c+1)))=x*(cv (tm x) (tm y) n c+tm x c*tm y (n-c))+y*(cv (tm x) (tm y) n (c+1)+tm x (c+1)*tm y (n-(c+1)))
  rw[show n+1-(c+1)=d+1 by omega,show n-c=d+1 by omega,show n-(c+1)=d by omega]
  have en:((n+1:Nat):Rat)=((c+1:Nat):Rat)+((d+1:Nat):Rat):=by rw[<- castadd];congr 1;omega
  have l:((n+1:Nat):Rat)*(tm x (c+1)*tm y (d+1))=(((c+1:Nat):Rat)*tm x (c+1))*tm y (d+1)+tm x (c+1)*(((d+1:Nat):Rat)*tm y (d+1)):=by rw[en];grind
  rw[Rat.mul_add,ih,l,s1,s2];grind
theorem cv_full (x y:Rat) : ∀n,cv (tm x) (tm y) n (n+1)=tm (x+y) n
 |0=>by show 0+(1:Rat)*1=1;decide +kernel
 |n+1=>by
  have ih:=cv_full x y n
  have c1:=cv_step x y n n (Nat.le_refl n)
  have s1:=tm_succ x n
  have s:=tm_succ (x+y) n
  refine cancel_l (nsucc_ne n) ?_
  rw[s,<- ih]
  have e1:cv (tm x) (tm y) (n+1) (n+1+1)=cv (tm x) (tm y) (n+1) (n+1)+tm x (n+1)*1:=by
   show _+tm x (n+1)*tm y (n+1-(n+1))=_
   rw[Nat.sub_self];rfl
  have e2:cv (tm x) (tm y) n (n+1)=cv (tm x) (tm y) n n+tm x n*1:=by
   show _+tm x n*tm y (n-n)=_
   rw[Nat.sub_self];rfl
  rw[e1,Rat.mul_add,c1,Rat.mul_one,s1]
  have e3:(x+y)*cv (tm x) (tm y) n (n+1)=x*cv (tm x) (tm y) n (n+1)+y*cv (tm x) (tm y) n (n+1):=by grind
  rw[e3]
  have e4:x*cv (tm x) (tm y) n (n+1)=x*cv (tm x) (tm y) n n+x*tm x n:=by rw[e2];grind
  rw[e4];grind
def pe (x y:Rat) (N:Nat):Nat->Rat
 |0=>0
 |c+1=>pe x y N c+tm x c*E y (N-c)
theorem pe_step (x y:Rat) (N:Nat) : ∀c,c<=N+1->pe x y (N+1) c=pe x y N c+cv (tm x) (tm y) N c
 |0,_=>by show (0:Rat)=0+0;grind
 |c+1,h=>by
  have ih:=pe_step x y N c (by omega)
  show pe x y (N+1) c+tm x c*E y (N+1-c)=pe x y N c+tm x c*E y (N-c)+(cv (tm x) (tm y) N c+tm x c*tm y (N-c))
  rw[ih,show N+1-c=N-c+1 by omega]
  show _+tm x c*(E y (N-c)+tm y (N-c))=_
  grind
theorem pe_full (x y:Rat) : ∀N,pe x y N N=E (x+y) N
 |0=>rfl
 |N+1=>by
  have ih:=pe_full x y N
  show pe x y (N+1) (N+1)=E (x+y) N+tm (x+y) N
  rw[pe_step x y N (N+1) (Nat.le_refl _),cv_full,<- ih]
  show pe x y N N+tm x N*E y (N-N)+_=_
  rw[Nat.sub_self]
  show pe x y N N+tm x N*0+_=_
  grind
theorem pe_le {x y:Rat} (hx:0<=x) (hy:0<=y) (N:Nat) : ∀c,pe x y N c<=E x c*E y N
 |0=>by show (0:Rat)<=0*_;rw[Rat.zero_mul];exact Rat.le_refl
 |c+1=>by
  have ih:=pe_le hx hy N c
  have m:=Rat.mul_le_mul_of_nonneg_left (E_mono hy (Nat.sub_le N c)) (tm_nn hx c)
  show pe x y N c+tm x c*E y (N-c)<=(E x c+tm x c)*E y N
  grind
theorem pe_ge {x y:Rat} (hx:0<=x) (hy:0<=y) (K L:Nat) : ∀c,c<=K->E x c*E y L<=pe x y (K+L) c
 |0,_=>by show (0:Rat)*_<=0;rw[Rat.zero_mul];exact Rat.le_refl
 |c+1,h=>by
  have ih:=pe_ge hx hy K L c (by omega)
  have m:=Rat.mul_le_mul_of_nonneg_left (E_mono hy (show L<=K+L-c by omega)) (tm_nn hx c)
  show (E x c+tm x c)*E y L<=pe x y (K+L) c+tm x c*E y (K+L-c)
  grind
theorem pe_up {x y:Rat} (hx:0<=x) (hy:0<=y) (N:Nat) {c d:Nat} (h:c<=d):pe x y N c<=pe x y N d:=by
 induction d with
 |zero=>rw[show c=0 by omega];exact Rat.le_refl
 |succ d ih=>
  by_cases e:c=d+1
  ·rw[e];exact Rat.le_refl
  ·have:=ih (by omega)
   have:=Rat.mul_nonneg (tm_nn hx d) (E_nn hy (N-d))
   show pe x y N c<=pe x y N d+_
   grind
theorem E_add_le {x y:Rat} (hx:0<=x) (hy:0<=y) (N:Nat):E (x+y) N<=E x N*E y N:=by
 rw[<- pe_full];exact pe_le hx hy N N
theorem E_add_ge {x y:Rat} (hx:0<=x) (hy:0<=y) (K L:Nat):E x K*E y L<=E (x+y) (K+L):=by
 rw[<- pe_full];exact Rat.le_trans (pe_ge hx hy K L K (Nat.le_refl _)) (pe_up hx hy _ (Nat.le_add_right _ _))
theorem pow_nn {x:Rat} (hx:0<=x) : ∀n:Nat,0<=x^n
 |0=>by rw[Rat.pow_zero];decide
 |n+1=>by rw[Rat.pow_succ];exact Rat.mul_nonneg (pow_nn hx n) hx
theorem E_zero : ∀K,E 0 (K+1)=1
 |0=>by show (0:Rat)+1=1;decide +kernel
 |K+1=>by
  show E 0 (K+1)+tm 0 K*0/_=1
  rw[E_zero K,Rat.mul_zero,Rat.div_def,Rat.zero_mul,Rat.add_zero]
theorem mul_nat (j:Nat) (x:Rat):((j+1:Nat):Rat)*x=(j:Rat)*x+x:=by
 have:((j+1:Nat):Rat)=(j:Rat)+1:=castadd j 1
 rw[this];grind
theorem jx_nn {x:Rat} (hx:0<=x) (j:Nat):0<=(j:Rat)*x:=Rat.mul_nonneg (nat_nn j) hx
theorem E_pow_ge {x:Rat} (hx:0<=x) {K:Nat} (hK:0<K) : ∀j:Nat,E ((j:Rat)*x) K<=E x K^j
 |0=>by
  have:((0:Nat):Rat)=0:=rfl
  rw[this,Rat.zero_mul,Rat.pow_zero]
  obtain⟨k,rfl⟩ : ∃k,K=k+1:=⟨K-1,by omega⟩
  rw[E_zero];exact Rat.le_refl
 |j+1=>by
  have ih:=E_pow_ge hx hK j
  rw[mul_nat,Rat.pow_succ]
  exact Rat.le_trans (E_add_le (jx_nn hx j) hx K) (Rat.mul_le_mul_of_nonneg_right ih (E_nn hx K))
theorem E_pow_le {x:Rat} (hx:0<=x) (K:Nat) : ∀j:Nat,E x K^j<=E ((j:Rat)*x) (j*K+1)
 |0=>by
  have:((0:Nat):Rat)=0:=rfl
  rw[this,Rat.zero_mul,Rat.pow_zero,Nat.zero_mul,E_zero];exact Rat.le_refl
 |j+1=>by
  have ih:=E_pow_le hx K j
  rw[mul_nat,Rat.pow_succ,show (j+1)*K+1=j*K+1+K by rw[Nat.add_mul];omega]
  exact Rat.le_trans (Rat.mul_le_mul_of_nonneg_right ih (E_nn hx K)) (E_add_ge (jx_nn hx j) hx _ K)
theorem le_by {x y c:Rat} (hc:0<c) (h:x*c<=y*c):x<=y:=by
 rcases Rat.le_total (a:=x) (b:=y) with h1|h1
 ·exact h1
 ·have h2:=Rat.mul_le_mul_of_nonneg_right h1 (by grind:(0:Rat)<=c)
  have h3:(x-y)*c=0:=by grind
  rcases Rat.mul_eq_zero.1 h3 with h4|h4<;>grind
theorem tm_half {y:Rat} (hy:0<=y) {m:Nat} (h:y+y<=((m+1:Nat):Rat)):tm y (m+1)+tm y (m+1)<=tm y m:=by
 have s:=tm_succ y m
 have p:=nsucc_pos m
 refine le_by p ?_
 have n:=tm_nn hy m
 have m1:=Rat.mul_le_mul_of_nonneg_right h n
 grind
theorem E_tail {y:Rat} (hy:0<=y) {N:Nat} (h:y+y<=((N+1:Nat):Rat)) : ∀k,E y (N+k)+2*tm y (N+k)<=E y N+2*tm y N
 |0=>Rat.le_refl
 |k+1=>by
  have ih:=E_tail hy h k
  have c:((N+1:Nat):Rat)<=((N+k+1:Nat):Rat):=by exact_mod_cast (by omega:N+1<=N+k+1)
  have t:=tm_half hy (m:=N+k) (Rat.le_trans h c)
  show E y (N+k)+tm y (N+k)+2*tm y (N+k+1)<=_
  grind
theorem E_tail_le {y:Rat} (hy:0<=y) {N L:Nat} (h:y+y<=((N+1:Nat):Rat)):E y L<=E y N+2*tm y N:=by
 by_cases g:N<=L
 ·have t:=E_tail hy h (L-N)
  rw[show N+(L-N)=L by omega]at t
  have:=tm_nn hy L
  grind
 ·have:=E_mono hy (show L<=N by omega)
  have:=tm_nn hy N
  grind
theorem tm_pow2 {y:Rat} (hy:0<=y) {N:Nat} (h:y+y<=((N+1:Nat):Rat)) : ∀k,tm y (N+k)*t2 k<=tm y N
 |0=>by show tm y N*1<=tm y N;rw[Rat.mul_one];exact Rat.le_refl
 |k+1=>by
  have ih:=tm_pow2 hy h k
  have c:((N+1:Nat):Rat)<=((N+k+1:Nat):Rat):=by exact_mod_cast (by omega:N+1<=N+k+1)
  have t:=tm_half hy (m:=N+k) (Rat.le_trans h c)
  have m:=Rat.mul_le_mul_of_nonneg_right t (Rat.le_of_lt (t2_pos k))
  rw[t2_succ]
  show tm y (N+k+1)*(t2 k+t2 k)<=_
  grind
theorem denR (D:Rat):D*(D.den:Rat)=(D.num:Rat):=by
 have dn:(0:Rat)<(D.den:Rat):=by exact_mod_cast Rat.den_pos (self:=D)
 have:=(Rat.mkRat_eq_div D.num D.den).symm.trans (Rat.mkRat_self D)
 have e:=Rat.div_mul_cancel (a:=(D.num:Rat)) (b:=(D.den:Rat)) (by grind)
 rwa [this]at e
theorem le_nat (D:Rat) : ∃n:Nat,D<=(n:Rat):=by
 refine⟨D.num.natAbs,?_⟩
 have e:=denR D
 have h1:(1:Rat)<=(D.den:Rat):=by exact_mod_cast D.den_pos
 have h2:(D.num:Rat)<=((D.num.natAbs:Int):Rat):=Rat.intCast_le_intCast.2 (by omega)
 have h3:((D.num.natAbs:Int):Rat)=(D.num.natAbs:Rat):=rfl
 rw[h3]at h2
 rcases Rat.le_total (a:=D) (b:=0) with g|g
 ·exact Rat.le_trans g (nat_nn _)
 ·have:=Rat.mul_le_mul_of_nonneg_left h1 g
  grind
theorem nat_t2 (n:Nat):(n:Rat)<=t2 n:=by
 have:n<=2^n:=Nat.le_of_lt (Nat.lt_two_pow_self)
 exact_mod_cast this
theorem tm_small {y:Rat} (hy:0<=y) {e:Rat} (he:0<e) : ∃N:Nat,∀m,N<=m->y+y<=((m+1:Nat):Rat)/\2*tm y m<=e:=by
 obtain⟨n0,h0⟩:=le_nat (y+y)
 obtain⟨n1,h1⟩:=le_nat (2*tm y n0/e)
 have hn:y+y<=((n0+1:Nat):Rat):=Rat.le_trans h0 (by exact_mod_cast Nat.le_succ n0)
 refine⟨n0+n1,fun m hm=>⟨Rat.le_trans hn (by exact_mod_cast (by omega:n0+1<=m+1)),?_⟩⟩
 have t:=tm_pow2 hy hn (m-n0)
 rw[show n0+(m-n0)=m by omega]at t
 have a:(n1:Rat)<=t2 (m-n0):=Rat.le_trans (nat_t2 n1) (t2_mono (by omega))
 have b:=Rat.le_trans h1 a
 have c:=Rat.mul_le_mul_of_nonneg_right b (Rat.le_of_lt he)
 rw[Rat.div_mul_cancel (by grind)]at c
 have P:=t2_pos (m-n0)
 refine le_by P ?_
 generalize t2 (m-n0)=w at *
 grind
end Go.Ex
namespace Go.Ex
theorem castpow (z:Int) : ∀n:Nat,((z^n:Int):Rat)=(z:Rat)^n
 |0=>by rw[Int.pow_zero,Rat.pow_zero];rfl
 |n+1=>by rw[Int.pow_succ,Rat.pow_succ,Rat.intCast_mul,castpow z n]
theorem castpowN (z:Nat) : ∀n:Nat,((z^n:Nat):Rat)=(z:Rat)^n
 |0=>by rw[Nat.pow_zero,Rat.pow_zero];rfl
 |n+1=>by rw[Nat.pow_succ,Rat.pow_succ,castmul,castpowN z n]
theorem pow_plus (q:Rat) (m:Nat) : ∀n:Nat,q^(m+n)=q^m*q^n
 |0=>by rw[Nat.add_zero,Rat.pow_zero,Rat.mul_one]
 |n+1=>by rw[<- Nat.add_assoc,Rat.pow_succ,pow_plus q m n,Rat.pow_succ,Rat.mul_assoc]
theorem mul_powR (p q:Rat) : ∀n:Nat,(p*q)^n=p^n*q^n
 |0=>by rw[Rat.pow_zero,Rat.pow_zero,Rat.pow_zero];decide +kernel
 |n+1=>by rw[Rat.pow_succ,mul_powR p q n,Rat.pow_succ,Rat.pow_succ];grind
def fac:Nat->Nat
 |0=>1
 |n+1=>fac n*(n+1)
theorem fac_pos : ∀n,0<fac n
 |0=>Nat.one_pos
 |n+1=>Nat.mul_pos (fac_pos n) (Nat.succ_pos n)
theorem fac_dvd (i:Nat) : ∀d,fac i∣fac (i+d)
 |0=>Nat.dvd_refl _
 |d+1=>Nat.dvd_trans (fac_dvd i d) (Nat.dvd_mul_right _ _)
theorem fac_two : ∀s i d:Nat,i+d=s->fac i*fac d∣fac (i+d)
 |0,i,d,h=>by
  obtain⟨rfl,rfl⟩:i=0/\d=0:=by omega
  exact Nat.dvd_refl _
 |s+1,0,d,_=>by rw[Nat.zero_add];show 1*fac d∣fac d;rw[Nat.one_mul];exact Nat.dvd_refl _
 |s+1,i+1,0,_=>by rw[Nat.add_zero];show fac (i+1)*1∣_;rw[Nat.mul_one];exact Nat.dvd_refl _
 |s+1,i+1,d+1,h=>by
  have a:=fac_two s i (d+1) (by omega)
  have b:=fac_two s (i+1) d (by omega)
  have e:fac (i+1+(d+1))=fac (i+(d+1))*(i+1)+fac (i+1+d)*(d+1):=by
   rw[show i+1+(d+1)=(i+d+1)+1 by omega,show i+(d+1)=i+d+1 by omega,show i+1+d=i+d+1 by omega,<- Nat.mul_add]
   show fac (i+d+1)*(i+d+1+1)=_
   congr 1;omega
  rw[e]
  refine Nat.dvd_add ?_ ?_
  ·have:fac (i+1)*fac (d+1)=fac i*fac (d+1)*(i+1):=by show fac i*(i+1)*fac (d+1)=_;rw[Nat.mul_right_comm]
   rw[this];exact Nat.mul_dvd_mul_right a _
  ·have:fac (i+1)*fac (d+1)=fac (i+1)*fac d*(d+1):=by show fac (i+1)*(fac d*(d+1))=_;rw[Nat.mul_assoc]
   rw[this];exact Nat.mul_dvd_mul_right b _
theorem prd_one {j k:Nat} (h:k≠j):prd j [k]=(j:Int)-(k:Int):=by
 show (if k=j then prd j [] else prd j []*_)=_
 rw[if_neg h]
 show (1:Int)*_=_
 rw[Int.one_mul]
theorem prd_self (j:Nat):prd j [j]=1:=by
 show (if j=j then prd j [] else prd j []*_)=_
 rw[if_pos rfl]
 rfl
theorem prd_low (j:Nat) : ∀k,k<=j->prd j (List.range k)*(fac (j-k):Int)=(fac j:Int)
 |0,_=>by show (1:Int)*_=_;rw[Int.one_mul,Nat.sub_zero]
 |k+1,h=>by
  have ih:=prd_low j k (by omega)
  rw[List.range_succ,prd_append,prd_one (by omega)]
  obtain⟨d,hd⟩ : ∃d,j-k=d+1:=⟨j-k-1,by omega⟩
  have e:fac (j-k)=fac (j-(k+1))*(d+1):=by rw[hd,show j-(k+1)=d by omega];rfl
  rw[e]at ih
  rw[show (j:Int)-(k:Int)=((d+1:Nat):Int) by omega,<- ih,Int.natCast_mul,Int.mul_assoc,Int.mul_comm ((d+1:Nat):Int)]
theorem prd_high (j:Nat) : ∀d,∃s:Int,(s=1\/s = -1)/\prd j (List.range (j+1+d))=s*((fac j*fac d:Nat):Int)
 |0=>by
  have l:=prd_low j j (Nat.le_refl j)
  rw[Nat.sub_self]at l
  refine⟨1,.inl rfl,?_⟩
  rw[Nat.add_zero,List.range_succ,prd_append,prd_self,Int.natCast_mul,<- l,Int.one_mul,Int.mul_one]
  show _=prd j (List.range j)*((1:Nat):Int)*((1:Nat):Int)
  omega
 |d+1=>by
  obtain⟨s,hs,e⟩:=prd_high j d
  refine⟨-s,by omega,?_⟩
  rw[<- Nat.add_assoc,List.range_succ,prd_append,prd_one (by omega),e,show (j:Int)-((j+1+d:Nat):Int) = -((d+1:Nat):Int) by omega]
  have:fac j*fac (d+1)=fac j*fac d*(d+1):=by show fac j*(fac d*(d+1))=_;rw[Nat.mul_assoc]
  rw[this,Int.natCast_mul (fac j*fac d),Int.neg_mul,Int.mul_neg,Int.mul_assoc]
theorem fac_F64:((fac 256:Nat):Int)=F64:=by decide +kernel
theorem prd_dvd {j:Nat} (hj:j<257):prd j (List.range 257)∣F64:=by
 obtain⟨s,hs,e⟩:=prd_high j (256-j)
 rw[show j+1+(256-j)=257 by omega]at e
 have d:=fac_two 256 j (256-j) (by omega)
 rw[show j+(256-j)=256 by omega]at d
 have d2:((fac j*fac (256-j):Nat):Int)∣F64:=by rw[<- fac_F64];exact Int.natCast_dvd_natCast.2 d
 rw[e]
 rcases hs with rfl|rfl
 ·rw[Int.one_mul];exact d2
 ·rw[Int.neg_mul,Int.one_mul];exact Int.neg_dvd.2 d2
theorem coef_int {j n i:Nat} (hj:j<257):isI (coef j (nds n) i*((F64:Rat)^n*(L64:Rat)^n)):=by
 unfold coef
 rw[nds_cnt hj]
 split
 ·rename_i h
  have s:=ser_int (A:=L64) j (nds n) (fun t ht hne=>sub_dvd hj (nds_lt n t ht) hne) (n-1-i)
  rw[prd_nds,castpow]at s
  obtain⟨z,hz⟩:=prd_dvd hj
  rw[hz,Rat.intCast_mul,mul_powR,show n=(n-1-i)+(i+1) by omega,pow_plus (L64:Rat)]
  have e:=isI_mul s (isI_mul (isI_pow (isI_int z) n) (isI_pow (isI_int L64) (i+1)))
  rw[show n-1-i+(i+1)=n by omega]
  obtain⟨w,hw⟩:=e
  refine⟨w,?_⟩
  rw[<- hw];grind
 ·rw[Rat.zero_mul];exact isI_zero
theorem tm_fac (x:Rat) : ∀m,tm x m*(fac m:Rat)=x^m
 |0=>by rw[Rat.pow_zero];show (1:Rat)*((1:Nat):Rat)=1;decide +kernel
 |m+1=>by
  have s:=tm_succ x m
  show tm x (m+1)*((fac m*(m+1):Nat):Rat)=_
  rw[castmul,Rat.pow_succ,<- tm_fac x m]
  have:tm x (m+1)*((fac m:Rat)*((m+1:Nat):Rat))=(((m+1:Nat):Rat)*tm x (m+1))*(fac m:Rat):=by grind
  rw[this,s];grind
theorem tm_int {x:Rat} {a b:Nat} (hx:x*(b:Rat)=(a:Rat)) {i n:Nat} (h:i<=n):isI (tm x i*((b:Rat)^n*(fac n:Rat))):=by
 obtain⟨d,rfl⟩ : ∃d,n=i+d:=⟨n-i,by omega⟩
 obtain⟨q,hq⟩:=fac_dvd i d
 rw[hq,castmul,pow_plus]
 have t:=tm_fac x i
 have e:tm x i*((b:Rat)^i*(b:Rat)^d*((fac i:Rat)*(q:Rat)))=(x*(b:Rat))^i*((b:Rat)^d*(q:Rat)):=by
  rw[mul_powR,<- t];grind
 rw[e,hx]
 exact isI_mul (isI_pow (isI_nat a) i) (isI_mul (isI_pow (isI_nat b) d) (isI_nat q))
theorem al_int {al:Rat} {u v:Nat} (h:al*(v:Rat)=(u:Rat)) {j J:Nat} (hj:j<=J):isI (al^j*(v:Rat)^J):=by
 obtain⟨d,rfl⟩ : ∃d,J=j+d:=⟨J-j,by omega⟩
 rw[pow_plus]
 have e:al^j*((v:Rat)^j*(v:Rat)^d)=(al*(v:Rat))^j*(v:Rat)^d:=by rw[mul_powR];grind
 rw[e,h]
 exact isI_mul (isI_pow (isI_nat u) j) (isI_pow (isI_nat v) d)
theorem lv1_int {a:Nat->Rat} {x y C T V:Rat} (hC : ∀i,isI (a i*C)) : ∀c,(∀i,i<c->isI (tm x i*T))->isI (y*V)->isI (lv1 a x (fun _=>y) c*(C*T*V))
 |0,_,_=>by show isI (0*_);rw[Rat.zero_mul];exact isI_zero
 |c+1,hT,hV=>by
  have ih:=lv1_int (x:=x) hC c (fun i hi=>hT i (by omega)) hV
  have t:=isI_mul (isI_mul (hC c) (hT c (by omega))) hV
  have e:lv1 a x (fun _=>y) (c+1)*(C*T*V)=lv1 a x (fun _=>y) c*(C*T*V)+a c*C*(tm x c*T)*(y*V):=by
   show (lv1 a x (fun _=>y) c+a c*tm x c*y)*(C*T*V)=_
   grind
  rw[e];exact isI_add ih t
theorem LV_int {n:Nat} {x al T V:Rat} (hT : ∀i,i<n->isI (tm x i*T)) : ∀J,J<=257->(∀j,j<J->isI (al^j*V))->isI (LV (nds n) x (fun j _=>al^j) J*((F64:Rat)^n*(L64:Rat)^n*T*V))
 |0,_,_=>by show isI (0*_);rw[Rat.zero_mul];exact isI_zero
 |J+1,hJ,hV=>by
  have ih:=LV_int (al:=al) hT J (by omega) (fun j hj=>hV j (by omega))
  have t:=lv1_int (a:=coef J (nds n)) (x:=x) (y:=al^J) (C:=(F64:Rat)^n*(L64:Rat)^n) (T:=T) (V:=V) (fun i=>coef_int (by omega)) n hT (hV J (by omega))
  have e:LV (nds n) x (fun j _=>al^j) (J+1)=LV (nds n) x (fun j _=>al^j) J+lv1 (coef J (nds n)) x (fun _=>al^J) n:=by
   show _+lv1 _ x _ ((nds n).count J)=_
   rw[nds_cnt (by omega)]
  rw[e,Rat.add_mul]
  exact isI_add ih t
theorem Rn_nn {M:List Nat} {x:Rat} (hx:0<=x) : ∀K,0<=Rn M x K
 |0=>Rat.le_refl
 |K+1=>by
  have:=Rn_nn (M:=M) hx K
  have:=Rat.mul_nonneg (nat_nn (Hn M K)) (tm_nn hx K)
  show 0<=Rn M x K+_
  grind
theorem Rn_ge {M:List Nat} {x:Rat} {N:Nat} (hx:0<=x) (hN:N+1=M.length) : ∀K,N<K->tm x N<=Rn M x K
 |K+1,h=>by
  show tm x N<=Rn M x K+(Hn M K:Rat)*tm x K
  by_cases e:N=K
  ·subst e
   rw[Hn_first M N hN]
   have:=Rn_nn (M:=M) hx N
   have h1:((1:Nat):Rat)=1:=rfl
   rw[h1];grind
  ·have ih:=Rn_ge hx hN K (by omega)
   have:=Rat.mul_nonneg (nat_nn (Hn M K)) (tm_nn hx K)
   grind
theorem Rn_le {M:List Nat} {x:Rat} {N c:Nat} (hx:0<=x) (hN:N+1=M.length) (hM : ∀t∈M,t<=c) : ∀K,Rn M x K<=tm x N*E ((c:Rat)*x) (K-N)
 |0=>by
  show (0:Rat)<=tm x N*E _ (0-N)
  exact Rat.mul_nonneg (tm_nn hx N) (E_nn (jx_nn hx c) _)
 |K+1=>by
  have ih:=Rn_le hx hN hM K
  show Rn M x K+(Hn M K:Rat)*tm x K<=_
  by_cases h:N<=K
  ·rw[show K+1-N=K-N+1 by omega]
   show _<=tm x N*(E ((c:Rat)*x) (K-N)+tm ((c:Rat)*x) (K-N))
   have b:=bw_tm (c:Rat) x h
   have hl:=Hn_le M K hM (by omega)
   rw[show M.length-1=N by omega]at hl
   have hr:(Hn M K:Rat)<=bw (c:Rat) K N:=by
    have:((Hn M K:Nat):Rat)<=((bin K N*c^(K-N):Nat):Rat):=by exact_mod_cast hl
    rw[castmul,castpowN]at this
    exact this
   have m:=Rat.mul_le_mul_of_nonneg_right hr (tm_nn hx K)
   rw[b]at m
   grind
  ·rw[Hn_small M K (by omega),show K+1-N=K-N by omega]
   have:((0:Nat):Rat)=0:=rfl
   rw[this,Rat.zero_mul,Rat.add_zero];exact ih
theorem bern (N:Nat) : ∀k,k<=N+1->(N+1-k)*(N+1)^k<=(N+1)*N^k
 |0,_=>by rw[Nat.pow_zero,Nat.pow_zero,Nat.sub_zero];exact Nat.le_refl _
 |k+1,h=>by
  have ih:=bern N k (by omega)
  obtain⟨d,hd⟩ : ∃d,N=k+d:=⟨N-k,by omega⟩
  have m:=Nat.mul_le_mul_right N ih
  rw[Nat.pow_succ,Nat.pow_succ,show N+1-(k+1)=d by omega]
  rw[show N+1-k=d+1 by omega]at m
  refine Nat.le_trans ?_ (Nat.le_trans m (by rw[Nat.mul_assoc];exact Nat.le_refl _))
  have e1:d*((N+1)^k*(N+1))=d*(N+1)*(N+1)^k:=by rw[Nat.mul_comm ((N+1)^k),Nat.mul_assoc]
  have e2:(d+1)*(N+1)^k*N=(d+1)*N*(N+1)^k:=by rw[Nat.mul_assoc,Nat.mul_comm ((N+1)^k),Nat.mul_assoc]
  rw[e1,e2]
  refine Nat.mul_le_mul_right _ ?_
  rw[Nat.mul_add,Nat.add_mul,Nat.mul_one,Nat.one_mul];omega
theorem four (N:Nat):(N+1)^N<=4*N^N:=by
 have key : ∀k,2*k<=N+1->(N+1)^k<=2*N^k:=by
  intro k hk
  have b:=bern N k (by omega)
  have m:=Nat.mul_le_mul_right ((N+1)^k) (show N+1<=2*(N+1-k) by omega)
  have:(N+1)*(N+1)^k<=(N+1)*(2*N^k):=by
   refine Nat.le_trans m ?_
   rw[Nat.mul_assoc 2,Nat.mul_left_comm (N+1) 2]
   exact Nat.mul_le_mul_left 2 b
  exact Nat.le_of_mul_le_mul_left this (Nat.succ_pos N)
 have sq : ∀k,2*k<=N+1->(N+1)^(2*k)<=4*N^(2*k):=by
  intro k hk
  have h:=key k hk
  have m:=Nat.mul_le_mul h h
  rw[show 2*k=k+k by omega,Nat.pow_add,Nat.pow_add]
  refine Nat.le_trans m ?_
  have:2*N^k*(2*N^k)=4*(N^k*N^k):=by rw[Nat.mul_mul_mul_comm]
  rw[this];exact Nat.le_refl _
 by_cases h:N%2=0
 ·have:=sq (N/2) (by omega)
  rwa [show 2*(N/2)=N by omega]at this
 ·have:=sq ((N+1)/2) (by omega)
  rw[show 2*((N+1)/2)=N+1 by omega,Nat.pow_succ,Nat.pow_succ]at this
  have h2:(N+1)^N*(N+1)<=4*N^N*(N+1):=by
   refine Nat.le_trans this ?_
   rw[<- Nat.mul_assoc]
   exact Nat.mul_le_mul_left _ (Nat.le_succ N)
  exact Nat.le_of_mul_le_mul_right h2 (Nat.succ_pos N)
theorem fac_low : ∀N,N^N<=4^N*fac N
 |0=>Nat.le_refl _
 |N+1=>by
  have ih:=fac_low N
  have f:=four N
  show (N+1)^N*(N+1)<=4^N*4*(fac N*(N+1))
  have e:4^N*4*(fac N*(N+1))=4*(4^N*fac N)*(N+1):=by
   rw[Nat.mul_comm (4^N) 4,Nat.mul_assoc 4,Nat.mul_assoc 4,Nat.mul_assoc (4^N)]
  rw[e]
  exact Nat.mul_le_mul_right _ (Nat.le_trans f (Nat.mul_le_mul_left 4 ih))
theorem fac_up : ∀N,fac N<=N^N
 |0=>Nat.le_refl _
 |N+1=>by
  show fac N*(N+1)<=(N+1)^N*(N+1)
  exact Nat.mul_le_mul_right _ (Nat.le_trans (fac_up N) (Nat.pow_le_pow_left (Nat.le_succ N) N))
end Go.Ex
namespace Go.Ex
theorem castle {a b:Nat} (h:a<=b):(a:Rat)<=(b:Rat):=by exact_mod_cast h
theorem castlt {a b:Nat} (h:a<b):(a:Rat)<(b:Rat):=by exact_mod_cast h
theorem big_fac {n N b v r m sF sv:Nat} (hn:n=2048) (hN:N=526335) (hr:r=26625) (hm:m=256) (hsF:sF=1684) (hsv:sv=520) (hb:b<=2^512) (hv:v<=2^sv) (F L:Nat) (hF:F<=2^sF) (hL:L<=2^364) :
  F^n*L^n*(b^n*fac n)*v^m*64^N*2^r<fac N:=by
 have h1:F^n<=2^(sF*n):=by rw[Nat.pow_mul];exact Nat.pow_le_pow_left hF n
 have h2:L^n<=2^(364*n):=by rw[Nat.pow_mul];exact Nat.pow_le_pow_left hL n
 have h3:b^n<=2^(512*n):=by rw[Nat.pow_mul];exact Nat.pow_le_pow_left hb n
 have h4:fac n<=2^(11*n):=by
  refine Nat.le_trans (fac_up n) ?_
  rw[Nat.pow_mul]
  exact Nat.pow_le_pow_left (by omega) n
 have h5:v^m<=2^(sv*m):=by rw[Nat.pow_mul];exact Nat.pow_le_pow_left hv m
 have h6:64^N<=2^(6*N):=by rw[Nat.pow_mul];exact Nat.le_refl _
 have h7:2^(17*N)<=fac N:=by
  have a:2^(19*N)<=N^N:=by rw[Nat.pow_mul];exact Nat.pow_le_pow_left (by omega) N
  have c:(4:Nat)^N=2^(2*N):=by rw[Nat.pow_mul]
  have d:=Nat.le_trans a (fac_low N)
  rw[c,show 19*N=2*N+17*N by omega,Nat.pow_add]at d
  exact Nat.le_of_mul_le_mul_left d (Nat.pow_pos (by omega))
 refine Nat.lt_of_lt_of_le (Nat.lt_of_le_of_lt (Nat.mul_le_mul (Nat.mul_le_mul (Nat.mul_le_mul (Nat.mul_le_mul (Nat.mul_le_mul h1 h2) (Nat.mul_le_mul h3 h4)) h5) h6) (Nat.le_refl (2^r))) ?_) h7
 rw[<- Nat.pow_add,<- Nat.pow_add,<- Nat.pow_add,<- Nat.pow_add,<- Nat.pow_add,<- Nat.pow_add]
 have e1:sF*n=1684*n:=by rw[hsF]
 have e2:sv*m=133120:=by rw[hsv,hm]
 exact Nat.pow_lt_pow_right (by omega) (by omega)
theorem small_fac {n N b W r:Nat} (hn:n=2048) (hN:N=526335) (hr:r=26635) (hb:b<=2^512) (hW:281000000<=W) :
  257*n*2^(258*n)*2^(6*n)*2^r*fac N*b^N<=2^W:=by
 have h1:257*n<=2^20:=by omega
 have h3:b^N<=2^(512*N):=by rw[Nat.pow_mul];exact Nat.pow_le_pow_left hb N
 have h4:fac N<=2^(20*N):=by
  refine Nat.le_trans (fac_up N) ?_
  rw[Nat.pow_mul]
  exact Nat.pow_le_pow_left (by omega) N
 refine Nat.le_trans (Nat.mul_le_mul (Nat.mul_le_mul (Nat.mul_le_mul (Nat.mul_le_mul (Nat.mul_le_mul h1 (Nat.le_refl _)) (Nat.le_refl _)) (Nat.le_refl _)) h4) h3) ?_
 rw[<- Nat.pow_add,<- Nat.pow_add,<- Nat.pow_add,<- Nat.pow_add,<- Nat.pow_add]
 exact Nat.pow_le_pow_right (by omega) (by omega)
theorem tm_mono {x y:Rat} (hx:0<=x) (h:x<=y) : ∀m,tm x m<=tm y m
 |0=>Rat.le_refl
 |m+1=>by
  refine le_by (nsucc_pos m) ?_
  have s1:=tm_succ x m
  have s2:=tm_succ y m
  have ih:=tm_mono hx h m
  have m1:=Rat.mul_le_mul_of_nonneg_right h (tm_nn hx m)
  have m2:=Rat.mul_le_mul_of_nonneg_left ih (show 0<=y by grind)
  rw[Rat.mul_comm (tm x (m+1)),s1,Rat.mul_comm (tm y (m+1)),s2]
  exact Rat.le_trans m1 m2
theorem tm_64 {x:Rat} (hx:0<=x) (h:x<=64) : ∀i,tm x i<=t2 (6*i)
 |0=>Rat.le_refl
 |i+1=>by
  refine le_by (nsucc_pos i) ?_
  have s:=tm_succ x i
  have ih:=tm_64 hx h i
  have m1:=Rat.mul_le_mul_of_nonneg_right h (tm_nn hx i)
  have e:t2 (6*(i+1))=64*t2 (6*i):=by
   rw[show 6*(i+1)=6+6*i by omega,t2_add];rfl
  have c:(1:Rat)<=((i+1:Nat):Rat):=castle (show 1<=i+1 by omega)
  have P:=Rat.le_of_lt (t2_pos (6*(i+1)))
  have m2:=Rat.mul_le_mul_of_nonneg_left c P
  rw[Rat.mul_comm (tm x (i+1)),s]
  rw[e]at m2 ⊢
  generalize t2 (6*i)=w at *
  grind
theorem pow_diff {e al B d:Rat} (he:0<=e) (hal:0<=al) (h1:e<=B) (h2:al<=B) (hB:1<=B) (hd:Bdd (e-al) d) : ∀j:Nat,Bdd (e^j-al^j) ((j:Rat)*(B^j*d))/\Bdd (e^j) (B^j)/\Bdd (al^j) (B^j)
 |0=>by
  rw[Rat.pow_zero,Rat.pow_zero,Rat.pow_zero]
  have:((0:Nat):Rat)=0:=rfl
  rw[this]
  refine⟨⟨by grind,by grind⟩,⟨by decide,Rat.le_refl⟩,⟨by decide,Rat.le_refl⟩⟩
 |j+1=>by
  obtain⟨ih,b1,b2⟩:=pow_diff he hal h1 h2 hB hd j
  have c1:Bdd e B:=⟨by grind,h1⟩
  have c2:Bdd al B:=⟨by grind,h2⟩
  rw[Rat.pow_succ,Rat.pow_succ,Rat.pow_succ]
  refine⟨?_,Bdd_mul b1 c1,Bdd_mul b2 c2⟩
  have m1:=Bdd_mul b1 hd
  have m2:=Bdd_mul ih c2
  have s:=Bdd_add m1 m2
  have nd:=Bdd_nn hd
  have nB:=Bdd_nn b1
  have k:=Rat.mul_le_mul_of_nonneg_left hB (Rat.mul_nonneg nB nd)
  have ej:((j+1:Nat):Rat)=(j:Rat)+1:=castadd j 1
  have e1:e^j*e-al^j*al=e^j*(e-al)+(e^j-al^j)*al:=by grind
  rw[e1,ej]
  refine Bdd_mono s ?_
  generalize B^j=P at *
  grind
theorem pow_t2 (k:Nat) : ∀j:Nat,t2 k^j=t2 (k*j)
 |0=>by rw[Rat.pow_zero,Nat.mul_zero];rfl
 |j+1=>by rw[Rat.pow_succ,pow_t2 k j,Nat.mul_succ,t2_add]
end Go.Ex
namespace Go.Ex
theorem mul_div4 {a b:Rat} (hb:0<b):b*(a/b)=a:=mul_div b a (by grind)
theorem exp_far {a b u v W:Nat} {x al:Rat} (hW:281000000<=W) (ha:0<a) (hb:0<b) (hb2:b<=2^512) (hx:x*(b:Rat)=(a:Rat)) (hx2:x<=64) {sv:Nat} (hsv:sv=520) (hv:0<v) (hv2:v<=2^sv) (hal:al*(v:Rat)=(u:Rat)) (ha0:0<al) (ha2:al<=t2 103) :
  ∃K0:Nat,∀K,K0<=K -> ¬Bdd ((E x K-al)*t2 W) 1:=by
 obtain⟨n,hn⟩ : ∃n:Nat,n=2048:=⟨_,rfl⟩
 obtain⟨N,hN⟩ : ∃N:Nat,N=526335:=⟨_,rfl⟩
 obtain⟨q,hq⟩ : ∃q:Nat,q=26624:=⟨_,rfl⟩
 obtain⟨sF,hsF⟩ : ∃q:Nat,q=1684:=⟨_,rfl⟩
 have bp:(0:Rat)<(b:Rat):=castlt hb
 have vp:(0:Rat)<(v:Rat):=castlt hv
 have hx0:0<x:=by
  rcases Rat.le_total (a:=x) (b:=0) with h|h
  ·have m:=Rat.mul_le_mul_of_nonneg_right h (Rat.le_of_lt bp)
   rw[hx,Rat.zero_mul]at m
   have:(0:Rat)<(a:Rat):=castlt ha
   grind
  ·by_cases e:x=0
   ·subst e
    rw[Rat.zero_mul]at hx
    have:(0:Rat)<(a:Rat):=castlt ha
    grind
   ·grind
 have hx0':=Rat.le_of_lt hx0
 have T0:=tm_pos hx0 N
 -- how small the rest must be
 obtain⟨C,hC⟩ : ∃C:Rat,C=((257:Nat):Rat)*((n:Rat)*(t2 (258*n)*t2 (6*n))):=⟨_,rfl⟩
 have Cp:0<C:=by
  rw[hC]
  exact Rat.mul_pos (castlt (a:=0) (b:=257) (by omega)) (Rat.mul_pos (castlt (a:=0) (b:=n) (by omega)) (Rat.mul_pos (t2_pos _) (t2_pos _)))
 obtain⟨eta,heta⟩ : ∃e:Rat,e=tm x N/(4*C):=⟨_,rfl⟩
 have C4:0<4*C:=Rat.mul_pos (by decide) Cp
 have etaC:4*C*eta=tm x N:=by rw[heta];exact mul_div4 C4
 have etap:0<eta:=by
  rw[heta,Rat.div_def];exact Rat.mul_pos T0 (Rat.inv_pos.2 C4)
 obtain⟨N2,hN2⟩:=tm_small (y:=((256:Nat):Rat)*x) (jx_nn hx0' 256) etap
 refine⟨N2+n+N+1,fun K hK hB => ?_⟩
 obtain⟨e,he⟩ : ∃e:Rat,e=E x K:=⟨_,rfl⟩
 rw[<- he]at hB
 have e0:0<=e:=by rw[he];exact E_nn hx0' K
 -- the distance
 obtain⟨d,hd⟩ : ∃d:Rat,d=1/t2 W:=⟨_,rfl⟩
 have Wp:=t2_pos W
 have dW:t2 W*d=1:=by rw[hd];exact mul_div4 Wp
 have d0:0<d:=by
  rw[hd,Rat.div_def,Rat.one_mul];exact Rat.inv_pos.2 Wp
 have hd2:Bdd (e-al) d:=by
  obtain⟨b1,b2⟩:=hB
  constructor
  ·refine le_by Wp ?_
   rw[show -d*t2 W = -(t2 W*d) by grind,dW];exact b1
  ·refine le_by Wp ?_
   rw[show d*t2 W=t2 W*d by grind,dW];exact b2
 have d1:d<=1:=by
  refine le_by Wp ?_
  rw[show d*t2 W=t2 W*d by grind,dW,Rat.one_mul]
  exact castle (Nat.pow_pos (by omega))
 have B1:(1:Rat)<=t2 104:=by decide +kernel
 have eB:e<=t2 104:=by
  have:t2 104=t2 103+t2 103:=t2_succ 103
  have h1:(1:Rat)<=t2 103:=by decide +kernel
  obtain⟨b1,b2⟩:=hd2
  rw[this];grind
 have alB:al<=t2 104:=Rat.le_trans ha2 (t2_mono (by omega))
 have pd:=pow_diff e0 (Rat.le_of_lt ha0) eB alB B1 hd2
 obtain⟨Bq,hBq⟩ : ∃q:Rat,q=t2 104:=⟨_,rfl⟩
 rw[<- hBq]at pd B1 eB alB
 have Bmono : ∀j:Nat,j<=256->Bq^j<=t2 q:=by
  intro j hj
  rw[hBq,pow_t2]
  exact t2_mono (by omega)
 -- the two forms
 have hM:=nds_lt n
 have req:=Rn_eq hM x K
 obtain⟨R,hR⟩ : ∃R,R=Rn (nds n) x K:=⟨_,rfl⟩
 obtain⟨Q,hQ⟩ : ∃Q,Q=LV (nds n) x (fun j _=>al^j) 257:=⟨_,rfl⟩
 have hl:N+1=(nds n).length:=by rw[nds_len];omega
 have Rge:tm x N<=R:=by rw[hR];exact Rn_ge hx0' hl K (by omega)
 have Rle:R<=tm x N*t2 q:=by
  rw[hR]
  refine Rat.le_trans (Rn_le (c:=256) hx0' hl (fun t ht=>by have:=hM t ht;omega) K) ?_
  refine Rat.mul_le_mul_of_nonneg_left ?_ (Rat.le_of_lt T0)
  refine Rat.le_trans (E_mono (jx_nn hx0' 256) (Nat.sub_le K N)) ?_
  refine Rat.le_trans (E_pow_ge hx0' (by omega) 256) ?_
  rw[<- he]
  exact Rat.le_trans (pd 256).2.1.2 (Bmono 256 (by omega))
 have err : ∀j i:Nat,j<257->i<n->Bdd (E ((j:Rat)*x) (K-i)-al^j) (eta+256*(t2 q*d)):=by
  intro j i hj hi
  have j64:((j:Nat):Rat)*x<=((256:Nat):Rat)*x:=Rat.mul_le_mul_of_nonneg_right (castle (by omega)) hx0'
  obtain⟨g1,g2⟩:=hN2 (K-i) (by omega)
  have up:=E_tail_le (L:=j*K+1) (jx_nn hx0' j) (N:=K-i) (by
   refine Rat.le_trans ?_ g1
   grind)
  have g3:=tm_mono (jx_nn hx0' j) j64 (K-i)
  have lo:=Rat.le_trans (E_mono (jx_nn hx0' j) (Nat.sub_le K i)) (E_pow_ge hx0' (show 0<K by omega) j)
  have hi2:=Rat.le_trans (E_pow_le hx0' K j) up
  rw[<- he]at lo hi2
  have b1:Bdd (E ((j:Rat)*x) (K-i)-e^j) eta:=by
   constructor<;>grind
  have b2:=(pd j).1
  have b3:Bdd (e^j-al^j) (256*(t2 q*d)):=by
   refine Bdd_mono b2 ?_
   have m1:=Rat.mul_le_mul_of_nonneg_right (Bmono j (by omega)) (Rat.le_of_lt d0)
   have m2:(j:Rat)<=256:=castle (show j<=256 by omega)
   have n1:=Rat.mul_nonneg (Bdd_nn (pd j).2.1) (Rat.le_of_lt d0)
   have m3:=Rat.mul_le_mul_of_nonneg_right m2 n1
   have m4:=Rat.mul_le_mul_of_nonneg_left m1 (show (0:Rat)<=256 by decide)
   exact Rat.le_trans m3 m4
  have s:=Bdd_add b1 b2
  have s:=Bdd_add b1 b3
  have e1:E ((j:Rat)*x) (K-i)-al^j=E ((j:Rat)*x) (K-i)-e^j+(e^j-al^j):=by grind
  rw[e1];exact s
 have df:=LV_diff (M:=nds n) (x:=x) (A:=t2 (258*n)) (T:=t2 (6*n)) (n:=n) hx0' 257 (fun j hj=>⟨nds_cnt hj n,fun i=>Bdd_mono (coef_bd j (nds n) i) (t2_mono (by rw[nds_len,nds_cnt hj];omega))⟩)
  (fun i hi=>Rat.le_trans (tm_64 hx0' hx2 i) (t2_mono (by omega))) err
 rw[req,<- hR,<- hQ]at df
 have eC:((257:Nat):Rat)*((n:Rat)*(t2 (258*n)*t2 (6*n)*(eta+256*(t2 q*d))))=C*eta+C*(256*(t2 q*d)):=by rw[hC];grind
 rw[eC]at df
 -- the distance's part is small as well
 have sm:4*(C*(256*(t2 q*d)))<=tm x N:=by
  have s:=castle (small_fac (b:=b) (r:=q+11) hn hN (by omega) hb2 hW)
  have tf:=tm_fac x N
  have xb:x^N*(b:Rat)^N=(a:Rat)^N:=by rw[<- mul_powR,hx]
  have aN:(1:Rat)<=(a:Rat)^N:=by rw[<- castpowN];exact castle (Nat.pow_pos ha)
  have bN:(0:Rat)<(b:Rat)^N:=by rw[<- castpowN];exact castlt (Nat.pow_pos hb)
  have fN:(0:Rat)<(fac N:Rat):=castlt (fac_pos N)
  have P:0<t2 W*((fac N:Rat)*(b:Rat)^N):=Rat.mul_pos Wp (Rat.mul_pos fN bN)
  refine le_by P ?_
  have l:4*(C*(256*(t2 q*d)))*(t2 W*((fac N:Rat)*(b:Rat)^N))=4*(C*(256*t2 q))*((fac N:Rat)*(b:Rat)^N)*(t2 W*d):=by grind
  have r:tm x N*(t2 W*((fac N:Rat)*(b:Rat)^N))=t2 W*(tm x N*(fac N:Rat)*(b:Rat)^N):=by grind
  rw[l,r,dW,tf,xb,Rat.mul_one]
  have c1:((257*n*2^(258*n)*2^(6*n)*2^(q+11)*fac N*b^N:Nat):Rat)=4*(C*(256*t2 q))*((fac N:Rat)*(b:Rat)^N)*2:=by
   rw[castmul,castmul,castmul,castmul,castmul,castmul,castpowN b,hC]
   have p:((2^(q+11):Nat):Rat)=t2 q*2048:=t2_add q 11
   rw[p]
   generalize t2 q=q'
   grind
  rw[c1]at s
  have nn:0<=4*(C*(256*t2 q))*((fac N:Rat)*(b:Rat)^N):=Rat.mul_nonneg (Rat.mul_nonneg (by decide) (Rat.mul_nonneg (Rat.le_of_lt Cp) (Rat.mul_nonneg (by decide) (Rat.le_of_lt (t2_pos _))))) (Rat.mul_nonneg (Rat.le_of_lt fN) (Rat.le_of_lt bN))
  have m:=Rat.mul_le_mul_of_nonneg_left aN (Rat.le_of_lt Wp)
  have s':4*(C*(256*t2 q))*((fac N:Rat)*(b:Rat)^N)*2<=t2 W:=s
  generalize 4*(C*(256*t2 q))*((fac N:Rat)*(b:Rat)^N)=z at *
  grind
 have ec:4*(C*eta)=tm x N:=by rw[<- etaC];grind
 obtain⟨f1,f2⟩:=df
 have Qpos:0<Q:=by
  generalize C*eta=y1 at *
  generalize C*(256*(t2 q*d))=y2 at *
  clear Rle pd err
  grind
 have one:(1:Rat)<=t2 q:=by rw[show (1:Rat)=t2 0 from rfl];exact t2_mono (by omega)
 have Qle:Q<=tm x N*t2 (q+1):=by
  have e2:t2 (q+1)=t2 q+t2 q:=t2_succ q
  have m:=Rat.mul_le_mul_of_nonneg_left one (Rat.le_of_lt T0)
  rw[e2,Rat.mul_add]
  generalize tm x N*t2 q=y0 at *
  generalize C*eta=y1 at *
  generalize C*(256*(t2 q*d))=y2 at *
  clear pd err
  grind
 -- it is a whole number by a denominator
 obtain⟨D,hD⟩ : ∃D:Rat,D=(F64:Rat)^n*(L64:Rat)^n*((b:Rat)^n*(fac n:Rat))*(v:Rat)^256:=⟨_,rfl⟩
 have qi:isI (Q*D):=by
  rw[hQ,hD]
  exact LV_int (fun i hi=>tm_int hx (by omega)) 257 (Nat.le_refl _) (fun j hj=>al_int hal (by omega))
 obtain⟨F,hF⟩ : ∃F:Nat,F64=(F:Int):=⟨F64.natAbs,by decide +kernel⟩
 obtain⟨L,hL⟩ : ∃L:Nat,L64=(L:Int):=⟨L64.natAbs,by decide +kernel⟩
 obtain⟨sL,hsL⟩ : ∃q:Nat,q=364:=⟨_,rfl⟩
 have hF2:F<=2^sF/\0<F/\L<=2^sL/\0<L:=by
  have h:=F64_le
  rw[hF,hL,<- hsF,<- hsL]at h
  exact⟨by exact_mod_cast h.1,by exact_mod_cast h.2.1,by exact_mod_cast h.2.2.1,by exact_mod_cast h.2.2.2⟩
 have bf:=big_fac (b:=b) (v:=v) (r:=q+1) (m:=256) hn hN (by omega) rfl hsF hsv hb2 hv2 F L hF2.1 (hsL▸hF2.2.2.1)
 have Dn:D=((F^n*L^n*(b^n*fac n)*v^256:Nat):Rat):=by
  rw[hD,hF,hL,castmul,castmul,castmul,castmul,castpowN,castpowN,castpowN,castpowN]
  rfl
 have Dpos:0<D:=by
  rw[Dn]
  exact castlt (Nat.mul_pos (Nat.mul_pos (Nat.mul_pos (Nat.pow_pos hF2.2.1) (Nat.pow_pos hF2.2.2.2)) (Nat.mul_pos (Nat.pow_pos hb) (fac_pos n))) (Nat.pow_pos hv))
 have lt1:Q*D<1:=by
  have fN:(0:Rat)<(fac N:Rat):=castlt (fac_pos N)
  have tf:=tm_fac x N
  have xp:x^N<=((64^N:Nat):Rat):=by
   rw[castpowN]
   have g : ∀k:Nat,x^k<=((64:Nat):Rat)^k:=by
    intro k
    induction k with
    |zero=>rw[Rat.pow_zero,Rat.pow_zero];exact Rat.le_refl
    |succ k ih=>
     rw[Rat.pow_succ,Rat.pow_succ]
     exact Rat.le_trans (Rat.mul_le_mul_of_nonneg_right ih hx0') (Rat.mul_le_mul_of_nonneg_left hx2 (pow_nn (nat_nn 64) k))
   exact g N
  have m1:=Rat.mul_le_mul_of_nonneg_right Qle (Rat.le_of_lt Dpos)
  have bf':=castlt bf
  rw[castmul,castmul,<- Dn]at bf'
  have P6:=t2_pos (q+1)
  have bf2:D*((64^N:Nat):Rat)*t2 (q+1)<(fac N:Rat):=bf'
  have m2:=Rat.mul_le_mul_of_nonneg_left xp (Rat.le_of_lt (Rat.mul_pos Dpos P6))
  refine Rat.not_le.1 fun hc => ?_
  have m3:=Rat.mul_le_mul_of_nonneg_right (Rat.le_trans hc m1) (Rat.le_of_lt fN)
  have r:tm x N*t2 (q+1)*D*(fac N:Rat)=D*t2 (q+1)*(tm x N*(fac N:Rat)):=by grind
  rw[r,tf,Rat.one_mul]at m3
  have r2:D*((64^N:Nat):Rat)*t2 (q+1)=D*t2 (q+1)*((64^N:Nat):Rat):=by grind
  rw[r2]at bf2
  exact absurd (Rat.le_trans m3 m2) (Rat.not_le.2 bf2)
 obtain⟨z,hz⟩:=qi
 have zp:0<Q*D:=Rat.mul_pos Qpos Dpos
 rw[hz]at zp lt1
 have z1:0<z:=Rat.intCast_pos.1 zp
 have z2:(1:Rat)<=(z:Rat):=Rat.intCast_le_intCast.2 (show (1:Int)<=z by omega)
 exact absurd z2 (Rat.not_le.2 lt1)
end Go.Ex
namespace Go.Proofs.YtenjdajophfpcaaGreat
open Go.Ev
def eRow (w Y:Nat):Nat->Nat->Nat->Nat->Nat->Nat->Option (Nat×Nat)
 |0,_,_,_,_,_=>none
 |f+1,n,t1,t2,a1,a2=>if t2<2 then some (a1,a2+1) else
   eRow w Y f (n+1) (t1*Y/2^w*1/n) ((t2*(Y+1)/2^w+1)*1/n+1) (a1+t1*Y/2^w*1/n) (a2+((t2*(Y+1)/2^w+1)*1/n+1))
def eInv (w n t1 t2 a1 a2:Nat):Prop:=1<=n/\t1<=t2/\t2<=t1+5/\t2<=2^w+1/\2^w<=a1/\a1<=a2/\a2<=a1+5*n/\a2+t2<=2^(w+1)+2+4*n
theorem eInv_0 (w:Nat):eInv w 1 (2^w) (2^w+1) (2^w) (2^w+1):=by
 have:2^(w+1)=2^w*2:=Nat.pow_succ _ _
 unfold eInv
 omega
theorem eStep_le {w Y n t2:Nat} (hw:64<=w) (hY:Y+1<=2^(w-7)) (hn:1<=n):(t2*(Y+1)/2^w+1)*1/n+1<=t2/128+2:=by
 have P:0<2^w:=Nat.pow_pos (by omega)
 have e:2^w=2^(w-7)*128:=by rw[show (128:Nat)=2^7 from rfl,<- Nat.pow_add];congr 1;omega
 have h1:t2*(Y+1)/2^w<=t2/128:=by
  rw[e]
  refine Nat.le_trans (Nat.div_le_div_right (Nat.mul_le_mul_left t2 hY)) ?_
  rw[Nat.mul_comm t2,Nat.mul_div_mul_left _ _ (Nat.pow_pos (by omega))]
  exact Nat.le_refl _
 rw[Nat.mul_one]
 have h2:=Nat.div_le_self (t2*(Y+1)/2^w+1) n
 omega
theorem eInv_step {w Y n t1 t2 a1 a2:Nat} (hw:64<=w) (hY:Y+1<=2^(w-7)) (h:eInv w n t1 t2 a1 a2) :
  eInv w (n+1) (t1*Y/2^w*1/n) ((t2*(Y+1)/2^w+1)*1/n+1) (a1+t1*Y/2^w*1/n) (a2+((t2*(Y+1)/2^w+1)*1/n+1)):=by
 obtain⟨h1,h2,h3,h4,h5,h6,h7,h8⟩:=h
 have up:=eStep_le (t2:=t2) hw hY h1
 have P:0<2^w:=Nat.pow_pos (by omega)
 have e:2^w=2^(w-7)*128:=by rw[show (128:Nat)=2^7 from rfl,<- Nat.pow_add];congr 1;omega
 have big:1024<=2^(w-7):=Nat.le_trans (by decide) (Nat.pow_le_pow_right (n:=2) (by omega) (show 10<=w-7 by omega))
 have q1:t2*(Y+1)/2^w<=t1*Y/2^w+2:=by
  have m1:t2*(Y+1)<=t1*Y+2^w*2:=by
   have a:=Nat.mul_le_mul_right (Y+1) h3
   have b:(t1+5)*(Y+1)=t1*Y+t1+5*(Y+1):=by rw[Nat.add_mul,Nat.mul_add,Nat.mul_one]
   omega
  have:=Nat.div_le_div_right (c:=2^w) m1
  rwa [Nat.add_mul_div_left _ _ P]at this
 have q0:t1*Y/2^w<=t2*(Y+1)/2^w:=Nat.div_le_div_right (Nat.mul_le_mul h2 (by omega))
 generalize t1*Y/2^w=x1 at *
 generalize t2*(Y+1)/2^w=x2 at *
 rw[Nat.mul_one,Nat.mul_one]at *
 have g1:x1/n<=(x2+1)/n:=Nat.div_le_div_right (by omega)
 have g2:(x2+1)/n<=x1/n+3:=by
  have a:(x2+1)/n<=(x1+3*n)/n:=Nat.div_le_div_right (by have:=Nat.le_mul_of_pos_right 3 h1;omega)
  rwa [Nat.add_mul_div_right _ _ h1]at a
 generalize x1/n=u1 at *
 generalize (x2+1)/n=u2 at *
 unfold eInv
 omega
theorem eRow_end {w Y:Nat} (hw:64<=w) (hY:Y+1<=2^(w-7)) : ∀ (m f n t1 t2 a1 a2:Nat),eInv w n t1 t2 a1 a2->t2<=2^(7*m)+3->(m=0->2<=n)->m+2<=f -> ∃A B s,eRow w Y f n t1 t2 a1 a2=some (A,B)/\n<=s/\s<=n+m+1/\2^w<=A/\A<=B/\B<=A+5*s+1/\B<=2^(w+1)+3+4*s:=by
 intro m
 induction m with
 |zero=>
  intro f n t1 t2 a1 a2 h ht hn hf
  obtain⟨f,rfl⟩ : ∃k,f=k+2:=⟨f-2,by omega⟩
  have hh:=h
  obtain⟨h1,h2,h3,h4,h5,h6,h7,h8⟩:=hh
  rw[eRow]
  by_cases g:t2<2
  ·rw[if_pos g]
   exact⟨a1,a2+1,n,rfl,Nat.le_refl _,by omega,h5,by omega,by omega,by omega⟩
  ·rw[if_neg g]
   have st:=eInv_step hw hY h
   have e:(t2*(Y+1)/2^w+1)*1/n+1=1:=by
    have P:0<2^w:=Nat.pow_pos (by omega)
    have e7:2^w=2^(w-7)*128:=by rw[show (128:Nat)=2^7 from rfl,<- Nat.pow_add];congr 1;omega
    have z:t2*(Y+1)/2^w=0:=by
     refine Nat.div_eq_of_lt ?_
     have m:=Nat.mul_le_mul (show t2<=4 by have:2^(7*0)=1:=rfl;omega) hY
     have:0<2^(w-7):=Nat.pow_pos (by omega)
     omega
    rw[z,Nat.mul_one,Nat.zero_add,Nat.div_eq_of_lt (show 1<n by have:=hn rfl;omega)]
   rw[e]at st ⊢
   rw[eRow,if_pos (by omega)]
   obtain⟨k1,k2,k3,k4,k5,k6,k7,k8⟩:=st
   exact⟨_,_,n+1,rfl,by omega,by omega,k5,by omega,by omega,by omega⟩
 |succ m ih=>
  intro f n t1 t2 a1 a2 h ht hn hf
  obtain⟨f,rfl⟩ : ∃k,f=k+1:=⟨f-1,by omega⟩
  have hh:=h
  obtain⟨h1,h2,h3,h4,h5,h6,h7,h8⟩:=hh
  rw[eRow]
  by_cases g:t2<2
  ·rw[if_pos g]
   exact⟨a1,a2+1,n,rfl,Nat.le_refl _,by omega,h5,by omega,by omega,by omega⟩
  ·rw[if_neg g]
   have st:=eInv_step hw hY h
   have up:=eStep_le (t2:=t2) hw hY h1
   have dv:t2/128<=2^(7*m):=by
    have e:2^(7*(m+1))=2^(7*m)*128:=by rw[show 7*(m+1)=7*m+7 by omega,Nat.pow_add]
    rw[e]at ht
    omega
   obtain⟨A,B,s,r1,r2,r3,r4,r5,r6,r7⟩:=ih f (n+1) _ _ _ _ st (by omega) (by omega) (by omega)
   exact⟨A,B,s,r1,by omega,by omega,r4,r5,r6,r7⟩
theorem eRow_enc {w Y:Nat} {y:Rat} (hy:Enc w Y (Y+1) y) (hy1:y+y<=1) : ∀ (f n t1 t2 a1 a2 A B:Nat),eRow w Y f (n+1) t1 t2 a1 a2=some (A,B)->Enc w t1 t2 (Ex.tm y n)->Enc w a1 a2 (Ex.E y (n+1)) -> ∃s,∀L,s<=L->Enc w A B (Ex.E y L):=by
 have y0:=enc_nonneg hy
 intro f
 induction f with
 |zero=>intro n t1 t2 a1 a2 A B h;cases h
 |succ f ih=>
  intro n t1 t2 a1 a2 A B h ht ha
  rw[eRow]at h
  by_cases g:t2<2
  ·rw[if_pos g]at h
   simp only[Option.some.injEq,Prod.mk.injEq]at h
   obtain⟨rfl,rfl⟩:=h
   refine⟨n+1,fun L hL => ?_⟩
   have P:=p2_pos w
   have mono:=Ex.E_mono y0 hL
   have c:((2:Nat):Rat)<=((n+1+1:Nat):Rat):=by exact_mod_cast (by omega:2<=n+1+1)
   have tail:=Ex.E_tail_le (L:=L) y0 (N:=n+1) (Rat.le_trans (show y+y<=((2:Nat):Rat) from Rat.le_trans hy1 (by decide)) c)
   have tn:=Ex.tm_nn y0 n
   have ts:=Ex.tm_succ y n
   have half:2*Ex.tm y (n+1)<=Ex.tm y n:=by
    have c1:((1:Nat):Rat)<=((n+1:Nat):Rat):=by exact_mod_cast (by omega:1<=n+1)
    have tn1:=Ex.tm_nn y0 (n+1)
    have m1:=Rat.mul_le_mul_of_nonneg_right c1 tn1
    have m2:=Rat.mul_le_mul_of_nonneg_right hy1 tn
    rw[ts]at m1
    have e1:((1:Nat):Rat)=1:=rfl
    rw[e1]at m1
    grind
   obtain⟨l1,l2⟩:=ha
   obtain⟨l3,l4⟩:=ht
   have t1':(t2:Rat)<=1:=by exact_mod_cast (by omega:t2<=1)
   have eb:((a2+1:Nat):Rat)=(a2:Rat)+1:=by exact_mod_cast rfl
   refine⟨Rat.le_trans l1 (Rat.mul_le_mul_of_nonneg_right mono (Rat.le_of_lt P)),?_⟩
   rw[eb]
   have m3:=Rat.mul_le_mul_of_nonneg_right (show Ex.E y L<=Ex.E y (n+1)+Ex.tm y n by grind) (Rat.le_of_lt P)
   rw[Rat.add_mul]at m3
   generalize Ex.E y L*p2 w=z1 at *
   generalize Ex.E y (n+1)*p2 w=z2 at *
   generalize Ex.tm y n*p2 w=z3 at *
   clear mono tail tn ts half
   grind
  ·rw[if_neg g]at h
   have e1:=enc_times (n:=1) (d:=n+1) (by omega) (enc_mul ht hy)
   have e2:Ex.tm y n*y*((1:Nat):Rat)/((n+1:Nat):Rat)=Ex.tm y (n+1):=by
    have:((1:Nat):Rat)=1:=rfl
    rw[this,Rat.mul_one];rfl
   rw[e2]at e1
   exact ih (n+1) _ _ _ _ A B h e1 (enc_add ha e1)
def sqs (w:Nat):Nat->Nat->Nat->Nat×Nat
 |0,lo,hi=>(lo,hi)
 |k+1,lo,hi=>sqs w k (lo*lo/2^w) (hi*hi/2^w+1)
theorem sq_step {w lo hi c G:Nat} (h1:2^w<=lo) (h2:lo<=hi) (h3:hi<2^(w+c)) (h4:hi<=lo+G) (hG:1<=G) :
  2^w<=lo*lo/2^w/\lo*lo/2^w<=hi*hi/2^w+1/\hi*hi/2^w+1<2^(w+(c+c))/\hi*hi/2^w+1<=lo*lo/2^w+G*2^(c+2):=by
 have P:0<2^w:=Nat.pow_pos (by omega)
 have Pc:0<2^c:=Nat.pow_pos (by omega)
 have e1:2^(w+c)=2^w*2^c:=Nat.pow_add _ _ _
 have e2:2^(w+(c+c))=2^w*2^c*2^c:=by rw[Nat.pow_add,Nat.pow_add,Nat.mul_assoc]
 have e3:2^(c+2)=2^c*4:=Nat.pow_add _ _ _
 refine⟨(Nat.le_div_iff_mul_le P).2 (Nat.mul_le_mul h1 h1),Nat.le_succ_of_le (Nat.div_le_div_right (Nat.mul_le_mul h2 h2)),?_,?_⟩
 ·have m:hi*hi<(2^w*2^c*2^c-1)*2^w:=by
   obtain⟨d,hd⟩ : ∃d,2^w*2^c=hi+1+d:=⟨2^w*2^c-hi-1,by omega⟩
   have a:(hi+1)*(hi+1)<=2^w*2^c*(2^w*2^c):=Nat.mul_le_mul (by omega) (by omega)
   have b:2^w*2^c*(2^w*2^c)=2^w*2^c*2^c*2^w:=by generalize 2^w=x;generalize 2^c=y;grind
   have e:(hi+1)*(hi+1)=hi*hi+2*hi+1:=by clear h1 h2 h3 h4 a;grind
   rw[e,b]at a
   rw[Nat.sub_mul,Nat.one_mul]
   have:2^w<=hi:=Nat.le_trans h1 h2
   generalize 2^w*2^c*2^c*2^w=z at *
   generalize hi*hi=y at *
   omega
  have r:=(Nat.div_lt_iff_lt_mul P).2 m
  rw[e2]
  clear m e2 e1 e3 h3 h4
  generalize hi*hi/2^w=t at *
  generalize 2^w*2^c*2^c=z at *
  omega
 ·have m:hi*hi<=lo*lo+2^w*(G*(2^c*2)):=by
   obtain⟨g,hg,hgG⟩ : ∃g,hi=lo+g/\g<=G:=⟨hi-lo,by omega,by omega⟩
   have a:hi*hi=lo*lo+g*(hi+lo):=by subst hg;clear h1 h2 h3 h4;grind
   have b:g*(hi+lo)<=G*(2^w*2^c*2):=Nat.mul_le_mul hgG (by omega)
   have e:G*(2^w*2^c*2)=2^w*(G*(2^c*2)):=by rw[Nat.mul_assoc (2^w),Nat.mul_left_comm]
   omega
  have:=Nat.div_le_div_right (c:=2^w) m
  rw[Nat.add_mul_div_left _ _ P]at this
  have k:1<=G*(2^c*2):=Nat.mul_pos hG (by omega)
  have e:G*2^(c+2)=G*(2^c*2)*2:=by rw[e3,Nat.mul_assoc,Nat.mul_assoc]
  omega
theorem sqs_ok {w:Nat} : ∀ (k lo hi c G:Nat),2^w<=lo->lo<=hi->hi<2^(w+c)->hi<=lo+G->1<=G ->
  2^w<=(sqs w k lo hi).1/\(sqs w k lo hi).1<=(sqs w k lo hi).2/\(sqs w k lo hi).2<2^(w+c*2^k)/\(sqs w k lo hi).2<=(sqs w k lo hi).1+G*2^(c*(2^k-1)+2*k)
 |0,lo,hi,c,G,h1,h2,h3,h4,h5=>by
  refine⟨h1,h2,?_,?_⟩
  ·rw[Nat.pow_zero,Nat.mul_one];exact h3
  ·show hi<=lo+G*2^(c*(2^0-1)+2*0)
   rw[Nat.pow_zero,Nat.sub_self,Nat.mul_zero,Nat.pow_zero,Nat.mul_one];exact h4
 |k+1,lo,hi,c,G,h1,h2,h3,h4,h5=>by
  obtain⟨s1,s2,s3,s4⟩:=sq_step h1 h2 h3 h4 h5
  have ih:=sqs_ok k (lo*lo/2^w) (hi*hi/2^w+1) (c+c) (G*2^(c+2)) s1 s2 s3 s4 (Nat.mul_pos h5 (Nat.pow_pos (by omega)))
  obtain⟨i1,i2,i3,i4⟩:=ih
  have p:0<2^k:=Nat.pow_pos (by omega)
  have pk:2^(k+1)=2^k*2:=Nat.pow_succ _ _
  refine⟨i1,i2,?_,?_⟩
  ·have e:(c+c)*2^k=c*2^(k+1):=by rw[pk,<- Nat.mul_two,Nat.mul_assoc,Nat.mul_comm 2]
   rw[<- e];exact i3
  ·have e:G*2^(c+2)*2^((c+c)*(2^k-1)+2*k)=G*2^(c*(2^(k+1)-1)+2*(k+1)):=by
    rw[Nat.mul_assoc,<- Nat.pow_add]
    congr 2
    obtain⟨q,hq⟩ : ∃q,2^k=q+1:=⟨2^k-1,by omega⟩
    rw[pk,hq,show q+1-1=q by omega,show (q+1)*2-1=q+q+1 by omega,Nat.mul_add,Nat.mul_add,Nat.mul_one,Nat.add_mul]
    omega
   rw[<- e];exact i4
theorem sqs_enc {w:Nat} : ∀ (k lo hi:Nat) (q:Rat),Enc w lo hi q->Enc w (sqs w k lo hi).1 (sqs w k lo hi).2 (q^2^k)
 |0,lo,hi,q,h=>by
  rw[Nat.pow_zero,Rat.pow_succ,Rat.pow_zero,Rat.one_mul];exact h
 |k+1,lo,hi,q,h=>by
  have ih:=sqs_enc k _ _ (q*q) (enc_mul h h)
  have e:q^2^(k+1)=(q*q)^2^k:=by
   rw[Nat.pow_succ,Nat.mul_two,Ex.pow_plus,Ex.mul_powR]
  rw[e];exact ih
end Go.Proofs.YtenjdajophfpcaaGreat
namespace Go.Proofs.YtenjdajophfpcaaGreat
open Go.Ev
theorem E_three {y:Rat} (h0:0<=y) (h1:y<=1) (L:Nat):Ex.E y L<=3:=by
 have t:=Ex.E_tail_le (L:=L) h0 (N:=1) (show y+y<=((1+1:Nat):Rat) by have:((1+1:Nat):Rat)=2:=rfl;rw[this];grind)
 have e1:Ex.E y 1=1:=by show (0:Rat)+1=1;decide +kernel
 have s:=Ex.tm_succ y 0
 have e2:((0+1:Nat):Rat)=1:=rfl
 have e3:Ex.tm y 0=1:=rfl
 rw[e2,e3]at s
 rw[e1]at t
 grind
theorem pow_mono {a b:Rat} (h0:0<=a) (h:a<=b) : ∀n:Nat,a^n<=b^n
 |0=>by rw[Rat.pow_zero,Rat.pow_zero];exact Rat.le_refl
 |n+1=>by
  rw[Rat.pow_succ,Rat.pow_succ]
  exact Rat.le_trans (Rat.mul_le_mul_of_nonneg_right (pow_mono h0 h n) h0) (Rat.mul_le_mul_of_nonneg_left h (Ex.pow_nn (show 0<=b by grind) n))
theorem E_big {x:Rat} (h0:0<=x) (h1:x<=64) (L:Nat):Ex.E x L<=Ex.t2 102:=by
 rcases Nat.eq_zero_or_pos L with e|e
 ·subst e;exact Rat.le_of_lt (Ex.t2_pos 102)
 ·have hq:(1/64:Rat)*64=1:=by decide +kernel
  have q0:(0:Rat)<=1/64:=by decide +kernel
  have y0:0<=1/64*x:=Rat.mul_nonneg q0 h0
  have y1:1/64*x<=1:=by
   have:=Rat.mul_le_mul_of_nonneg_left h1 q0
   rwa [hq]at this
  have p:=Ex.E_pow_ge y0 e 64
  have ex:((64:Nat):Rat)*(1/64*x)=x:=by
   have:((64:Nat):Rat)=64:=rfl
   rw[this];generalize (1/64:Rat)=q at *;grind
  rw[ex]at p
  have t:(3:Rat)^64<=Ex.t2 102:=by decide +kernel
  exact Rat.le_trans p (Rat.le_trans (pow_mono (Ex.E_nn y0 L) (E_three y0 y1 L) 64) t)
theorem E_one {x:Rat} (h0:0<=x) {L:Nat} (h:1<=L):1<=Ex.E x L:=by
 have m:=Ex.E_mono h0 h
 have e1:Ex.E x 1=1:=by show (0:Rat)+1=1;decide +kernel
 rw[e1]at m;exact m
theorem near_ok {n d w g c:Nat} (hg:g=32794) (hc:c=32768) (hd:0<d) (h:n<=64*d) (hw:160<=w) :
  ∃A B:Nat,eRow w (n*2^w/(d*2^14)) (w/7+3) 1 (2^w) (2^w+1) (2^w) (2^w+1)=some (A,B)/\A<=B/\2^w<=A/\B<2^(w+2)/\2^w<=(sqs w 14 A B).1/\(sqs w 14 A B).1<=(sqs w 14 A B).2/\(sqs w 14 A B).2<2^(w+c) /\
   (sqs w 14 A B).2<=(sqs w 14 A B).1+w*2^g /\ ∀x:Rat,x*(d:Rat)=(n:Rat) -> ∃s,∀L,s<=L->Enc w (sqs w 14 A B).1 (sqs w 14 A B).2 (Ex.E x L):=by
 obtain⟨Y,hY⟩ : ∃Y:Nat,Y=n*2^w/(d*2^14):=⟨_,rfl⟩
 rw[<- hY]
 have dp:0<d*2^14:=by omega
 have P:0<2^w:=Nat.pow_pos (by omega)
 have e8:2^w=2^(w-8)*256:=by rw[show (256:Nat)=2^8 from rfl,<- Nat.pow_add];congr 1;omega
 have e7:2^(w-7)=2^(w-8)*2:=by rw[<- Nat.pow_succ];congr 1;omega
 have p8:0<2^(w-8):=Nat.pow_pos (by omega)
 have Yle:Y<=2^(w-8):=by
  rw[hY]
  refine(Nat.div_le_iff_le_mul dp).2 ?_
  have m:=Nat.mul_le_mul_right (2^w) h
  have k:64*d*2^w=2^(w-8)*(d*2^14):=by
   rw[e8];generalize 2^(w-8)=z;rw[show (2:Nat)^14=16384 from rfl];grind
  omega
 have hY1:Y+1<=2^(w-7):=by omega
 obtain⟨A,B,s,r1,r2,r3,r4,r5,r6,r7⟩:=eRow_end (w:=w) (Y:=Y) (by omega) hY1 (w/7+1) (w/7+3) 1 (2^w) (2^w+1) (2^w) (2^w+1) (eInv_0 w) (by
  have:2^w<=2^(7*(w/7+1)):=Nat.pow_le_pow_right (by omega) (by omega)
  omega) (by omega) (by omega)
 have lw:w<2^w:=Nat.lt_two_pow_self
 have e1:2^(w+1)=2^w*2:=Nat.pow_succ _ _
 have e2:2^(w+2)=2^w*4:=Nat.pow_add _ _ _
 obtain⟨q1,q2,q3,q4⟩:=sqs_ok 14 A B 2 w r4 r5 (by omega) (by omega) (by omega)
 rw[show 2*(2^14-1)+2*14=g by omega]at q4
 rw[show 2*2^14=c by omega]at q3
 refine⟨A,B,r1,r5,r4,by omega,q1,q2,q3,q4,fun x hx => ?_⟩
 have dR:(0:Rat)<(d:Rat):=by exact_mod_cast hd
 obtain⟨j,hj⟩ : ∃j:Nat,j=2^14:=⟨_,rfl⟩
 have jR:(0:Rat)<(j:Rat):=by exact_mod_cast (by omega:0<j)
 obtain⟨y,hy⟩ : ∃y:Rat,y=x/(j:Rat):=⟨_,rfl⟩
 have jy:(j:Rat)*y=x:=by rw[hy];exact Ex.mul_div _ _ (by grind)
 have dj:(d:Rat)*(j:Rat)=((d*2^14:Nat):Rat):=by rw[<- hj];exact_mod_cast rfl
 have yd:y*((d*2^14:Nat):Rat)=(n:Rat):=by rw[<- dj,<- hx,<- jy];grind
 have dpR:(0:Rat)<((d*2^14:Nat):Rat):=by exact_mod_cast dp
 have PR:=p2_pos w
 have en:Enc w Y (Y+1) y:=by
  have f:=floor_le (a:=n*2^w) (d:=d*2^14)
  have g:=le_floor (a:=n*2^w) (d:=d*2^14) dp
  rw[<- hY]at f g
  have k:((n*2^w:Nat):Rat)=y*p2 w*((d*2^14:Nat):Rat):=by
   have:((n*2^w:Nat):Rat)=(n:Rat)*p2 w:=by exact_mod_cast rfl
   rw[this,<- yd];grind
  rw[k]at f g
  exact⟨le_by dpR f,le_by dpR g⟩
 have y0:=enc_nonneg en
 have y1:y+y<=1:=by
  refine le_by dpR ?_
  rw[Rat.add_mul,yd,Rat.one_mul]
  have:n+n<=d*2^14:=by omega
  have t:((n+n:Nat):Rat)<=((d*2^14:Nat):Rat):=by exact_mod_cast this
  have e:((n+n:Nat):Rat)=(n:Rat)+(n:Rat):=by exact_mod_cast rfl
  rw[e]at t;exact t
 have one:Enc w (2^w) (2^w+1) 1:=by
  refine⟨by rw[Rat.one_mul];exact Rat.le_refl,?_⟩
  rw[Rat.one_mul]
  exact_mod_cast Nat.le_succ (2^w)
 have E1:Ex.E y 1=1:=by show (0:Rat)+1=1;decide +kernel
 obtain⟨s1,hs⟩:=eRow_enc en y1 (w/7+3) 0 _ _ _ _ A B r1 one (by rw[E1];exact one)
 refine⟨j*(s1+1)+1,fun L hL => ?_⟩
 have k1:s1+1<=j*(s1+1):=Nat.le_mul_of_pos_left _ (by omega)
 have a1:=(sqs_enc 14 A B _ (hs (s1+1) (by omega))).1
 have a2:=(sqs_enc 14 A B _ (hs L (by omega))).2
 rw[<- hj]at a1 a2
 have u1:=Ex.E_pow_le y0 (s1+1) j
 have u2:=Ex.E_pow_ge y0 (show 0<L by omega) j
 rw[jy]at u1 u2
 have x0:0<=x:=by rw[<- jy];exact Rat.mul_nonneg (Rat.le_of_lt jR) y0
 have m:=Ex.E_mono x0 hL
 exact⟨Rat.le_trans a1 (Rat.mul_le_mul_of_nonneg_right (Rat.le_trans u1 m) (Rat.le_of_lt PR)),Rat.le_trans (Rat.mul_le_mul_of_nonneg_right u2 (Rat.le_of_lt PR)) a2⟩
theorem cert_or {lo hi w p:Nat} (h:lo<hi) (hc:lo/2^(w-p)≠(hi-1)/2^(w-p)) : ∃u:Nat,0<u/\lo<=u*2^(w-p)/\u*2^(w-p)<=hi-1:=by
 have P:0<2^(w-p):=Nat.pow_pos (by omega)
 have m:lo/2^(w-p)<=(hi-1)/2^(w-p):=Nat.div_le_div_right (by omega)
 have lt:=Nat.lt_of_le_of_ne m hc
 refine⟨(hi-1)/2^(w-p),Nat.lt_of_le_of_lt (Nat.zero_le _) lt,?_,Nat.div_mul_le_self _ _⟩
 have k:=Nat.lt_mul_div_succ lo P
 have k2:2^(w-p)*(lo/2^(w-p)+1)<=2^(w-p)*((hi-1)/2^(w-p)):=Nat.mul_le_mul_left _ lt
 rw[Nat.mul_comm]
 exact Nat.le_of_lt (Nat.lt_of_lt_of_le k k2)
theorem dist_bd {w lo hi G:Nat} {q r:Rat} (h1:Enc w lo hi q) (h2:(lo:Rat)<=r*p2 w) (h3:r*p2 w<=(hi:Rat)) (hG:hi<=lo+G):Ex.Bdd ((q-r)*p2 w) (G:Rat):=by
 obtain⟨a,b⟩:=h1
 have k:(hi:Rat)<=((lo+G:Nat):Rat):=by exact_mod_cast hG
 have e:((lo+G:Nat):Rat)=(lo:Rat)+(G:Rat):=by exact_mod_cast rfl
 rw[e]at k
 rw[show (q-r)*p2 w=q*p2 w-r*p2 w by grind]
 generalize q*p2 w=x at *
 generalize r*p2 w=y at *
 constructor<;>grind
theorem bd_less {z:Rat} {w W:Nat} {G:Rat} (h:Ex.Bdd (z*p2 w) G) (hG:G*Ex.t2 W<=p2 w):Ex.Bdd (z*Ex.t2 W) 1:=by
 have P:=p2_pos w
 have T:=Ex.t2_pos W
 obtain⟨a,b⟩:=h
 have m1:=Rat.mul_le_mul_of_nonneg_right a (Rat.le_of_lt T)
 have m2:=Rat.mul_le_mul_of_nonneg_right b (Rat.le_of_lt T)
 have e:z*p2 w*Ex.t2 W=z*Ex.t2 W*p2 w:=by grind
 rw[e]at m1 m2
 constructor
 ·refine le_by P ?_
  generalize z*Ex.t2 W*p2 w=y at *
  have : -G*Ex.t2 W = -(G*Ex.t2 W):=by grind
  rw[this]at m1
  grind
 ·refine le_by P ?_
  generalize z*Ex.t2 W*p2 w=y at *
  grind
theorem cast_p2 (u w p:Nat) (h:p<=w):((u*2^(w-p):Nat):Rat)*p2 p=(u:Rat)*p2 w:=by
 have e:2^w=2^(w-p)*2^p:=by rw[<- Nat.pow_add];congr 1;omega
 have e2:p2 w=p2 (w-p)*p2 p:=by
  show ((2^w:Nat):Rat)=_
  rw[e];exact_mod_cast rfl
 have e3:((u*2^(w-p):Nat):Rat)=(u:Rat)*p2 (w-p):=by exact_mod_cast rfl
 rw[e2,e3,Rat.mul_assoc]
theorem size_W {w g r W:Nat} (hW:W=281000000) (hg:g+r<=40000) (hw:282000000<=w) (hw2:w<=2^40):((w*2^g*2^r:Nat):Rat)*Ex.t2 W<=p2 w:=by
 have h:w*2^g*2^r*2^W<=2^w:=by
  refine Nat.le_trans (Nat.mul_le_mul_right _ (Nat.mul_le_mul_right _ (Nat.mul_le_mul_right _ hw2))) ?_
  rw[<- Nat.pow_add,<- Nat.pow_add,<- Nat.pow_add]
  exact Nat.pow_le_pow_right (by omega) (by omega)
 have e:((w*2^g*2^r*2^W:Nat):Rat)=((w*2^g*2^r:Nat):Rat)*Ex.t2 W:=Ex.castmul _ _
 rw[<- e]
 exact Ex.castle h
theorem near_le {e al T:Rat} (d : -1<=(e-al)*T) (T1:1<=T):al<=e+1:=by
 refine Rat.not_lt.1 fun h => ?_
 have m:=Rat.mul_le_mul_of_nonneg_left T1 (show 0<=al-e by grind)
 grind
theorem le_two {e al M:Rat} (h1:al<=e+1) (h2:e<=M) (h3:1<=M):al<=M+M:=by grind
theorem cert_pos {a b lo hi w p g s:Nat} {x:Rat} (ha:0<a) (hb:0<b) (hb2:b<=2^512) (hx:x*(b:Rat)=(a:Rat)) (hx2:x<=64) (hp:p<=512) (hg:g<=39000) (h:lo<hi) (hG:hi<=lo+w*2^g)
  (hE : ∀L,s<=L->Enc w lo hi (Ex.E x L)) (hw:282000000<=w) (hw2:w<=2^40):lo/2^(w-p)=(hi-1)/2^(w-p):=by
 refine Classical.byContradiction fun hc => ?_
 obtain⟨u,u0,u1,u2⟩:=cert_or h hc
 obtain⟨W,hW⟩ : ∃k:Nat,k=281000000:=⟨_,rfl⟩
 obtain⟨sv,hsv⟩ : ∃k:Nat,k=520:=⟨_,rfl⟩
 have Pp:=p2_pos p
 have P:=p2_pos w
 obtain⟨al,hal⟩ : ∃r:Rat,r=(u:Rat)/p2 p:=⟨_,rfl⟩
 have ap:al*p2 p=(u:Rat):=by rw[hal];exact Rat.div_mul_cancel (by grind)
 have uR:(0:Rat)<(u:Rat):=Ex.castlt u0
 have a0:0<al:=by
  rw[hal,Rat.div_def];exact Rat.mul_pos uR (Rat.inv_pos.2 Pp)
 have c:=cast_p2 u w p (by omega)
 have ku:al*p2 w=((u*2^(w-p):Nat):Rat):=by
  refine Ex.cancel_l (c:=p2 p) (by grind) ?_
  rw[Rat.mul_comm,Rat.mul_comm (p2 p),c,<- ap];grind
 have x0:0<=x:=by
  have bp:(0:Rat)<(b:Rat):=Ex.castlt hb
  refine le_by bp ?_
  rw[hx,Rat.zero_mul];exact nat_nonneg a
 have l1:(lo:Rat)<=al*p2 w:=by rw[ku];exact Ex.castle u1
 have l2:al*p2 w<=(hi:Rat):=by rw[ku];exact Ex.castle (by omega)
 have near : ∀L,s<=L->Ex.Bdd ((Ex.E x L-al)*Ex.t2 W) 1:=by
  intro L hL
  have d:=dist_bd (hE L hL) l1 l2 hG
  refine bd_less d ?_
  have z:=size_W (w:=w) (g:=g) (r:=0) hW (by omega) hw hw2
  rw[Nat.pow_zero,Nat.mul_one]at z
  exact z
 have al2:al<=Ex.t2 103:=by
  have d:=near s (Nat.le_refl s)
  have e:=E_big x0 hx2 s
  have t:Ex.t2 103=Ex.t2 102+Ex.t2 102:=Ex.t2_succ 102
  have o:(1:Rat)<=Ex.t2 102:=by decide +kernel
  have n:=near_le d.1 (Ex.t2_mono (show 0<=W by omega))
  rw[t]
  exact le_two n e o
 obtain⟨K0,hK⟩:=Ex.exp_far (W:=W) (by omega) ha hb hb2 hx hx2 hsv (v:=2^p) (u:=u) (Nat.pow_pos (by omega)) (Nat.pow_le_pow_right (by omega) (by omega)) ap a0 al2
 exact hK (max K0 s) (Nat.le_max_left _ _) (near _ (Nat.le_max_right _ _))
theorem inv_gapE {M lo hi W:Nat} (h1:0<W) (h2:M=W*W) (h3:W<=lo) (h4:lo<hi) (h5:hi-lo<=W):M/lo<=M/hi+(hi-lo)+1/\M/hi<=M/lo/\M/lo<=W:=by
 have lp:0<lo:=by omega
 have hp:0<hi:=by omega
 have a:M/hi<=W:=by
  refine(Nat.div_le_iff_le_mul hp).2 ?_
  rw[h2]
  have:=Nat.mul_le_mul_left W (show W<=hi by omega)
  omega
 have b:M/lo<=W:=by
  refine(Nat.div_le_iff_le_mul lp).2 ?_
  rw[h2]
  have:=Nat.mul_le_mul_left W h3
  omega
 refine⟨?_,Nat.div_le_div_left (by omega) lp,b⟩
 refine Nat.le_of_lt_succ ((Nat.div_lt_iff_lt_mul lp).2 ?_)
 have k:=Nat.lt_mul_div_succ M hp
 obtain⟨g,hg⟩ : ∃g,hi=lo+g:=⟨hi-lo,by omega⟩
 rw[show hi-lo=g by omega]
 generalize M/hi=q at *
 have m1:q*g<=lo*g:=Nat.mul_le_mul_right g (by omega)
 have e1:hi*(q+1)=q*lo+lo+q*g+g:=by rw[hg,Nat.add_mul,Nat.mul_add,Nat.mul_add,Nat.mul_comm lo q,Nat.mul_comm g q];omega
 have e2:(q+g+1).succ*lo=q*lo+lo*g+lo+lo:=by
  show (q+g+1+1)*lo=_
  rw[Nat.add_mul,Nat.add_mul,Nat.add_mul,Nat.mul_comm g lo,Nat.one_mul]
 rw[e2]
 rw[e1]at k
 omega
theorem inv_near {e r al P G:Rat} (he:1<=e) (he2:e<=Ex.t2 102) (hr:r*al=1) (ha:0<al) (hP:0<P) (hd:Ex.Bdd ((1/e-r)*P) G) (hG:G*Ex.t2 103<=P):al<=Ex.t2 103/\Ex.Bdd ((e-al)*P) (G*Ex.t2 205):=by
 have i:e*(1/e)=1:=Ex.mul_div e 1 (by grind)
 have T:=Ex.t2_pos 103
 have t2':Ex.t2 103=Ex.t2 102+Ex.t2 102:=Ex.t2_succ 102
 have T2:=Ex.t2_pos 102
 have nG:=Ex.Bdd_nn hd
 have hal:al<=Ex.t2 103:=by
  refine Rat.not_lt.1 fun h => ?_
  have a1:1<=1/e*Ex.t2 102:=by
   have e0:0<=1/e:=Ex.div_nn (by decide) (by grind)
   have:=Rat.mul_le_mul_of_nonneg_left he2 e0
   grind
  have rp:0<r:=by
   rcases Rat.le_total (a:=r) (b:=0) with g|g
   ·have:=Rat.mul_le_mul_of_nonneg_right g (Rat.le_of_lt ha)
    grind
   ·by_cases z:r=0
    ·subst z;grind
    ·grind
  have a2:r*Ex.t2 103<1:=by
   have:=Rat.mul_pos rp (show 0<al-Ex.t2 103 by grind)
   grind
  obtain⟨-,d2⟩:=hd
  have m:=Rat.mul_le_mul_of_nonneg_right d2 (Rat.le_of_lt T)
  have a3:1<(1/e-r)*Ex.t2 103:=by
   rw[t2']at a2 ⊢
   generalize 1/e=y at *
   grind
  have m2:=Rat.mul_pos (show 0<(1/e-r)*Ex.t2 103-1 by grind) hP
  have e2:((1/e-r)*Ex.t2 103-1)*P=(1/e-r)*P*Ex.t2 103-P:=by grind
  rw[e2]at m2
  grind
 refine⟨hal,?_⟩
 have e3:(e-al)*P=(1/e-r)*P * -(e*al):=by
  have:(1/e-r)*P * -(e*al)=(r*al)*e*P-e*(1/e)*al*P:=by grind
  rw[this,hr,i];grind
 rw[e3]
 have t5:Ex.t2 205=Ex.t2 102*Ex.t2 103:=Ex.t2_add 102 103
 have b1:Ex.Bdd (-(e*al)) (Ex.t2 205):=by
  have n1:0<=e*al:=Rat.mul_nonneg (by grind) (Rat.le_of_lt ha)
  have m1:=Rat.mul_le_mul_of_nonneg_right he2 (Rat.le_of_lt ha)
  have m2:=Rat.mul_le_mul_of_nonneg_left hal (Rat.le_of_lt T2)
  have m3:=Rat.le_trans m1 m2
  rw[<- t5]at m3
  constructor<;>grind
 exact Ex.Bdd_mul hd b1
theorem cert_neg {a b lo hi w p g s:Nat} {x:Rat} (ha:0<a) (hb:0<b) (hb2:b<=2^512) (hx:x*(b:Rat)=(a:Rat)) (hx2:x<=64) (hp:p<=512) (hg:g<=39000) (h0:2^w<=lo) (h:lo<hi) (hG:hi<=lo+w*2^g)
  (hE : ∀L,s<=L->Enc w lo hi (Ex.E x L)) (hw:282000000<=w) (hw2:w<=2^40):2^(2*w)/hi/2^(w-p)=(2^(2*w)/lo+1-1)/2^(w-p):=by
 have PN:0<2^w:=Nat.pow_pos (by omega)
 have gw:w*2^g<=2^w:=by
  refine Nat.le_trans (Nat.mul_le_mul_right _ hw2) ?_
  rw[<- Nat.pow_add]
  exact Nat.pow_le_pow_right (by omega) (by omega)
 obtain⟨i1,i2,i3⟩:=inv_gapE (M:=2^(2*w)) (lo:=lo) (hi:=hi) PN (by rw[<- Nat.pow_add];congr 1;omega) h0 h (by omega)
 refine Classical.byContradiction fun hc => ?_
 obtain⟨u,u0,u1,u2⟩:=cert_or (lo:=2^(2*w)/hi) (hi:=2^(2*w)/lo+1) (by omega) hc
 obtain⟨W,hW⟩ : ∃k:Nat,k=281000000:=⟨_,rfl⟩
 obtain⟨sv,hsv⟩ : ∃k:Nat,k=520:=⟨_,rfl⟩
 have Pp:=p2_pos p
 have P:=p2_pos w
 have uR:(0:Rat)<(u:Rat):=Ex.castlt u0
 obtain⟨r,hr⟩ : ∃r:Rat,r=(u:Rat)/p2 p:=⟨_,rfl⟩
 have ar:r*p2 p=(u:Rat):=by rw[hr];exact Rat.div_mul_cancel (by grind)
 obtain⟨al,hal⟩ : ∃r:Rat,r=p2 p/(u:Rat):=⟨_,rfl⟩
 have au:al*(u:Rat)=((2^p:Nat):Rat):=by rw[hal];exact Rat.div_mul_cancel (by grind)
 have a0:0<al:=by
  rw[hal,Rat.div_def];exact Rat.mul_pos Pp (Rat.inv_pos.2 uR)
 have ra:r*al=1:=by
  refine Ex.cancel_l (c:=p2 p) (by grind) ?_
  have:p2 p*(r*al)=al*(r*p2 p):=by grind
  rw[this,ar,au,Rat.mul_one]
 have c:=cast_p2 u w p (by omega)
 have ku:r*p2 w=((u*2^(w-p):Nat):Rat):=by
  refine Ex.cancel_l (c:=p2 p) (by grind) ?_
  rw[Rat.mul_comm,Rat.mul_comm (p2 p),c,<- ar];grind
 have x0:0<=x:=by
  have bp:(0:Rat)<(b:Rat):=Ex.castlt hb
  refine le_by bp ?_
  rw[hx,Rat.zero_mul];exact nat_nonneg a
 have l1:((2^(2*w)/hi:Nat):Rat)<=r*p2 w:=by rw[ku];exact Ex.castle u1
 have l2:r*p2 w<=((2^(2*w)/lo+1:Nat):Rat):=by rw[ku];exact Ex.castle (Nat.le_trans u2 (Nat.sub_le _ 1))
 have gp:1<=w*2^g:=Nat.mul_pos (by omega) (Nat.pow_pos (by omega))
 have GG:2^(2*w)/lo+1<=2^(2*w)/hi+w*2^g*2^2:=by omega
 have two : ∀L,s+1<=L->al<=Ex.t2 103/\Ex.Bdd ((Ex.E x L-al)*Ex.t2 W) 1:=by
  intro L hL
  obtain⟨en,-⟩:=enc_inv (by omega) (hE L (by omega))
  have d:=dist_bd en l1 l2 GG
  have z:=size_W (w:=w) (g:=g) (r:=2+205) hW (by omega) hw hw2
  have ez:((w*2^g*2^(2+205):Nat):Rat)=((w*2^g*2^2:Nat):Rat)*Ex.t2 205:=by
   have:w*2^g*2^(2+205)=w*2^g*2^2*2^205:=by rw[Nat.pow_add 2 2,Nat.mul_assoc (w*2^g)]
   rw[this];exact Ex.castmul _ _
  rw[ez]at z
  have nG:=nat_nonneg (w*2^g*2^2)
  have small:((w*2^g*2^2:Nat):Rat)*Ex.t2 103<=p2 w:=by
   have h1:w*2^g*2^2*2^103<=2^w:=by
    refine Nat.le_trans (Nat.mul_le_mul_right _ (Nat.mul_le_mul_right _ (Nat.mul_le_mul_right _ hw2))) ?_
    rw[<- Nat.pow_add,<- Nat.pow_add,<- Nat.pow_add]
    exact Nat.pow_le_pow_right (by omega) (by omega)
   have e:((w*2^g*2^2*2^103:Nat):Rat)=((w*2^g*2^2:Nat):Rat)*Ex.t2 103:=Ex.castmul _ _
   rw[<- e];exact Ex.castle h1
  obtain⟨n1,n2⟩:=inv_near (E_one x0 (by omega)) (E_big x0 hx2 L) ra a0 P d small
  exact⟨n1,bd_less n2 z⟩
 have up:u<=2^p:=by
  have e:2^w=2^p*2^(w-p):=by rw[<- Nat.pow_add];congr 1;omega
  have k:u*2^(w-p)<=2^p*2^(w-p):=by rw[<- e];omega
  exact Nat.le_of_mul_le_mul_right k (Nat.pow_pos (by omega))
 have up2:2^p<=2^sv:=Nat.pow_le_pow_right (by omega) (by omega)
 obtain⟨K0,hK⟩:=Ex.exp_far (W:=W) (by omega) ha hb hb2 hx hx2 hsv (v:=u) (u:=2^p) u0 (Nat.le_trans up up2) au a0 (two (s+1) (Nat.le_refl _)).1
 exact hK (max K0 (s+1)) (Nat.le_max_left _ _) (two _ (Nat.le_max_right _ _)).2
end Go.Proofs.YtenjdajophfpcaaGreat
namespace Go.Proofs.YtenjdajophfpcaaGreat
open Go.Ev
theorem least {P:Nat->Prop} {k:Nat} (h:P k) : ∃j,P j/\j<=k /\ ∀i,i<j -> ¬P i:=by
 induction k using Nat.strongRecOn with
 |_ k ih=>
  by_cases g : ∃i,i<k/\P i
  ·obtain⟨i,hi,hp⟩:=g
   obtain⟨j,h1,h2,h3⟩:=ih i hi hp
   exact⟨j,h1,by omega,h3⟩
  ·exact⟨k,h,Nat.le_refl k,fun i hi hp=>g ⟨i,hi,hp⟩⟩
theorem doubles {w0 M:Nat} (h0:0<w0) (h:w0<=M) : ∃k,M<=w0*2^k/\w0*2^k<2*M:=by
 have top:M<=w0*2^M:=Nat.le_trans (Nat.le_of_lt Nat.lt_two_pow_self) (Nat.le_mul_of_pos_left _ h0)
 obtain⟨k,h1,-,h3⟩:=least (P:=fun k=>M<=w0*2^k) top
 refine⟨k,h1,?_⟩
 cases k with
 |zero=>rw[Nat.pow_zero,Nat.mul_one];omega
 |succ k=>
  have:=h3 k (Nat.lt_succ_self k)
  rw[Nat.pow_succ,<- Nat.mul_assoc]
  omega
section
variable {p sp M:Nat} {f:FuncId} {caps:List SV} {lo hi:Nat->Nat}
theorem certain_at (h0:0<p+sp) (hM:p+sp<=M) (hc : ∀w,M<=w->w<2*M->lo w/2^(w-p)=(hi w-1)/2^(w-p)) :
  ∃k,lo ((p+sp)*2^k)/2^((p+sp)*2^k-p)=(hi ((p+sp)*2^k)-1)/2^((p+sp)*2^k-p)/\(p+sp)*2^k<2*M /\ ∀i,i<k->lo ((p+sp)*2^i)/2^((p+sp)*2^i-p)≠(hi ((p+sp)*2^i)-1)/2^((p+sp)*2^i-p):=by
 obtain⟨k0,a1,a2⟩:=doubles h0 hM
 obtain⟨k,b1,b2,b3⟩:=least (P:=fun k=>lo ((p+sp)*2^k)/2^((p+sp)*2^k-p)=(hi ((p+sp)*2^k)-1)/2^((p+sp)*2^k-p)) (hc _ a1 a2)
 refine⟨k,b1,Nat.lt_of_le_of_lt (Nat.mul_le_mul_left _ (Nat.pow_le_pow_right (by omega) b2)) a2,b3⟩
set_option maxHeartbeats 1000000 in
theorem fix_CertainL (hsp:0<sp) (hM:p+sp<=M) (hM2:M<=300000000) (hp:p<=10000) (hs:sp<=10000)
  (hf : ∀w:Nat,p+sp<=w->w<2*M->Go.Ev.Fn CX f (.int .i64 (w:Int)::caps) (spanV (lo w) (hi w)))
  (hl : ∀w:Nat,p+sp<=w->w<2*M->(lim (lo w)).length<=50000000/\(lim (hi w)).length<=50000000/\(lim (lo w/2^(w-p))).length<=5000)
  (hc : ∀w,M<=w->w<2*M->lo w/2^(w-p)=(hi w-1)/2^(w-p)) :
  ∃w,p+sp<=w/\w<2*M/\lo w/2^(w-p)=(hi w-1)/2^(w-p) /\
   Go.Ev.Fn CX 232 [.int .i64 (p:Int),.int .i64 (sp:Int),.fn f caps] (ballR (mkRat ((lo w/2^(w-p):Nat):Int) (2^p)) (mkRat ((lo w/2^(w-p)+1:Nat):Int) (2^p))):=by
 obtain⟨k,c1,c2,c3⟩:=certain_at (by omega) hM hc
 obtain⟨W,hW⟩ : ∃W,W=(p+sp)*2^k:=⟨_,rfl⟩
 have pk : ∀i,p+sp<=(p+sp)*2^i:=fun i=>Nat.le_mul_of_pos_right _ (Nat.pow_pos (by omega))
 have mk : ∀i,i<=k->(p+sp)*2^i<=W:=fun i hi=>by rw[hW];exact Nat.mul_le_mul_left _ (Nat.pow_le_pow_right (by omega) hi)
 rw[<- hW]at c1 c2
 refine⟨W,by rw[hW];exact pk k,c2,c1,?_⟩
 obtain⟨la,lb,lm⟩:=hl W (by rw[hW];exact pk k) c2
 have hfW:=hf W (by rw[hW];exact pk k) c2
 have hpW:p<W:=by have:=pk k;omega
 have fl:=fix_Floor (a:=lo W) (b:=hi W) (w:=W) (p:=p) (by omega) (by omega) hpW (by omega)
 rw[decide_eq_true c1]at fl
 have o:=fix_One
 have l1:=lim_len1
 have sh:=fix_shl (a:=1) (m:=p) (by omega) (by omega)
 have lp:=lim_len_shl (a:=1) (n:=p)
 rw[Nat.one_mul]at sh lp
 have n1:=fix_Next (a:=lo W/2^(W-p)) (by omega)
 have l2:=lim_len_add (a:=lo W/2^(W-p)) (b:=1) (L:=5000) (by omega) (by omega)
 have r1:=rat_OfL (s:=false) (n:=lo W/2^(W-p)) (d:=2^p) (by omega) (by omega)
 have r2:=rat_OfL (s:=false) (n:=lo W/2^(W-p)+1) (d:=2^p) (by omega) (by omega)
 rw[show sgn false (lo W/2^(W-p))=((lo W/2^(W-p):Nat):Int) from rfl]at r1
 rw[show sgn false (lo W/2^(W-p)+1)=((lo W/2^(W-p)+1:Nat):Int) from rfl]at r2
 generalize mkRat ((lo W/2^(W-p):Nat):Int) (2^p)=q1 at *
 generalize mkRat ((lo W/2^(W-p)+1:Nat):Int) (2^p)=q2 at *
 generalize lo W/2^(W-p)+1=a' at *
 generalize ha:lo W/2^(W-p)=a at *
 generalize 2^p=P at *
 -- one round that is not the last
 have rd : ∀i,i<k -> ∃x y:Nat,∃m:Nat,Go.Ev.Fn CX f (.int .i64 (((p+sp)*2^i:Nat):Int)::caps) (spanV x y)/\Go.Ev.Fn CX 285 [spanV x y,.int .i64 (((p+sp)*2^i:Nat):Int),.int .i64 (p:Int)] (.tup [natV (lim m),.bool false]):=by
  intro i hi'
  have h1:=pk i
  have h2:=mk i (by omega)
  obtain⟨xa,xb,-⟩:=hl ((p+sp)*2^i) h1 (by omega)
  have g:=fix_Floor (a:=lo ((p+sp)*2^i)) (b:=hi ((p+sp)*2^i)) (w:=(p+sp)*2^i) (p:=p) (by omega) (by omega) (by omega) (by omega)
  rw[decide_eq_false (c3 i hi')]at g
  exact⟨_,_,_,hf _ h1 (by omega),g⟩
 have dbl : ∀i:Nat,i<k->(p+sp)*2^i*2=(p+sp)*2^(i+1):=fun i _=>by rw[Nat.pow_succ,Nat.mul_assoc]
 clear hc hl hf c3 c1 la lb lm l2 lp l1
 refine fni Tryz.f232 ?_;unfold Tryz.f232;simp only[Option.get!_some]
 repeat (first|simp only[go_sem]|simp (disch:=first|exact omg|fail) only[AX]|refine wki ?_)
 refine vp_loop_inv (fun s=>s.tmp 0 = .sv (.int .i64 (p:Int))/\s.tmp 2 = .sv (.fn f caps)/\s.tmp 6 = .ptr 6 0 0/\s.obj 6 0=some [.bool false,.sl 0 [],.sl 0 [],.bool false,.sl 0 [],.sl 0 []] /\ ∃i:Nat,i<=k/\s.tmp 7 = .sv (.int .i64 (((p+sp)*2^i:Nat):Int)))
  (fun s=>match s.tmp 7 with | .sv (.int _ j)=>700000000-j.toNat|_=>0) ⟨rfl,rfl,rfl,rfl,0,by omega,by rw[Nat.pow_zero,Nat.mul_one];rfl⟩ ?_
 rintro s ⟨i0,i2,i6,o6,i,hi',i7⟩
 by_cases e:i=k
 ·subst e
  rw[<- hW]at i7
  clear rd dbl
  repeat (first|simp only[go_sem,i0,i2,i6,o6,i7]|simp (disch:=first|exact omg|fail) only[AX,i0,i2,i6,o6,i7]|refine wki ?_|refine vf_of (by first|exact hfW|exact fl|exact o|exact sh|exact r1|exact n1|exact r2) ?_)
 ·obtain⟨x,y,m,g1,g2⟩:=rd i (by omega)
  have h1:=mk (i+1) (by omega)
  have h3:=pk i
  have h2:=dbl i (by omega)
  have e2:(((p+sp)*2^(i+1):Nat):Int)=(((p+sp)*2^i:Nat):Int)*2:=by rw[<- h2];exact Int.natCast_mul _ _
  clear rd dbl hfW fl
  generalize hv:(p+sp)*2^(i+1)=v at *
  generalize (p+sp)*2^i=u at *
  repeat (first|simp only[go_sem,i0,i2,i6,o6,i7]|simp (disch:=first|exact omg|fail) only[AX,i0,i2,i6,o6,i7]|refine wki ?_|refine vf_of (by first|exact g1|exact g2) ?_)
  exact⟨⟨i+1,by omega,by rw[hv,e2]⟩,by omega⟩
end
end Go.Proofs.YtenjdajophfpcaaGreat
namespace Go.Proofs.YtenjdajophfpcaaGreat
open Go.Ev
theorem lim_len_pw {n w:Nat} (h:n<2^w):(lim n).length<=w/32+1:=by
 refine lim_len_lt (Nat.lt_of_lt_of_le h ?_)
 rw[show (4294967296:Nat)=2^32 from rfl,<- Nat.pow_mul]
 exact Nat.pow_le_pow_right (by omega) (by omega)
set_option maxHeartbeats 1000000 in
theorem exps_row {w Y A B:Nat} (hw:64<=w) (hw2:w<=600000000) (hY:Y+1<=2^(w-7)) (h:eRow w Y (w/7+3) 1 (2^w) (2^w+1) (2^w) (2^w+1)=some (A,B)) :
  Go.Ev.Fn CX 286 [spanV Y (Y+1),.int .i64 (w:Int)] (spanV A B):=by
 have un:=fix_Unit (w:=w) (by omega)
 have lw:w<2^w:=Nat.lt_two_pow_self
 have e1:2^(w+1)=2^w*2:=Nat.pow_succ _ _
 have e2:2^(w+2)=2^w*4:=Nat.pow_add _ _ _
 have hYw:2^(w-7)<=2^w:=Nat.pow_le_pow_right (by omega) (by omega)
 have lY:=lim_len_pw (n:=Y) (w:=w+2) (by omega)
 have lY1:=lim_len_pw (n:=Y+1) (w:=w+2) (by omega)
 have i0:=eInv_0 w
 have lens:=fun (n t1 t2 a1 a2:Nat) (hn:n<=w/7+4) (h:eInv w n t1 t2 a1 a2)=>(show (lim t1).length<=20000000/\(lim t2).length<=20000000/\(lim a1).length<=20000000/\(lim a2).length<=20000000 from by
  obtain⟨q1,q2,q3,q4,q5,q6,q7,q8⟩:=h
  have a:=lim_len_pw (n:=t1) (w:=w+2) (by omega)
  have b:=lim_len_pw (n:=t2) (w:=w+2) (by omega)
  have c:=lim_len_pw (n:=a1) (w:=w+2) (by omega)
  have d:=lim_len_pw (n:=a2) (w:=w+2) (by omega)
  exact⟨by omega,by omega,by omega,by omega⟩)
 have step:=fun (n t1 t2 a1 a2:Nat) (h:eInv w n t1 t2 a1 a2)=>eInv_step (Y:=Y) hw hY h
 generalize hP:2^w=P at un h i0
 clear e1 e2 lw
 refine fni Tryz.f286 ?_;unfold Tryz.f286;simp only[Option.get!_some]
 repeat (first|simp only[go_sem]|simp (disch:=first|exact omg|fail) only[AX]|refine wki ?_|refine vf_of (by first|exact un) ?_)
 refine vp_loop_inv (fun s=>s.tmp 1 = .sv (.int .i64 (w:Int))/\s.tmp 2 = .ptr 2 0 0/\s.obj 2 0=some [natV (lim Y),natV (lim (Y+1))]/\s.tmp 4 = .ptr 4 0 0/\s.obj 4 0=some [.sl 0 [],.sl 0 []]/\s.tmp 5 = .ptr 5 0 0/\s.tmp 6 = .ptr 6 0 0 /\
   ∃f n t1 t2 a1 a2:Nat,s.tmp 7 = .sv (.int .u64 (n:Int))/\f+n=w/7+4/\eRow w Y f n t1 t2 a1 a2=some (A,B)/\s.obj 6 0=some [natV (lim t1),natV (lim t2)]/\s.obj 5 0=some [natV (lim a1),natV (lim a2)]/\eInv w n t1 t2 a1 a2)
  (fun s=>match s.tmp 7 with | .sv (.int _ i)=>w/7+5-i.toNat|_=>0) ⟨rfl,rfl,rfl,rfl,rfl,rfl,rfl,w/7+3,1,P,P+1,P,P+1,rfl,by omega,h,rfl,rfl,i0⟩ ?_
 rintro s ⟨i1,i2,o2,i4,o4,i5,i6,f,n,t1,t2,a1,a2,i7,hfn,hgo,o6,o5,hok⟩
 obtain⟨lt1,lt2,la1,la2⟩:=lens n t1 t2 a1 a2 (by omega) hok
 have hn1:=hok.1
 have st:=step n t1 t2 a1 a2 hok
 have sm:=fix_Small (a:=t1) (b:=t2) (by omega) (k:=1) (by omega)
 cases f with
 |zero=>simp only[eRow]at hgo;cases hgo
 |succ f=>
  rw[eRow]at hgo
  by_cases hs:t2<2
  ·rw[if_pos hs]at hgo
   simp only[Option.some.injEq,Prod.mk.injEq]at hgo
   obtain⟨rfl,rfl⟩:=hgo
   rw[decide_eq_true (show t2<2^1 from hs)]at sm
   have wd:=fix_Wider (a:=a1) (b:=a2) (n:=1) (by omega) (by omega) (by omega)
   clear step lens st h un
   repeat (first|simp only[go_sem,i1,i2,o2,i4,o4,i5,i6,i7,o5,o6,Bool.not_true]|simp (disch:=first|exact omg|fail) only[AX,i1,i2,o2,i4,o4,i5,i6,i7,o5,o6,Bool.not_true]|refine wki ?_|refine vf_of (by first|exact sm|exact wd) ?_)
  ·rw[if_neg hs]at hgo
   rw[decide_eq_false (show ¬t2<2^1 from hs)]at sm
   obtain⟨lu1,lu2,lb1,lb2⟩:=lens (n+1) _ _ _ _ (by omega) st
   have mu:=fix_Mul (a:=t1) (b:=t2) (c:=Y) (d:=Y+1) (w:=w) (by omega) (by omega) (by omega) (by omega) (by omega) (by omega)
   have o1:=fix_One
   have q1:=nat_Of n (by omega)
   have l1:=lim_len1
   have lq:(lim n).length<=2:=lim_len_lt (by omega)
   have z1:=lim_len_mul (a:=t1) (b:=Y)
   have z2:=lim_len_mul (a:=t2) (b:=Y+1)
   have z3:=lim_len_mono (Nat.div_le_self (t1*Y) (2^w))
   have z4:=lim_len_add (a:=t2*(Y+1)/2^w) (b:=1) (L:=40000000) (Nat.le_trans (lim_len_mono (Nat.div_le_self (t2*(Y+1)) (2^w))) (by omega)) (by omega)
   have ti:=fix_Times (a:=t1*Y/2^w) (b:=t2*(Y+1)/2^w+1) (n:=1) (d:=n) (by omega) (by omega) (by omega) (by omega) (by omega)
   generalize t1*Y/2^w*1/n=u1 at *
   generalize (t2*(Y+1)/2^w+1)*1/n+1=u2 at *
   generalize t1*Y/2^w=v1 at *
   generalize t2*(Y+1)/2^w+1=v2 at *
   have ad:=fix_Add (a:=a1) (b:=a2) (c:=u1) (d:=u2) (by omega) (by omega) (by omega) (by omega)
   clear step lens h un
   repeat (first|simp only[go_sem,i1,i2,o2,i4,o4,i5,i6,i7,o5,o6,Bool.not_false]|simp (disch:=first|exact omg|fail) only[AX,i1,i2,o2,i4,o4,i5,i6,i7,o5,o6,Bool.not_false]|refine wki ?_|refine vf_of (by first|exact sm|exact mu|exact o1|exact q1|exact ti|exact ad) ?_)
   exact⟨⟨f,n+1,u1,u2,a1+u1,a2+u2,rfl,by omega,hgo,rfl,rfl,st⟩,by omega⟩
def nearS (n d w:Nat) (R:Nat×Nat):Prop := ∃A B:Nat,eRow w (n*2^w/(d*2^14)) (w/7+3) 1 (2^w) (2^w+1) (2^w) (2^w+1)=some (A,B)/\A<=B/\2^w<=A/\B<2^(w+2)/\R=sqs w 14 A B
def nearR (neg:Bool) (w:Nat) (R:Nat×Nat):Nat×Nat:=if neg then (2^(2*w)/R.2,2^(2*w)/R.1+1) else R
set_option maxHeartbeats 1000000 in
theorem exps_near {s:Bool} {n d w:Nat} {R:Nat×Nat} (hd:0<d) (h:n<=64*d) (hw:160<=w) (hw2:w<=600000000) (ln:(lim n).length<=1000) (ld:(lim d).length<=1000) (hR:nearS n d w R) :
  Go.Ev.Fn CX 234 [ratV s (lim n) (lim d),.int .i64 (w:Int)] (spanV (nearR s w R).1 (nearR s w R).2):=by
 obtain⟨A,B,hr,hAB,hA,hB,rfl⟩:=hR
 have sh:=fix_shl (a:=d) (m:=14) (by omega) (by omega)
 have ls:=lim_len_shl (a:=d) (n:=14)
 have dp:0<d*2^14:=by omega
 have of:=fix_Of (n:=n) (d:=d*2^14) (w:=w) (by omega) (by omega) (by omega) (by omega)
 have hY:n*2^w/(d*2^14)+1<=2^(w-7):=by
  have e8:2^w=2^(w-8)*256:=by rw[show (256:Nat)=2^8 from rfl,<- Nat.pow_add];congr 1;omega
  have e7:2^(w-7)=2^(w-8)*2:=by rw[<- Nat.pow_succ];congr 1;omega
  have p8:0<2^(w-8):=Nat.pow_pos (by omega)
  have Yle:n*2^w/(d*2^14)<=2^(w-8):=by
   refine(Nat.div_le_iff_le_mul dp).2 ?_
   have m:=Nat.mul_le_mul_right (2^w) h
   have k:64*d*2^w=2^(w-8)*(d*2^14):=by
    rw[e8];generalize 2^(w-8)=z;rw[show (2:Nat)^14=16384 from rfl];grind
   omega
  omega
 have rw1:=exps_row (w:=w) (by omega) (by omega) hY hr
 generalize hY':n*2^w/(d*2^14)=Y at *
 have e14:d*2^14=d*16384:=rfl
 generalize d*2^14=d' at *
 clear hr hY ln ld ls
 obtain⟨c14,hc14⟩ : ∃c:Nat,c=32768:=⟨_,rfl⟩
 have fin:=sqs_ok (w:=w) 14 A B 2 (B-A+1) hA hAB hB (by omega) (by omega)
 obtain⟨R1,R2,hRR⟩ : ∃R1 R2:Nat,sqs w 14 A B=(R1,R2):=⟨_,_,rfl⟩
 rw[hRR]at fin ⊢
 obtain⟨f1,f2,f3,-⟩:=fin
 rw[show 2*2^14=c14 by omega]at f3
 simp only at f1 f2 f3
 have Pw:0<2^w:=Nat.pow_pos (by omega)
 have lR1:=lim_len_pw (n:=R1) (w:=w+c14) (by omega)
 have lR2:=lim_len_pw (n:=R2) (w:=w+c14) (by omega)
 have inv:=fix_Inverse (a:=R1) (b:=R2) (w:=w) (by omega) (by omega) (by omega) (by omega) (by omega)
 have loop : ∀ (k lo hi c:Nat),2^w<=lo->lo<=hi->hi<2^(w+c)->c*2^k<=c14->1<=k->(Go.Ev.Fn CX 164 [spanV lo hi,spanV lo hi,.int .i64 (w:Int)] (spanV (lo*lo/2^w) (hi*hi/2^w+1))/\2^w<=lo*lo/2^w/\lo*lo/2^w<=hi*hi/2^w+1/\hi*hi/2^w+1<2^(w+(c+c))/\(c+c)*2^(k-1)<=c14):=by
  intro k lo hi c h1 h2 h3 h4 h5
  obtain⟨s1,s2,s3,-⟩:=sq_step h1 h2 h3 (G:=hi-lo+1) (by omega) (by omega)
  have hc:c<=c14:=Nat.le_trans (Nat.le_mul_of_pos_right _ (Nat.pow_pos (by omega))) h4
  have l1:=lim_len_pw (n:=lo) (w:=w+c) (by omega)
  have l2:=lim_len_pw (n:=hi) (w:=w+c) h3
  have mu:=fix_Mul (a:=lo) (b:=hi) (c:=lo) (d:=hi) (w:=w) (by omega) (by omega) (by omega) (by omega) (by omega) (by omega)
  refine⟨mu,s1,s2,s3,?_⟩
  have e:(c+c)*2^(k-1)=c*2^k:=by
   obtain⟨j,rfl⟩ : ∃j,k=j+1:=⟨k-1,by omega⟩
   rw[Nat.add_sub_cancel,Nat.pow_succ,<- Nat.mul_two,Nat.mul_assoc,Nat.mul_comm 2]
  rw[e];exact h4
 refine fni Tryz.f234 ?_;unfold Tryz.f234;simp only[Option.get!_some]
 repeat (first|simp only[go_sem]|simp (disch:=first|exact omg|fail) only[AX]|refine wki ?_|refine vpd 1 [10,8,11] ?_|refine vf_of (by first|exact sh|exact of|exact rw1) ?_)
 refine vp_loop_inv (fun s'=>s'.tmp 1 = .sv (.int .i64 (w:Int))/\s'.tmp 2 = .ptr 2 0 0/\s'.obj 2 0=some [.bool s,natV (lim n),natV (lim d)]/\s'.tmp 4 = .ptr 4 0 0/\s'.obj 4 0=some [.sl 0 [],.sl 0 []]/\s'.tmp 6 = .ptr 6 0 0 /\
   ∃k lo hi c:Nat,s'.tmp 17 = .sv (.int .i64 ((14-k:Nat):Int))/\k<=14/\s'.obj 6 0=some [natV (lim lo),natV (lim hi)]/\sqs w k lo hi=(R1,R2)/\2^w<=lo/\lo<=hi/\hi<2^(w+c)/\c*2^k<=c14)
  (fun s'=>match s'.tmp 17 with | .sv (.int _ i)=>15-i.toNat|_=>0) ⟨rfl,rfl,rfl,rfl,rfl,rfl,14,A,B,2,rfl,by omega,rfl,hRR,hA,hAB,hB,by omega⟩ ?_
 rintro s' ⟨i1,i2,o2,i4,o4,i6,k,lo,hi,c,i17,hk,o6,hsq,g1,g2,g3,g4⟩
 cases k with
 |zero=>
  have hsq':(lo,hi)=(R1,R2):=hsq
  simp only[Prod.mk.injEq]at hsq'
  obtain⟨rfl,rfl⟩:=hsq'
  clear loop
  cases s with
  |true=>
   show _
   unfold nearR
   rw[if_pos rfl]
   repeat (first|simp only[go_sem,i1,i2,o2,i4,o4,i6,i17,o6]|simp (disch:=first|exact omg|fail) only[AX,i1,i2,o2,i4,o4,i6,i17,o6]|refine wki ?_|refine vpd 1 [10,8,11] ?_|refine vf_of (by first|exact inv) ?_)
  |false=>
   unfold nearR
   rw[if_neg (by simp)]
   repeat (first|simp only[go_sem,i1,i2,o2,i4,o4,i6,i17,o6]|simp (disch:=first|exact omg|fail) only[AX,i1,i2,o2,i4,o4,i6,i17,o6]|refine wki ?_|refine vpd 1 [10,8,11] ?_)
 |succ k=>
  obtain⟨mu,s1,s2,s3,s4⟩:=loop (k+1) lo hi c g1 g2 g3 g4 (by omega)
  rw[Nat.add_sub_cancel]at s4
  have hsq':sqs w k (lo*lo/2^w) (hi*hi/2^w+1)=(R1,R2):=hsq
  clear loop hsq
  generalize lo*lo/2^w=lo' at *
  generalize hi*hi/2^w+1=hi' at *
  repeat (first|simp only[go_sem,i1,i2,o2,i4,o4,i6,i17,o6]|simp (disch:=first|exact omg|fail) only[AX,i1,i2,o2,i4,o4,i6,i17,o6]|refine wki ?_|refine vpd 1 [10,8,11] ?_|refine vf_of (by first|exact mu) ?_)
  exact⟨⟨k,lo',hi',c+c,by congr 2;omega,by omega,rfl,hsq',s1,s2,s3,s4⟩,by omega⟩
end Go.Proofs.YtenjdajophfpcaaGreat
namespace Go.Proofs.YtenjdajophfpcaaGreat
open Go.Ev
def evX (x:Rat) (L:Nat):Rat:=if x<0 then 1/Ex.E (-x) L else Ex.E x L
def nearF (n d w:Nat):Nat×Nat:=match eRow w (n*2^w/(d*2^14)) (w/7+3) 1 (2^w) (2^w+1) (2^w) (2^w+1) with
 |some (A,B)=>sqs w 14 A B
 |none=>(0,0)
theorem nearF_ok {n d w g c:Nat} (hg:g=32794) (hc:c=32768) (hd:0<d) (h:n<=64*d) (hw:160<=w) :
  nearS n d w (nearF n d w)/\2^w<=(nearF n d w).1/\(nearF n d w).1<(nearF n d w).2/\(nearF n d w).2<2^(w+c)/\(nearF n d w).2<=(nearF n d w).1+w*2^g /\
   ∀x:Rat,x*(d:Rat)=(n:Rat) -> ∃s,∀L,s<=L->Enc w (nearF n d w).1 (nearF n d w).2 (Ex.E x L):=by
 obtain⟨A,B,r1,r2,r3,r4,r5,r6,r7,r8,r9⟩:=near_ok hg hc hd h hw
 have e:nearF n d w=sqs w 14 A B:=by unfold nearF;rw[r1]
 rw[e]
 have strict : ∀ (k lo hi:Nat),lo<=hi->(sqs w (k+1) lo hi).1<(sqs w (k+1) lo hi).2:=by
  intro k
  induction k with
  |zero=>
   intro lo hi h
   show lo*lo/2^w<hi*hi/2^w+1
   exact Nat.lt_succ_of_le (Nat.div_le_div_right (Nat.mul_le_mul h h))
  |succ k ih=>
   intro lo hi h
   exact ih _ _ (Nat.le_succ_of_le (Nat.div_le_div_right (Nat.mul_le_mul h h)))
 exact⟨⟨A,B,r1,r2,r3,r4,rfl⟩,r5,strict 13 A B r2,r7,r8,r9⟩
theorem exps_Exp1 {s:Bool} {n d:List Nat} {w:Nat} {r1 r2:Nat} (h:Go.Ev.Fn CX 234 [ratV s n d,.int .i64 (w:Int)] (spanV r1 r2)) :
  Go.Ev.Fn CX 233 [.int .i64 (w:Int),.mem [.bool s,natV n,natV d]] (spanV r1 r2):=by
 refine fni Tryz.f233 ?_;unfold Tryz.f233;simp only[Option.get!_some]
 repeat (first|simp only[go_sem]|simp (disch:=first|exact omg|fail) only[AX]|refine wki ?_|refine vf_of (by first|exact h) ?_)
theorem neg_numX {x:Rat}:decide (x.num<0)=decide (x<0):=by
 have h:=Rat.num_nonneg (q:=x)
 refine decide_eq_decide.2 ⟨fun g => ?_,fun g => ?_⟩
 ·have : ¬0<=x:=fun k=>absurd (h.2 k) (by omega)
  grind
 ·rcases Int.lt_or_le x.num 0 with k|k
  ·exact k
  ·exact absurd (h.1 k) (by grind)
section
variable {v:SV} {x:Rat} {L P:Nat} {pI:Int}
theorem exp_end {n d:Nat} {neg:Bool} (hn0:0<n) (hd:0<d) (h:n<=64*d) (hd2:d<=2^512) (hP:P<=512) (ln:(lim n).length<=1000) (ld:(lim d).length<=1000) :
  ∃m s0:Nat,(lim m).length<=5000/\Go.Ev.Fn CX 232 [.int .i64 (P:Int),.int .i64 160,.fn 233 [.mem [.bool neg,natV (lim n),natV (lim d)]]] (ballR (mkRat (m:Int) (2^P)) (mkRat ((m+1:Nat):Int) (2^P))) /\
   ∀x:Rat,x*(d:Rat)=(n:Rat) -> ∃s0,∀L,s0<=L->Enc P m (m+1) (if neg then 1/Ex.E x L else Ex.E x L):=by
 obtain⟨g,hg⟩ : ∃g:Nat,g=32794:=⟨_,rfl⟩
 obtain⟨c,hc⟩ : ∃g:Nat,g=32768:=⟨_,rfl⟩
 have ok:=fun w (hw:160<=w)=>nearF_ok (n:=n) (d:=d) (w:=w) hg hc hd h hw
 have dR:(0:Rat)<(d:Rat):=by exact_mod_cast hd
 obtain⟨q,hq⟩ : ∃q:Rat,q=(n:Rat)/(d:Rat):=⟨_,rfl⟩
 have qd:q*(d:Rat)=(n:Rat):=by rw[hq];exact Rat.div_mul_cancel (by grind)
 have q64:q<=64:=by
  refine le_by dR ?_
  rw[qd]
  have:((n:Nat):Rat)<=((64*d:Nat):Rat):=Ex.castle h
  rw[Ex.castmul]at this;exact this
 have cert : ∀w,282000000<=w->w<2*282000000->(nearR neg w (nearF n d w)).1/2^(w-P)=((nearR neg w (nearF n d w)).2-1)/2^(w-P):=by
  intro w hw hw2
  obtain⟨-,o1,o2,o3,o4,o5⟩:=ok w (by omega)
  obtain⟨s,hs⟩:=o5 q qd
  have w40:w<=2^40:=by omega
  cases neg with
  |false=>
   unfold nearR
   rw[if_neg (by simp)]
   exact cert_pos hn0 hd hd2 qd q64 hP (by omega) o2 o4 hs hw w40
  |true=>
   unfold nearR
   rw[if_pos rfl]
   exact cert_neg hn0 hd hd2 qd q64 hP (by omega) o1 o2 o4 hs hw w40
 have size : ∀w,160<=w->w<2*282000000->P<=w->(nearR neg w (nearF n d w)).1<2^(w+c)/\(nearR neg w (nearF n d w)).2<2^(w+c):=by
  intro w hw hw2 hPw
  obtain⟨-,o1,o2,o3,o4,-⟩:=ok w hw
  cases neg with
  |false=>
   unfold nearR
   rw[if_neg (by simp)]
   exact⟨by omega,o3⟩
  |true=>
   unfold nearR
   rw[if_pos rfl]
   have Pw:0<2^w:=Nat.pow_pos (by omega)
   have e2:2^(2*w)=2^w*2^w:=by rw[<- Nat.pow_add];congr 1;omega
   have big:2^w*4<=2^(w+c):=by
    rw[show (4:Nat)=2^2 from rfl,<- Nat.pow_add]
    exact Nat.pow_le_pow_right (by omega) (by omega)
   have one : ∀z:Nat,2^w<=z->2^(2*w)/z<=2^w:=by
    intro z hz
    refine(Nat.div_le_iff_le_mul (by omega)).2 ?_
    rw[e2]
    have:=Nat.mul_le_mul_left (2^w) hz
    omega
   have a:=one (nearF n d w).2 (by omega)
   have b:=one (nearF n d w).1 o1
   constructor
   ·show 2^(2*w)/(nearF n d w).2<_
    omega
   ·show 2^(2*w)/(nearF n d w).1+1<_
    omega
 obtain⟨w,w1,w2,w3,fn⟩:=fix_CertainL (p:=P) (sp:=160) (M:=282000000) (f:=233) (caps:=[.mem [.bool neg,natV (lim n),natV (lim d)]]) (lo:=fun w=>(nearR neg w (nearF n d w)).1) (hi:=fun w=>(nearR neg w (nearF n d w)).2) (by omega) (by omega) (by omega) (by omega) (by omega)
  (fun w hw hw2=>exps_Exp1 (exps_near hd h (by omega) (by omega) ln ld (ok w (by omega)).1))
  (fun w hw hw2=>by
   obtain⟨z1,z2⟩:=size w (by omega) hw2 (by omega)
   have a:=lim_len_pw z1
   have b:=lim_len_pw z2
   have m:(nearR neg w (nearF n d w)).1/2^(w-P)<2^(P+c):=by
    refine(Nat.div_lt_iff_lt_mul (Nat.pow_pos (by omega))).2 ?_
    rw[<- Nat.pow_add,show P+c+(w-P)=w+c by omega];exact z1
   have l:=lim_len_pw m
   exact⟨by omega,by omega,by omega⟩)
  cert
 obtain⟨z1,-⟩:=size w (by omega) w2 (by omega)
 obtain⟨-,o1,o2,o3,o4,o5⟩:=ok w (by omega)
 obtain⟨m,hm⟩ : ∃m,m=(nearR neg w (nearF n d w)).1/2^(w-P):=⟨_,rfl⟩
 have lm:m<2^(P+c):=by
  rw[hm]
  refine(Nat.div_lt_iff_lt_mul (Nat.pow_pos (by omega))).2 ?_
  rw[<- Nat.pow_add,show P+c+(w-P)=w+c by omega];exact z1
 have ll:=lim_len_pw lm
 refine⟨m,0,by omega,by rw[hm];exact fn,fun x hx => ?_⟩
 obtain⟨s0,hs⟩:=o5 x hx
 refine⟨s0,fun L hL => ?_⟩
 have en:Enc w (nearR neg w (nearF n d w)).1 (nearR neg w (nearF n d w)).2 (if neg then 1/Ex.E x L else Ex.E x L):=by
  cases neg with
  |false=>
   unfold nearR
   rw[if_neg (by simp),if_neg (by simp)]
   exact hs L hL
  |true=>
   unfold nearR
   rw[if_pos rfl,if_pos rfl]
   exact(enc_inv (by have:0<2^w:=Nat.pow_pos (by omega);omega) (hs L hL)).1
 have pos2:0<(nearR neg w (nearF n d w)).2:=by
  cases neg with
  |false=>unfold nearR;rw[if_neg (by simp)];omega
  |true=>unfold nearR;rw[if_pos rfl];exact Nat.succ_pos _
 have w3':m=((nearR neg w (nearF n d w)).2-1)/2^(w-P):=by rw[hm];exact w3
 generalize (if neg then 1/Ex.E x L else Ex.E x L)=z at *
 generalize (nearR neg w (nearF n d w)).1=lo at *
 generalize (nearR neg w (nearF n d w)).2=hi at *
 have Pw:=p2_pos (w-P)
 have e:p2 w=p2 P*p2 (w-P):=by
  have:w=P+(w-P):=by omega
  have e2:2^w=2^P*2^(w-P):=by rw[<- Nat.pow_add];congr 1
  show ((2^w:Nat):Rat)=_
  rw[e2];exact Ex.castmul _ _
 obtain⟨b1,b2⟩:=en
 rw[e,<- Rat.mul_assoc]at b1 b2
 constructor
 ·refine le_by Pw ?_
  have k:m*2^(w-P)<=lo:=by rw[hm];exact Nat.div_mul_le_self _ _
  have k2:=Ex.castle k
  rw[Ex.castmul]at k2
  exact Rat.le_trans k2 b1
 ·refine le_by Pw ?_
  have k:hi<=(m+1)*2^(w-P):=by
   have:=Nat.lt_mul_div_succ (hi-1) (show 0<2^(w-P) from Nat.pow_pos (by omega))
   rw[<- w3',Nat.mul_comm]at this
   omega
  have k2:=Ex.castle k
  rw[Ex.castmul]at k2
  exact Rat.le_trans b2 k2
theorem exps_Exp (hv:RatA v x L) (hL1:1<=L) (hL:L<=100) (hx0:x≠0) (h1 : -64<=x) (h2:x<=64) (hd:x.den<=2^512) (hP:P<=512) (hpI:(pI<=0/\P=0)\/pI=(P:Int)) :
  ∃m:Nat,(lim m).length<=5000/\Go.Ev.Fn CX 163 [v,.int .i64 pI] (.tup [ballR (mkRat (m:Int) (2^P)) (mkRat ((m+1:Nat):Int) (2^P)),.bool true]) /\ ∃s0,∀L,s0<=L->Enc P m (m+1) (evX x L):=by
 have zx:=szR_of hv hL1
 have n1:=rat_Norm hv (by omega)
 have im:=rat_Int (-64) (by omega)
 have ip:=rat_Int 64 (by omega)
 have c1:=rat_Cmp (RatA_rv zx) (RatA_rv (int_szR (n := -64) (by omega))) hL1 (by omega) (by omega)
 have c2:=rat_Cmp (RatA_rv zx) (RatA_rv (int_szR (n:=64) (by omega))) hL1 (by omega) (by omega)
 have zr:=rat_Zero (RatA_rv zx) hL1 (by omega)
 rw[decide_eq_false hx0]at zr
 have e1:decide (cmpR x ((-64:Int):Rat)<0)=false:=by rw[cmpR_lt];exact decide_eq_false (Rat.not_lt.2 h1)
 have e2:decide (cmpR x ((64:Int):Rat)>0)=false:=by rw[cmpR_gt];exact decide_eq_false (Rat.not_lt.2 h2)
 have dp:=x.den_pos
 have dR:(0:Rat)<(x.den:Rat):=by exact_mod_cast dp
 have nd:=Ex.denR x
 have n0:0<x.num.natAbs:=by
  have:x.num≠0:=fun e=>hx0 (num_zero.1 e)
  omega
 have xm:x.num<=64*(x.den:Int) /\ -(64*(x.den:Int))<=x.num:=by
  constructor
  ·have m:=Rat.mul_le_mul_of_nonneg_right h2 (Rat.le_of_lt dR)
   rw[nd]at m
   have:(x.num:Rat)<=((64*(x.den:Int):Int):Rat):=by rw[Rat.intCast_mul];exact m
   exact Rat.intCast_le_intCast.1 this
  ·have m:=Rat.mul_le_mul_of_nonneg_right h1 (Rat.le_of_lt dR)
   rw[nd]at m
   have:((-(64*(x.den:Int)):Int):Rat)<=(x.num:Rat):=by
    rw[Rat.intCast_neg,Rat.intCast_mul]
    have e : -(((64:Int):Rat)*((x.den:Int):Rat)) = -64*(x.den:Rat):=by
     have e3:((x.den:Int):Rat)=(x.den:Rat):=rfl
     have e4:((64:Int):Rat)=64:=rfl
     rw[e3,e4];grind
    rw[e];exact m
   exact Rat.intCast_le_intCast.1 this
 obtain⟨m,-,lm,fn,en⟩:=exp_end (P:=P) (n:=x.num.natAbs) (d:=x.den) (neg:=decide (x.num<0)) n0 dp (by omega) hd hP (Nat.le_trans zx.1 (by omega)) (Nat.le_trans zx.2 (by omega))
 have x1:(if (0:Int)>pI then (0:Int) else pI)=(P:Int):=by split<;>omega
 have x2:(if (512:Int)<(P:Int) then (512:Int) else (P:Int))=(P:Int):=if_neg (by omega)
 refine⟨m,lm,?_,?_⟩
 ·clear en nd xm zx h1 h2 hx0 hpI
  obtain⟨s,n,d,rfl,-⟩:=hv
  generalize mkRat (m:Int) (2^P)=q1 at *
  generalize mkRat ((m+1:Nat):Int) (2^P)=q2 at *
  generalize cmpR x ((-64:Int):Rat)=y1 at *
  generalize cmpR x ((64:Int):Rat)=y2 at *
  refine fni Tryz.f163 ?_;unfold Tryz.f163;simp only[Option.get!_some]
  repeat (first|simp only[go_sem,x1,x2,e1,e2,List.size_toArray,Array.size_empty]|simp (disch:=first|exact omg|fail) only[AX,x1,x2,e1,e2,List.size_toArray,Array.size_empty]|refine wki ?_|refine vpd 2 [] ?_|refine vf_of (by first|exact n1|exact im|exact c1|exact ip|exact c2|exact zr|exact fn) ?_)
 ·by_cases hneg:x.num<0
  ·have xneg:x<0:=by
    have:=neg_numX (x:=x)
    rw[decide_eq_true hneg]at this
    exact of_decide_eq_true this.symm
   obtain⟨s0,hs⟩:=en (-x) (by
    have e:(x.num.natAbs:Int) = -x.num:=by omega
    have e2:((x.num.natAbs:Nat):Rat)=((x.num.natAbs:Int):Rat):=rfl
    rw[e2,e,Rat.intCast_neg,<- nd];grind)
   rw[decide_eq_true hneg]at hs
   refine⟨s0,fun L hL => ?_⟩
   unfold evX
   rw[if_pos xneg]
   exact hs L hL
  ·have xpos : ¬x<0:=by
    have:=neg_numX (x:=x)
    rw[decide_eq_false hneg]at this
    exact of_decide_eq_false this.symm
   obtain⟨s0,hs⟩:=en x (by
    have e:(x.num.natAbs:Int)=x.num:=by omega
    have e2:((x.num.natAbs:Nat):Rat)=((x.num.natAbs:Int):Rat):=rfl
    rw[e2,e,<- nd])
   rw[decide_eq_false hneg]at hs
   refine⟨s0,fun L hL => ?_⟩
   unfold evX
   rw[if_neg xpos]
   exact hs L hL
end
end Go.Proofs.YtenjdajophfpcaaGreat
namespace Go.Proofs.YtenjdajophfpcaaGreat
open Go.Ev
def tRow (w Y1 Y2 M:Nat):Nat->Nat->Nat->Nat->Nat->Nat->Option (Nat×Nat)
 |0,_,_,_,_,_=>none
 |f+1,k,t1,t2,a1,a2=>if M<=k/\t2<4 then some (a1,a2+8) else
   tRow w Y1 Y2 M f (k+2) (t1*Y1/2^w*1/k) ((t2*Y2/2^w+1)*1/k+1) (a1+t1*Y1/2^w*1/k) (a2+((t2*Y2/2^w+1)*1/k+1))
def tInv (w k0 i k t1 t2 a1 a2:Nat):Prop:=k=k0+2*i/\t1<=t2/\a1<=a2/\t2<2^(w+9+9*min i 1024)/\a2<(i+2)*2^(w+10000)
theorem tInv_0 {w k0 t1 t2 a1 a2:Nat} (h1:t1<=t2) (h2:a1<=a2) (h3:t2<2^(w+9)) (h4:a2<2^(w+10)):tInv w k0 0 k0 t1 t2 a1 a2:=by
 have:2^(w+10)<=2^(w+10000):=Nat.pow_le_pow_right (by omega) (by omega)
 refine⟨by omega,h1,h2,h3,by omega⟩
theorem tStep_le {w Y2 k t2:Nat} (hY:Y2<=2^(w+8)) (hk:1<=k):(t2*Y2/2^w+1)*1/k+1<=t2*256+2/\(2048<=k->(t2*Y2/2^w+1)*1/k+1<=t2/8+2)/\(2048<=k->t2<=4->(t2*Y2/2^w+1)*1/k+1=1):=by
 have P:0<2^w:=Nat.pow_pos (by omega)
 have h1:t2*Y2/2^w<=t2*256:=by
  refine(Nat.div_le_iff_le_mul P).2 ?_
  have m:=Nat.mul_le_mul_left t2 hY
  have e:t2*2^(w+8)=2^w*(t2*256):=by rw[Nat.pow_add,show (2:Nat)^8=256 from rfl,Nat.mul_left_comm]
  rw[Nat.mul_comm (t2*256)]
  omega
 rw[Nat.mul_one]
 generalize t2*Y2/2^w=q at *
 have a:=Nat.div_le_self (q+1) k
 refine⟨by omega,fun g => ?_,fun g g2 => ?_⟩
 ·have b:(q+1)/k<=(q+1)/2048:=Nat.div_le_div_left g (by omega)
  omega
 ·rw[Nat.div_eq_of_lt (by omega)]
theorem tInv_step {w Y1 Y2 k0 i k t1 t2 a1 a2:Nat} (hY:Y2<=2^(w+8)) (hY1:Y1<=Y2) (hk0:1<=k0) (h:tInv w k0 i k t1 t2 a1 a2) :
  tInv w k0 (i+1) (k+2) (t1*Y1/2^w*1/k) ((t2*Y2/2^w+1)*1/k+1) (a1+t1*Y1/2^w*1/k) (a2+((t2*Y2/2^w+1)*1/k+1)):=by
 obtain⟨h1,h2,h3,h4,h5⟩:=h
 obtain⟨u1,u2,u3⟩:=tStep_le (t2:=t2) hY (show 1<=k by omega)
 have q0:t1*Y1/2^w*1/k<=(t2*Y2/2^w+1)*1/k+1:=by
  refine Nat.le_succ_of_le (Nat.div_le_div_right (Nat.mul_le_mul_right 1 ?_))
  exact Nat.le_succ_of_le (Nat.div_le_div_right (Nat.mul_le_mul h2 hY1))
 have nt:(t2*Y2/2^w+1)*1/k+1<2^(w+9+9*min (i+1) 1024):=by
  by_cases hi:i<1024
  ·rw[show min (i+1) 1024=min i 1024+1 by omega,show w+9+9*(min i 1024+1)=(w+9+9*min i 1024)+9 by omega,Nat.pow_add _ _ 9,show (2:Nat)^9=512 from rfl]
   have:2^2<=2^(w+9+9*min i 1024):=Nat.pow_le_pow_right (by omega) (by omega)
   omega
  ·rw[show min (i+1) 1024=min i 1024 by omega]
   have g:=u2 (by omega)
   have:2^4<=2^(w+9+9*min i 1024):=Nat.pow_le_pow_right (by omega) (by omega)
   omega
 have le:2^(w+9+9*min (i+1) 1024)<=2^(w+10000):=Nat.pow_le_pow_right (by omega) (by omega)
 generalize t1*Y1/2^w*1/k=x at *
 generalize (t2*Y2/2^w+1)*1/k+1=y at *
 refine⟨by omega,q0,by omega,nt,?_⟩
 rw[show i+1+2=(i+2)+1 by omega,Nat.add_mul (i+2) 1,Nat.one_mul]
 omega
theorem tRow_low {w Y1 Y2 M k0:Nat} (hY:Y2<=2^(w+8)) (hY1:Y1<=Y2) (hk0:1<=k0) (hM:M<=2048) : ∀ (m f i k t1 t2 a1 a2:Nat),tInv w k0 i k t1 t2 a1 a2->2048<=k->t2<=2^(3*m)+3->m+2<=f -> ∃A B,tRow w Y1 Y2 M f k t1 t2 a1 a2=some (A,B)/\A<=B/\B<(i+m+4)*2^(w+10000):=by
 intro m
 induction m with
 |zero=>
  intro f i k t1 t2 a1 a2 h hk ht hf
  obtain⟨f,rfl⟩ : ∃j,f=j+2:=⟨f-2,by omega⟩
  have P:2^4<=2^(w+10000):=Nat.pow_le_pow_right (by omega) (by omega)
  have hh:=h
  obtain⟨h1,h2,h3,h4,h5⟩:=hh
  rw[tRow]
  by_cases g:M<=k/\t2<4
  ·rw[if_pos g]
   refine⟨a1,a2+8,rfl,by omega,?_⟩
   rw[show i+0+4=(i+2)+2 by omega,Nat.add_mul (i+2) 2]
   omega
  ·rw[if_neg g]
   have st:=tInv_step hY hY1 hk0 h
   have t4:t2<=4:=by have:2^(3*0)=1:=rfl;omega
   rw[(tStep_le (t2:=t2) hY (show 1<=k by omega)).2.2 hk t4]at st ⊢
   obtain⟨k1,k2,k3,k4,k5⟩:=st
   rw[tRow,if_pos (by omega)]
   refine⟨_,_,rfl,by omega,?_⟩
   rw[show i+0+4=(i+1+2)+1 by omega,Nat.add_mul (i+1+2) 1]
   omega
 |succ m ih=>
  intro f i k t1 t2 a1 a2 h hk ht hf
  obtain⟨f,rfl⟩ : ∃j,f=j+1:=⟨f-1,by omega⟩
  have P:2^4<=2^(w+10000):=Nat.pow_le_pow_right (by omega) (by omega)
  have hh:=h
  obtain⟨h1,h2,h3,h4,h5⟩:=hh
  rw[tRow]
  by_cases g:M<=k/\t2<4
  ·rw[if_pos g]
   refine⟨a1,a2+8,rfl,by omega,?_⟩
   rw[show i+(m+1)+4=(i+2)+(m+3) by omega,Nat.add_mul (i+2)]
   have:=Nat.le_mul_of_pos_left (2^(w+10000)) (show 0<m+3 by omega)
   omega
  ·rw[if_neg g]
   have st:=tInv_step hY hY1 hk0 h
   have up:=(tStep_le (t2:=t2) hY (show 1<=k by omega)).2.1 hk
   have dv:t2/8<=2^(3*m):=by
    have e:2^(3*(m+1))=2^(3*m)*8:=by rw[show 3*(m+1)=3*m+3 by omega,Nat.pow_add]
    rw[e]at ht
    omega
   obtain⟨A,B,r1,r2,r3⟩:=ih f (i+1) (k+2) _ _ _ _ st (by omega) (by omega) (by omega)
   exact⟨A,B,r1,r2,by rw[show i+(m+1)+4=i+1+m+4 by omega];exact r3⟩
theorem tRow_end {w Y1 Y2 M k0:Nat} (hY:Y2<=2^(w+8)) (hY1:Y1<=Y2) (hk0:1<=k0) (hM:M<=2048) (hw:w<=3000) : ∀ (d f i k t1 t2 a1 a2:Nat),tInv w k0 i k t1 t2 a1 a2->2048<=k+2*d->i+d<=1024->d+4100<=f -> ∃A B,tRow w Y1 Y2 M f k t1 t2 a1 a2=some (A,B)/\A<=B/\B<2^(w+10014):=by
 have fin : ∀z B:Nat,z<=16000->B<z*2^(w+10000)->B<2^(w+10014):=by
  intro z B hz hB
  have e:2^(w+10014)=16384*2^(w+10000):=by rw[show w+10014=14+(w+10000) by omega,Nat.pow_add 2 14]
  have m:=Nat.mul_le_mul_right (2^(w+10000)) (show z<=16384 by omega)
  omega
 intro d
 induction d with
 |zero=>
  intro f i k t1 t2 a1 a2 h hk hi hf
  have h4:=h.2.2.2.1
  obtain⟨m,hm⟩ : ∃m:Nat,m=4098:=⟨_,rfl⟩
  obtain⟨A,B,r1,r2,r3⟩:=tRow_low hY hY1 hk0 hM m f i k t1 t2 a1 a2 h (by omega) (by
   have:2^(w+9+9*min i 1024)<=2^(3*m):=Nat.pow_le_pow_right (by omega) (by omega)
   omega) (by omega)
  exact⟨A,B,r1,r2,fin _ _ (by omega) r3⟩
 |succ d ih=>
  intro f i k t1 t2 a1 a2 h hk hi hf
  obtain⟨f,rfl⟩ : ∃j,f=j+1:=⟨f-1,by omega⟩
  have hh:=h
  obtain⟨h1,h2,h3,h4,h5⟩:=hh
  rw[tRow]
  by_cases g:M<=k/\t2<4
  ·rw[if_pos g]
   refine⟨a1,a2+8,rfl,by omega,fin (i+3) _ (by omega) ?_⟩
   have P:2^4<=2^(w+10000):=Nat.pow_le_pow_right (by omega) (by omega)
   rw[show i+3=(i+2)+1 by omega,Nat.add_mul (i+2) 1]
   omega
  ·rw[if_neg g]
   exact ih f (i+1) (k+2) _ _ _ _ (tInv_step hY hY1 hk0 h) (by omega) (by omega) (by omega)
end Go.Proofs.YtenjdajophfpcaaGreat
namespace Go.Proofs.YtenjdajophfpcaaGreat
open Go.Ev
theorem p2_add (a b:Nat):p2 (a+b)=p2 a*p2 b:=by
 show ((2^(a+b):Nat):Rat)=_
 rw[Nat.pow_add]
 exact_mod_cast rfl
theorem n_mul (a b:Nat):((a*b:Nat):Rat)=(a:Rat)*(b:Rat):=by exact_mod_cast rfl
theorem n_le {a b:Nat} (h:a<=b):(a:Rat)<=(b:Rat):=by exact_mod_cast h
theorem n_nn (a:Nat):(0:Rat)<=(a:Rat):=by exact_mod_cast Nat.zero_le a
def SQ:Rat:=mkRat (rootPi:Int) (2^400)
theorem SQ_mul:SQ*p2 400=(rootPi:Rat):=by
 unfold SQ
 rw[Rat.mkRat_eq_div]
 exact Rat.div_mul_cancel (by have:(0:Rat)<p2 400:=p2_pos 400;grind)
theorem SQ_nn:0<=SQ:=le_by (p2_pos 400) (by rw[SQ_mul,Rat.zero_mul];exact n_nn _)
theorem sq_split {p:Nat} (hp:p<=800):SQ*SQ*p2 p*p2 (800-p)=((rootPi*rootPi:Nat):Rat):=by
 have h1:p2 p*p2 (800-p)=p2 400*p2 400:=by rw[<- p2_add,<- p2_add];congr 1;omega
 have h2:SQ*SQ*p2 p*p2 (800-p)=SQ*SQ*(p2 p*p2 (800-p)):=by grind
 have h3:SQ*SQ*(p2 400*p2 400)=(SQ*p2 400)*(SQ*p2 400):=by grind
 rw[h2,h1,h3,SQ_mul,n_mul]
theorem sq_lo {a p:Nat} (hp:p<=800) (h:a*2^(800-p)<=rootPi*rootPi):(a:Rat)<=SQ*SQ*p2 p:=by
 refine le_by (p2_pos (800-p)) ?_
 rw[sq_split hp]
 have:=n_le h
 rw[n_mul]at this
 exact this
theorem sq_hi {a p:Nat} (hp:p<=800) (h:rootPi*rootPi<=a*2^(800-p)):SQ*SQ*p2 p<=(a:Rat):=by
 refine le_by (p2_pos (800-p)) ?_
 rw[sq_split hp]
 have:=n_le h
 rw[n_mul a]at this
 exact this
theorem sq_ge {a p:Nat} (hp:p<=400) (h:rootPi*rootPi<=(a+1)*2^(800-p)):2^p<=a:=by
 have h1:2*2^800<=rootPi*rootPi:=by decide +kernel
 have h2:2^800=2^p*2^(800-p):=by rw[<- Nat.pow_add];congr 1;omega
 have h3:0<2^(800-p):=Nat.pow_pos (by omega)
 have h4:2*2^p*2^(800-p)<=(a+1)*2^(800-p):=by rw[Nat.mul_assoc,<- h2];exact Nat.le_trans h1 h
 have h5:=Nat.le_of_mul_le_mul_right h4 h3
 have h6:0<2^p:=Nat.pow_pos (by omega)
 omega
theorem sq_mono {x y:Rat} (hx:0<=x) (hy:0<=y) (h:x*x<=y*y):x<=y:=by
 rcases Rat.le_total (a:=x) (b:=y) with g|g
 ·exact g
 ·by_cases e:y=x
  ·rw[e];exact Rat.le_refl
  ·have h1:y<x:=by grind
   have h2:y*y<=x*y:=Rat.mul_le_mul_of_nonneg_right g hy
   have h3:x*y<x*x:=by
    have:0<x*(x-y):=Rat.mul_pos (by grind) (by grind)
    grind
   grind
theorem root_width {lo lo' hi' hi A B P:Rat} (hP:0<P) (a2:lo<=lo') (a4:A<=lo'*lo') (a5:(lo'-lo)*P<=1) (h0:0<=lo) (b1:0<=hi') (b3:hi'*hi'<=B) (b5:(hi-hi')*P<=1) (hA:1<=A) (hAB:(B-A)*P<=1) (hAB0:A<=B):(hi-lo)*P<=3:=by
 have l0:0<=lo':=Rat.le_trans h0 a2
 have l1:1<=lo':=sq_mono (by decide) l0 (by rw[Rat.mul_one];exact Rat.le_trans hA a4)
 have key:hi'-lo'<=B-A:=by
  rcases Rat.le_total (a:=hi') (b:=lo') with g|g
  ·grind
  ·have h1:(hi'-lo')*1<=(hi'-lo')*(hi'+lo'):=Rat.mul_le_mul_of_nonneg_left (by grind) (by grind)
   have h2:(hi'-lo')*(hi'+lo')=hi'*hi'-lo'*lo':=by grind
   grind
 have k2:=Rat.mul_le_mul_of_nonneg_right key (show 0<=P by grind)
 have e:(hi-lo)*P=(hi-hi')*P+(hi'-lo')*P+(lo'-lo)*P:=by grind
 grind
end Go.Proofs.YtenjdajophfpcaaGreat
namespace Go.Proofs.YtenjdajophfpcaaGreat
open Go.Ev
theorem pi256:piOk 256=true:=by kernel_rfl
theorem pi328:piOk 328=true:=by kernel_rfl
theorem arcs_PiX {p:Nat} (h1:8<=p) (h2:p<233\/p=256\/p=328) : ∃a:Nat,Go.Ev.Fn CX 241 [.int .i64 (p:Int)] (ballR (mkRat (a:Int) (2^p)) (mkRat ((a+1:Nat):Int) (2^p)))/\a*2^(800-p)<=rootPi*rootPi/\rootPi*rootPi<=(a+1)*2^(800-p):=by
 have h:piOk p=true:=by
  rcases h2 with h2|rfl|rfl
  ·exact allFrom_at pi_ok p h1 (by omega)
  ·exact pi256
  ·exact pi328
 unfold piOk at h
 split at h
 ·rename_i lo hi hpi
  rw[pin_eq,Bool.and_eq_true,Bool.and_eq_true]at h
  obtain⟨k1,k2,k3⟩:=h
  have k1:=Nat.eq_of_beq_eq_true k1
  have k2:=Nat.le_of_ble_eq_true k2
  have k3:=Nat.le_of_ble_eq_true k3
  obtain⟨f,g1,g2⟩:=arcs_pi (by omega) (by omega) hpi
  have c:=fix_Certain1 (p:=p) (sp:=64) f (by omega) (by omega) (by omega) (by omega) (by omega) k1
  refine⟨lo/2^64,?_,k2,k3⟩
  have hh:=arcs_held (p:Int)
  rw[if_neg (by omega),if_neg (by omega)]at hh
  generalize mkRat ((lo/2^64:Nat):Int) (2^p)=q1 at *
  generalize mkRat ((lo/2^64+1:Nat):Int) (2^p)=q2 at *
  clear k2 k3 f hpi
  refine fni Tryz.f241 ?_;unfold Tryz.f241;simp only[Option.get!_some]
  repeat (first|simp only[go_sem]|simp (disch:=first|exact omg|fail) only[AX]|refine wki ?_|refine vf_of (by first|exact hh|exact c) ?_)
 ·cases h
end Go.Proofs.YtenjdajophfpcaaGreat
namespace Go.Proofs.YtenjdajophfpcaaGreat
open Go.Ev
theorem mk_p2 (a p:Nat):mkRat (a:Int) (2^p)*p2 p=(a:Rat):=mk_mulP (a:Int) (Nat.pow_pos (by omega))
theorem many_pi {d:Nat} (h1:8<=d) (h2:d<233\/d=256\/d=328) : ∃m1 m2:Rat,Go.Ev.Fn CX 241 [.int .i64 (d:Int)] (ballR m1 m2)/\m1<=SQ*SQ/\SQ*SQ<=m2/\(m2-m1)*p2 d<=1/\1<=m1/\szR m1 40/\szR m2 40:=by
 obtain⟨a,f,g1,g2⟩:=arcs_PiX h1 h2
 have P:=p2_pos d
 have e1:=mk_p2 a d
 have e2:=mk_p2 (a+1) d
 have k1:=sq_lo (by omega) g1
 have k2:=sq_hi (a:=a+1) (by omega) g2
 have k3:=sq_ge (by omega) g2
 have hA:a<=2^(d+4):=by
  have x1:rootPi*rootPi<=2^804:=by decide +kernel
  have x2:2^804=2^(d+4)*2^(800-d):=by rw[<- Nat.pow_add];congr 1;omega
  rw[x2]at x1
  exact Nat.le_of_mul_le_mul_right (Nat.le_trans g1 x1) (Nat.pow_pos (by omega))
 have hp:2^d<=2^(d+4):=Nat.pow_le_pow_right (by omega) (by omega)
 have hB:a+1<=2^(d+5):=by
  have:2^(d+5)=2^(d+4)*2:=by rw[<- Nat.pow_succ]
  have:=Nat.pow_pos (a:=2) (n:=d+4) (by omega)
  omega
 have lp:=lim_len_p2 hp (by omega)
 have la:=lim_len_p2 hA (by omega)
 have lb:=lim_len_p2 hB (by omega)
 refine⟨_,_,f,le_by P (by rw[e1];exact k1),le_by P (by rw[e2];exact k2),?_,le_by P (by rw[e1,Rat.one_mul];exact n_le k3),szR_nat la lp (by omega),szR_nat lb lp (by omega)⟩
 have e : ∀a b c:Rat,(a-b)*c=a*c-b*c:=by intro a b c;grind
 rw[e,e1,e2]
 have:((a+1:Nat):Rat)=(a:Rat)+1:=by exact_mod_cast rfl
 rw[this]
 grind
theorem many_root {m1 m2:Rat} {d:Nat} (hd:d<400) (h1:m1<=SQ*SQ) (h2:SQ*SQ<=m2) (h3:(m2-m1)*p2 d<=1) (h4:1<=m1) (z1:szR m1 40) (z2:szR m2 40) :
  ∃lo hi:Rat,Go.Ev.Fn CX 288 [ballR m1 m2,.int .i64 (d:Int)] (.tup [ballR lo hi,.bool true])/\lo<=SQ/\SQ<=hi/\(hi-lo)*p2 d<=3/\szR lo 80/\szR hi 80:=by
 have h5:m1<=m2:=Rat.le_trans h1 h2
 obtain⟨lo,lo',hi',hi,f,g1,g2,g3,g4,g5,k1,k2,k3,k4,k5,y1,y2⟩:=root_Of (L:=40) (p:=d) (A:=m1) (B:=m2) (by grind) (by grind) z1 z2 (by omega) (by omega) (by omega)
 refine⟨lo,hi,f,sq_mono g1 SQ_nn (Rat.le_trans g3 h1),sq_mono SQ_nn (Rat.le_trans k1 k2) (Rat.le_trans h2 k4),root_width (p2_pos d) g2 g4 g5 g1 k1 k3 k5 h4 h3 h5,y1,y2⟩
section
variable {v:SV} {q:Rat} {roots pI:Int} {P:Nat}
end
end Go.Proofs.YtenjdajophfpcaaGreat
