/- Part 8 of the proof: the evaluator, contracts of functions and their plain laws (joined by program). No condition. -/
import Derived.Test.YtenjdajophfpcaaGreatPart7
set_option linter.unusedVariables false
set_option linter.unusedSimpArgs false
set_option maxRecDepth 100000
namespace Go.Proofs.YtenjdajophfpcaaGreat
open Go.Ev
section
variable {v:SV} {z:Rat} {L P w:Nat} {pI:Int}
theorem bell_nigh (hv:RatA v z L) (hL1:1<=L) (hL:L<=100) (h1 : -8<=z) (h2:z<=8):Go.Ev.Fn CX 264 [v] (.bool false):=by
 have zx:=szR_of hv hL1
 have im:=rat_Int (-8) (by omega)
 have ip:=rat_Int 8 (by omega)
 have c1:=rat_Cmp hv (RatA_rv (int_szR (n := -8) (by omega))) hL1 (by omega) (by omega)
 have c2:=rat_Cmp hv (RatA_rv (int_szR (n:=8) (by omega))) hL1 (by omega) (by omega)
 have e1:decide (cmpR z ((-8:Int):Rat)<0)=false:=by rw[cmpR_lt];exact decide_eq_false (Rat.not_lt.2 h1)
 have e2:decide (cmpR z ((8:Int):Rat)>0)=false:=by rw[cmpR_gt];exact decide_eq_false (Rat.not_lt.2 h2)
 obtain⟨s,n,d,rfl,-⟩:=hv
 generalize cmpR z ((-8:Int):Rat)=y1 at *
 generalize cmpR z ((8:Int):Rat)=y2 at *
 refine fni Tryz.f264 ?_;unfold Tryz.f264;simp only[Option.get!_some]
 repeat (first|simp only[go_sem,e1,e2]|simp (disch:=first|exact omg|fail) only[AX,e1,e2]|refine wki ?_|refine vpd 1 [] ?_|refine vf_of (by first|exact im|exact c1|exact ip|exact c2) ?_)
theorem bell_held (hpI:(pI<=0/\P=0)\/pI=(P:Int)) (hP:P<=200):Go.Ev.Fn CX 265 [.int .i64 pI] (.int .i64 (P:Int)):=by
 have e1:(if (0:Int)>pI then (0:Int) else pI)=(P:Int):=by split<;>omega
 have e2:(if (200:Int)<(P:Int) then (200:Int) else (P:Int))=(P:Int):=if_neg (by omega)
 refine fni Tryz.f265 ?_;unfold Tryz.f265;simp only[Option.get!_some]
 repeat (first|simp only[go_sem,e1,e2]|simp (disch:=first|exact omg|fail) only[AX,e1,e2]|refine wki ?_)
theorem unN_mk (m w:Nat):unN (mkRat (m:Int) (2^w)) w=m:=by
 have P:0<2^w:=Nat.pow_pos (by omega)
 obtain⟨q,hq⟩ : ∃q,q=mkRat (m:Int) (2^w):=⟨_,rfl⟩
 have e:=mk_p2 m w
 rw[<- hq]at e ⊢
 have q0:0<=q:=by
  refine le_by (p2_pos w) ?_
  rw[e,Rat.zero_mul];exact nat_nonneg m
 have nn:0<=q.num:=Rat.num_nonneg.2 q0
 have d:=Ex.denR q
 have k:((q.num.natAbs*2^w:Nat):Rat)=((m*q.den:Nat):Rat):=by
  rw[Ex.castmul,Ex.castmul,<- e]
  have:((q.num.natAbs:Nat):Rat)=(q.num:Rat):=by
   have h:((q.num.natAbs:Nat):Rat)=((q.num.natAbs:Int):Rat):=rfl
   rw[h,Int.natAbs_of_nonneg nn]
  rw[this,<- d];grind
 have k2:=Ex.nat_inj k
 show q.num.natAbs*2^w/q.den=m
 rw[k2]
 exact Nat.mul_div_cancel _ q.den_pos
theorem exps_Exp0 {pI:Int} (hv:RatA v 0 L) (hL:L<=100):Go.Ev.Fn CX 163 [v,.int .i64 pI] (.tup [ballR 1 1,.bool true]):=by
 have n1:=rat_Norm hv (by omega)
 have im:=rat_Int (-64) (by omega)
 have ip:=rat_Int 64 (by omega)
 have i1:=rat_Int 1 (by omega)
 have z0:szR 0 1:=szR_zero (by omega)
 have c1:=rat_Cmp (RatA_rv z0) (RatA_rv (int_szR (n := -64) (by omega))) (by omega) (by omega) (by omega)
 have c2:=rat_Cmp (RatA_rv z0) (RatA_rv (int_szR (n:=64) (by omega))) (by omega) (by omega) (by omega)
 have zr:=rat_Zero (RatA_rv z0) (by omega) (by omega)
 rw[decide_eq_true rfl]at zr
 have o:=ball_Of (RatA_rv (int_szR (n:=1) (by omega))) (by omega)
 rw[show ((1:Int):Rat)=1 from rfl]at i1 o
 have e1:decide (cmpR 0 ((-64:Int):Rat)<0)=false:=by rw[cmpR_lt];decide +kernel
 have e2:decide (cmpR 0 ((64:Int):Rat)>0)=false:=by rw[cmpR_gt];decide +kernel
 obtain⟨s,n,d,rfl,-⟩:=hv
 generalize cmpR 0 ((-64:Int):Rat)=y1 at *
 generalize cmpR 0 ((64:Int):Rat)=y2 at *
 refine fni Tryz.f163 ?_;unfold Tryz.f163;simp only[Option.get!_some]
 repeat (first|simp only[go_sem,e1,e2]|simp (disch:=first|exact omg|fail) only[AX,e1,e2]|refine wki ?_|refine vpd 2 [] ?_|refine vf_of (by first|exact n1|exact im|exact c1|exact ip|exact c2|exact zr|exact i1|exact o) ?_)
theorem bell_fall (hv:RatA v z L) (hL1:1<=L) (hL:L<=100) (h1 : -64<=z) (h2:z<=0) (hd:z.den<=2^512) (hw:w<=512) :
  ∃A B:Nat,A<=B/\B<=A+2/\B<=2^w+2/\Go.Ev.Fn CX 302 [v,.int .i64 (w:Int)] (spanV A B) /\ ∃s0,∀L,s0<=L->Enc w A B (evX z L):=by
 have P:=p2_pos w
 by_cases h0:z=0
 ·subst h0
  have ex:=exps_Exp0 (pI:=(w:Int)) hv hL
  have fb:=fix_Ball (w:=w) (lo:=1) (hi:=1) (L:=1) ⟨lim_len_lt (by decide +kernel),lim_len_lt (by decide +kernel)⟩ ⟨lim_len_lt (by decide +kernel),lim_len_lt (by decide +kernel)⟩ (by omega) (by omega)
  have u:unN 1 w=2^w:=by show (1:Rat).num.natAbs*2^w/(1:Rat).den=_;rw[show (1:Rat).num.natAbs=1 from rfl,show (1:Rat).den=1 from rfl,Nat.one_mul,Nat.div_one]
  rw[u]at fb
  refine⟨2^w,2^w+1,by omega,by omega,by omega,?_,1,fun L hL => ?_⟩
  ·obtain⟨s,n,d,rfl,-⟩:=hv
   generalize 2^w=y at *
   refine fni Tryz.f302 ?_;unfold Tryz.f302;simp only[Option.get!_some]
   repeat (first|simp only[go_sem]|simp (disch:=first|exact omg|fail) only[AX]|refine wki ?_|refine vf_of (by first|exact ex|exact fb) ?_)
  ·have e:evX 0 L=1:=by
    unfold evX
    rw[if_neg (by decide)]
    obtain⟨k,rfl⟩ : ∃k,L=k+1:=⟨L-1,by omega⟩
    exact Ex.E_zero k
   rw[e]
   refine⟨by rw[Rat.one_mul];exact Rat.le_refl,?_⟩
   rw[Rat.one_mul]
   exact_mod_cast Nat.le_succ (2^w)
 ·have hneg:z<0:=by grind
  obtain⟨m,lm,fn,s0,hs⟩:=exps_Exp (P:=w) (pI:=(w:Int)) hv hL1 hL h0 h1 (by grind) hd hw (.inr rfl)
  have hm:m<=2^w:=by
   have e:=(hs (s0+1) (by omega)).1
   have one:=E_one (x := -z) (by grind) (L:=s0+1) (by omega)
   have i:Ex.E (-z) (s0+1)*(1/Ex.E (-z) (s0+1))=1:=Ex.mul_div _ 1 (by grind)
   have i0:0<=1/Ex.E (-z) (s0+1):=Ex.div_nn (by decide) (by grind)
   have le1:1/Ex.E (-z) (s0+1)<=1:=by
    have:=Rat.mul_le_mul_of_nonneg_right one i0
    rw[i,Rat.one_mul]at this;exact this
   unfold evX at e
   rw[if_pos hneg]at e
   have k:=Rat.le_trans e (Rat.mul_le_mul_of_nonneg_right le1 (Rat.le_of_lt P))
   rw[Rat.one_mul]at k
   exact_mod_cast k
  have lp:=lim_len_pw (n:=2^w) (w:=w+1) (by rw[Nat.pow_succ];have:0<2^w:=Nat.pow_pos (by omega);omega)
  have lm2:=lim_len_pw (n:=m+1) (w:=w+2) (by rw[Nat.pow_add];have:0<2^w:=Nat.pow_pos (by omega);omega)
  have lm1:(lim m).length<=(lim (m+1)).length:=lim_len_mono (Nat.le_succ m)
  have z1:szR (mkRat (m:Int) (2^w)) 20:=szR_nat (by omega) (by omega) (by omega)
  have z2:szR (mkRat ((m+1:Nat):Int) (2^w)) 20:=szR_nat (by omega) (by omega) (by omega)
  have fb:=fix_Ball (w:=w) z1 z2 (by omega) (by omega)
  rw[unN_mk,unN_mk]at fb
  refine⟨m,m+2,by omega,by omega,by omega,?_,s0,fun L hL => ?_⟩
  ·clear hs z1 z2 hd h1 h2 h0 hneg
   obtain⟨s,n,d,rfl,-⟩:=hv
   generalize mkRat (m:Int) (2^w)=q1 at *
   generalize mkRat ((m+1:Nat):Int) (2^w)=q2 at *
   refine fni Tryz.f302 ?_;unfold Tryz.f302;simp only[Option.get!_some]
   repeat (first|simp only[go_sem]|simp (disch:=first|exact omg|fail) only[AX]|refine wki ?_|refine vf_of (by first|exact fn|exact fb) ?_)
  ·exact enc_wider (n:=1) (hs L hL)
theorem unN_lt {q:Rat} (h0:0<=q) (w:Nat):q*p2 w<((unN q w+1:Nat):Rat):=by
 have d:=Ex.denR q
 have dR:(0:Rat)<(q.den:Rat):=by exact_mod_cast q.den_pos
 have nn:0<=q.num:=Rat.num_nonneg.2 h0
 have k:=Nat.lt_mul_div_succ (q.num.natAbs*2^w) q.den_pos
 have k2:=Ex.castlt k
 rw[Ex.castmul,Ex.castmul]at k2
 have e:((q.num.natAbs:Nat):Rat)=(q.num:Rat):=by
  have h:((q.num.natAbs:Nat):Rat)=((q.num.natAbs:Int):Rat):=rfl
  rw[h,Int.natAbs_of_nonneg nn]
 rw[e,<- d]at k2
 refine Rat.not_le.1 fun hc => ?_
 have m:=Rat.mul_le_mul_of_nonneg_right hc (Rat.le_of_lt dR)
 have k3:q*(q.den:Rat)*p2 w<(q.den:Rat)*((unN q w+1:Nat):Rat):=k2
 grind
theorem unN_mono {p q:Rat} (h0:0<=p) (h:p<=q) (w:Nat):unN p w<=unN q w:=by
 have a:=(unN_le h0 w).1
 have b:=(unN_lt (show 0<=q by grind) w)
 have m:=Rat.mul_le_mul_of_nonneg_right h (Rat.le_of_lt (p2_pos w))
 have k:((unN p w:Nat):Rat)<((unN q w+1:Nat):Rat):=by grind
 have k2:unN p w<unN q w+1:=by exact_mod_cast k
 omega
theorem lohi1 {c lo hi:Rat} (hc:0<=c) (g:lo<=hi):loL (c*lo) [c*hi,c*lo,c*hi]=c*lo/\hiL (c*lo) [c*hi,c*lo,c*hi]=c*hi:=by
 have g2:=Rat.mul_le_mul_of_nonneg_left g hc
 generalize c*lo=u at *
 generalize c*hi=v at *
 constructor
 ·simp only[loL,List.foldl_cons,List.foldl_nil,mnR]
  repeat (first|rw[if_neg (by grind)]|rfl)
 ·simp only[hiL,List.foldl_cons,List.foldl_nil,mxR]
  by_cases e:u<v
  ·rw[if_pos e,if_neg (show ¬v<u by grind),if_neg (show ¬v<v by grind)]
  ·rw[if_neg e,if_neg (show ¬u<u by grind),if_neg e];grind
theorem fix_RatS {s:Bool} {n d:Nat} (hd:0<d) (ln:(lim n).length<=1000) (ld:(lim d).length<=1000) (hw:w<=10000):Go.Ev.Fn CX 172 [ratV s (lim n) (lim d),.int .i64 (w:Int)] (spanV (n*2^w/d) (n*2^w/d+1)):=by
 have of:=fix_Of (n:=n) (d:=d) (w:=w) (by omega) (by omega) (by omega) (by omega)
 generalize n*2^w/d=x at *
 refine fni Tryz.f172 ?_;unfold Tryz.f172;simp only[Option.get!_some]
 repeat (first|simp only[go_sem]|simp (disch:=first|exact omg|fail) only[AX]|refine wki ?_|refine vf_of (by first|exact of) ?_)
end
end Go.Proofs.YtenjdajophfpcaaGreat
namespace Go.Proofs.YtenjdajophfpcaaGreat
open Go.Ev
theorem ball_Neg {a b:Rat} {L:Nat} (ha:szR a L) (hb:szR b L) (hL1:1<=L) (hL:L<=100000):Go.Ev.Fn CX 268 [ballR a b] (ballR (-b) (-a)):=by
 have n1:=rat_Neg (RatA_rv ha) hL1 (by omega)
 have n2:=rat_Neg (RatA_rv hb) hL1 (by omega)
 generalize -a=u at *
 generalize -b=w at *
 refine fni Tryz.f268 ?_;unfold Tryz.f268;simp only[Option.get!_some]
 repeat (first|simp only[go_sem]|simp (disch:=first|exact omg|fail) only[AX]|refine wki ?_|refine vpd 1 [] ?_|refine vf_of (by first|exact n2|exact n1) ?_)
theorem ball_Add {a b c d:Rat} {L M:Nat} (ha:szR a L) (hb:szR b L) (hc:szR c M) (hd:szR d M) (hL1:1<=L) (hM1:1<=M) (hL:L+M<=100000):Go.Ev.Fn CX 269 [ballR a b,ballR c d] (ballR (a+c) (b+d)):=by
 have s1:=rat_Add (RatA_rv ha) (RatA_rv hc) hL1 hM1 (by omega)
 have s2:=rat_Add (RatA_rv hb) (RatA_rv hd) hL1 hM1 (by omega)
 generalize a+c=x at *
 generalize b+d=y at *
 refine fni Tryz.f269 ?_;unfold Tryz.f269;simp only[Option.get!_some]
 repeat (first|simp only[go_sem]|simp (disch:=first|exact omg|fail) only[AX]|refine wki ?_|refine vpd 1 [] ?_|refine vf_of (by first|exact s1|exact s2) ?_)
theorem rv_neg (z:Rat) : ∃s:Bool,rv (-z)=ratV s (lim z.num.natAbs) (lim z.den):=by
 refine⟨decide ((-z).num<0),?_⟩
 show ratV (decide ((-z).num<0)) (lim (-z).num.natAbs) (lim (-z).den)=_
 rw[Rat.neg_num,Rat.neg_den,Int.natAbs_neg]
theorem two_len:szR 2 1:=⟨lim_len_lt (by decide +kernel),lim_len_lt (by decide +kernel)⟩
theorem den_le {q:Rat} {L:Nat} (h:szR q L) (hL:L<=16):q.den<=2^512:=by
 have a:q.den<4294967296^(lim q.den).length:=lim_len_pow
 have b:4294967296^(lim q.den).length<=4294967296^16:=Nat.pow_le_pow_right (by omega) (Nat.le_trans h.2 hL)
 have c:4294967296^16<=2^512:=by decide +kernel
 omega
theorem num_le8 {z:Rat} (h0:0<=z) (h:z<=8):z.num.natAbs<=8*z.den:=by
 have d:=Ex.denR z
 have dR:(0:Rat)<(z.den:Rat):=by exact_mod_cast z.den_pos
 have nn:0<=z.num:=Rat.num_nonneg.2 h0
 have m:=Rat.mul_le_mul_of_nonneg_right h (Rat.le_of_lt dR)
 rw[d]at m
 have k:z.num<=8*(z.den:Int):=by
  have:(z.num:Rat)<=((8*(z.den:Int):Int):Rat):=by rw[Rat.intCast_mul];exact m
  exact Rat.intCast_le_intCast.1 this
 omega
theorem neg64 {q:Rat} (h0:0<=q) (h:q<=64) : -64 <= -q /\ -q<=0:=by constructor<;>grind
theorem sq_same {y z:Rat} (h:y=z\/y = -z):y*y=z*z:=by rcases h with rfl|rfl<;>grind
theorem sq_bd {z:Rat} (h0:0<=z) (h:z<=8):0<=z*z/\z*z<=64:=by
 have a:=Rat.mul_nonneg h0 h0
 have b:=Rat.mul_le_mul_of_nonneg_left h h0
 exact⟨a,by grind⟩
section
variable {z:Rat} {w P:Nat} {pI:Int}
end
end Go.Proofs.YtenjdajophfpcaaGreat
namespace Go.Proofs.YtenjdajophfpcaaGreat
open Go.Ev
theorem half_div:((1:Int):Rat)/((2:Int):Rat)=1/2:=rfl
theorem hlf_len:szR (1/2) 1:=⟨lim_len_lt (by decide +kernel),lim_len_lt (by decide +kernel)⟩
theorem unit_len:szR 1 1:=⟨lim_len_lt (by decide +kernel),lim_len_lt (by decide +kernel)⟩
theorem told_span {A B w p:Nat} (hAB:A<=B) (hB:B<2^(w+10040)) (hp:p<w) (hw:w<=500) :
  ∃l h:Rat,l<=h/\0<=l/\szR l 400/\szR h 400/\l=mkRat ((A/2^(w-p):Nat):Int) (2^p)/\h=mkRat ((B/2^(w-p)+1:Nat):Int) (2^p)/\Go.Ev.Fn CX 111 [spanV A B,.int .i64 (w:Int),.int .i64 (p:Int)] (ballR l h):=by
 have lB:=lim_len_pw hB
 have lA:=lim_len_mono hAB
 have t:=fix_Told (a:=A) (b:=B) (w:=w) (p:=p) (by omega) (by omega) hp (by omega)
 have P:=p2_pos p
 have a:=mk_p2 (A/2^(w-p)) p
 have b:=mk_p2 (B/2^(w-p)+1) p
 have d:A/2^(w-p)<=B/2^(w-p)+1:=Nat.le_succ_of_le (Nat.div_le_div_right hAB)
 have l1:=lim_len_mono (Nat.div_le_self A (2^(w-p)))
 have l2:=lim_len_mono (Nat.div_le_self B (2^(w-p)))
 have l3:=lim_len_add (a:=B/2^(w-p)) (b:=1) (L:=399) (by omega) (by have:=lim_len1;omega)
 have lp:=lim_len_shl (a:=1) (n:=p)
 rw[Nat.one_mul]at lp
 have lo:=lim_len1
 refine⟨_,_,le_by P ?_,le_by P ?_,szR_nat (by omega) (by omega) (by omega),szR_nat (by omega) (by omega) (by omega),rfl,rfl,t⟩
 ·rw[a,b];exact Ex.castle d
 ·rw[a,Rat.zero_mul];exact nat_nonneg _
section
variable {z:Rat} {P:Nat} {pI:Int}
theorem num_neg_iff {x:Rat} (h:0<x):decide (x.num<0)=false/\decide ((-x).num<0)=true:=by
 have a:=neg_numX (x:=x)
 have b:=neg_numX (x := -x)
 rw[decide_eq_false (show ¬x<0 by grind)]at a
 rw[decide_eq_true (show -x<0 by grind)]at b
 exact⟨a,b⟩
theorem bell_Phi0 {v:SV} (hv:RatA v 0 3):Go.Ev.Fn CX 207 [v,.int .i64 pI] (.tup [ballR (1/2) (1/2),.bool true]):=by
 have z0:szR 0 3:=szR_zero (by omega)
 have fr:=bell_nigh hv (by omega) (by omega) (by decide +kernel) (by decide +kernel)
 have nm:=rat_Norm hv (by omega)
 have zr:=rat_Zero (RatA_rv z0) (by omega) (by omega)
 rw[decide_eq_true rfl]at zr
 have i1:=rat_Int 1 (by omega)
 have i2:=rat_Int 2 (by omega)
 have dv:=rat_Div (RatA_rv (int_szR (n:=1) (by omega))) (RatA_rv (int_szR (n:=2) (by omega))) (by omega) (by omega) (by omega)
 rw[half_div,decide_eq_true (show ¬((2:Int):Rat)=0 by decide)]at dv
 have oh:=ball_Of (RatA_rv hlf_len) (by omega)
 obtain⟨s,n,d,rfl,-⟩:=hv
 generalize (1/2:Rat)=hf at *
 refine fni Tryz.f207 ?_;unfold Tryz.f207;simp only[Option.get!_some]
 repeat (first|simp only[go_sem]|simp (disch:=first|exact omg|fail) only[AX]|refine wki ?_|refine vpd 8 [] ?_|refine vpd 11 [] ?_|refine vf_of (by first|exact fr|exact nm|exact i1|exact i2|exact dv|exact zr|exact oh) ?_)
end
end Go.Proofs.YtenjdajophfpcaaGreat
namespace Go.Proofs.YtenjdajophfpcaaGreat
open Go.Ev
theorem distE_one:Go.Ev.Fn CX 106 [] (ballR 1 1):=by
 have i1:=rat_Int 1 (by omega)
 have o:=ball_Of (RatA_rv (int_szR (n:=1) (by omega))) (by omega)
 rw[show ((1:Int):Rat)=1 from rfl]at i1 o
 refine fni Tryz.f106 ?_;unfold Tryz.f106;simp only[Option.get!_some]
 repeat (first|simp only[go_sem]|simp (disch:=first|exact omg|fail) only[AX]|refine wki ?_|refine vf_of (by first|exact i1|exact o) ?_)
abbrev noB:SV := .agg [.bool false,.sl 0 [],.sl 0 [],.bool false,.sl 0 [],.sl 0 []]
section
variable {v:SV} {x l h:Rat} {L P:Nat} {p:Int} {ok:Bool}
theorem chance_normal {n m:Int} {sa sb:Bool} {na da nb db:List Nat} {a b:Rat} {M:Nat} (hA:RatA (ratV sa na da) a M) (hB:RatA (ratV sb nb db) b M) (hM:1<=M) (hM2:M<=1000) (hx:RatA v x L) (hL1:1<=L) (hL:L<=1000)
  (f:Go.Ev.Fn CX 207 [rv ((x-a)/b),.int .i64 p] (.tup [ballR l h,.bool ok])) :
  Go.Ev.Fn CX 138 [distV 1 n m sa na da sb nb db,v,.int .i64 p] (.tup [ballR l h,.bool ok]):=by
 have zx:=szR_of hx hL1
 have za:=szR_of hA hM
 have sb:=rat_Sub hx hA hL1 hM (by omega)
 have ov:=dist_over (RatA_rv (szR_sub zx za hL1)) hB (by omega) hM (by omega)
 clear hA hB zx za
 obtain⟨s,nn,dd,rfl,-⟩:=hx
 generalize (x-a)/b=y at *
 generalize x-a=y2 at *
 refine fni Tryz.f138 ?_;unfold Tryz.f138;simp only[Option.get!_some]
 repeat (first|simp only[go_sem]|simp (disch:=first|exact omg|fail) only[AX]|refine wki ?_|refine vpd 3 [] ?_|refine vpd 11 [] ?_|refine vpd 13 [] ?_|refine vpd 15 [] ?_|refine vpd 17 [] ?_|refine vpd 18 [] ?_|refine vpd 24 [] ?_|refine vpd 26 [] ?_|refine vf_of (by first|exact sb|exact ov|exact f) ?_)
theorem chance_expo {n m:Int} {sa sb:Bool} {na da nb db:List Nat} {a:Rat} {M:Nat} (hA:RatA (ratV sa na da) a M) (hM:1<=M) (hM2:M<=1000) (hx:RatA v x L) (hL1:1<=L) (hL:L<=1000) (h0:0<x) (z1:szR l 400) (z2:szR h 400)
  (f:Go.Ev.Fn CX 163 [rv (-(a*x)),.int .i64 p] (.tup [ballR l h,.bool ok])) :
  Go.Ev.Fn CX 138 [distV 2 n m sa na da sb nb db,v,.int .i64 p] (.tup [ballR (1-h) (1-l),.bool ok]):=by
 have bl:=dist_below hx hL1 (by omega) 0 (by omega)
 have ab:=dist_above hx hL1 (by omega) 0 (by omega)
 rw[show ((0:Int):Rat)=0 from rfl]at bl ab
 rw[decide_eq_false (show ¬x<0 by grind)]at bl
 rw[decide_eq_true h0]at ab
 have zx:=szR_of hx hL1
 have za:=szR_of hA hM
 have mu:=rat_Mul hA hx hM hL1 (by omega)
 have ng:=rat_Neg (RatA_rv (szR_mul za zx hM)) (by omega) (by omega)
 have d1:=distE_one
 have bs:=ball_Sub (a:=1) (b:=1) (L:=400) (szR_mono unit_len (by omega)) (szR_mono unit_len (by omega)) z1 z2 (by omega) (by omega)
 clear hA zx za z1 z2 h0
 obtain⟨s,nn,dd,rfl,-⟩:=hx
 generalize -(a*x)=y1 at *
 generalize a*x=y2 at *
 generalize 1-h=u1 at *
 generalize 1-l=u2 at *
 refine fni Tryz.f138 ?_;unfold Tryz.f138;simp only[Option.get!_some]
 repeat (first|simp only[go_sem,Bool.not_true]|simp (disch:=first|exact omg|fail) only[AX,Bool.not_true]|refine wki ?_|refine vpd 3 [] ?_|refine vpd 11 [] ?_|refine vpd 13 [] ?_|refine vpd 15 [] ?_|refine vpd 17 [] ?_|refine vpd 18 [] ?_|refine vpd 24 [] ?_|refine vpd 26 [] ?_|refine vf_of (by first|exact bl|exact ab|exact mu|exact ng|exact f|exact d1|exact bs) ?_)
end
end Go.Proofs.YtenjdajophfpcaaGreat
namespace Go.Proofs.YtenjdajophfpcaaGreat
open Go.Ev
def ofV (ok:Bool) (lo hi:Rat):SV:=if ok then .tup [ballR lo hi,.int .i64 0] else .tup [noB,.int .i64 7]
section
variable {k n m:Int} {sa sb:Bool} {na da nb db:List Nat} {Lo Hi:Tells} {κ:Rat}
structure Fam (κ:Rat) (d:SV) (Lo Hi:Tells) (c:Rat) (W:Nat) (lo0 hi0:Rat):Prop where
 ck:Go.Ev.Fn CX 28 [d] (.int .i64 0)
 ct:Go.Ev.Fn CX 29 [d] (.bool false)
 iw:Go.Ev.Fn CX 32 [d] (.bool false)
 st:Go.Ev.Fn CX 33 [d] (.tup [rv lo0,rv hi0])
 W0:0<W
 hW:W<18446744073709551616
 zc:szR c 10
 hl:c<=lo0
 hh:hi0<=c+134217728
 lt:lo0<hi0
 dl:Dz c W 22 lo0
 dh:Dz c W 22 hi0
 cdf:CdfA κ d Lo Hi c W lo0 hi0
theorem srg_0 {q c lo0 hi0:Rat} {W:Nat} (hl:c<=lo0) (hh:hi0<=c+134217728) (lt:lo0<hi0) (dl:Dz c W 22 lo0) (dh:Dz c W 22 hi0):SrG Lo Hi q c W lo0 hi0 0 lo0 hi0:=by
 refine⟨.inl rfl,.inl rfl,lt,dl,dh,?_⟩
 show (hi0-lo0)*1<=134217728*1
 grind
set_option maxHeartbeats 4000000 in
theorem of_G {p W:Nat} {pI:Int} (hp:p<=20) (hpI:(pI<=0/\p=0)\/pI=(p:Int)) {q c lo0 hi0:Rat} {v:SV} (F:Fam κ (distV k n m sa na da sb nb db) Lo Hi c W lo0 hi0) (hq:RatA v q 1) (q0:0<q) (q1:q<1) :
  ∃ok lo hi,Go.Ev.Fn CX 8 [distV k n m sa na da sb nb db,v,.int .i64 pI] (ofV ok lo hi) /\
   (ok=true -> ∃k',SrG Lo Hi q c W lo0 hi0 k' lo hi/\k'<=114/\hi-lo<=mkRat 1 (2^p)) /\
   (ok=false->(∃s,ToldK κ Lo Hi q lo0 s/\0<=s)\/(∃s,ToldK κ Lo Hi q hi0 s/\s<=0)\/Stuck κ Lo Hi q (mkRat 1 (2^p)/4) lo0 hi0):=by
 have zq:=szR_of hq (by omega)
 obtain⟨to,t,htoE,htt,ht,t0,hto,h65,z1,z2⟩:=to_factsG hp
 obtain⟨ck,ct,iw,st,W0,hW,zc,hl,hh,lt,dl,dh,hcdf⟩:=F
 obtain⟨_,_,⟨b,k',lo,hi,S,hk,hw,hst,rfl,rfl⟩,nr⟩:=narrows_G (q:=q) hp W0 hW zc zq htt ht t0 hto h65 z1 z2 (srg_0 hl hh lt dl dh) hl hh hcdf
 have zl:szR lo0 20:=srg_sz (q:=q) dl (by omega) W0 hW zc hl hh (by grind) (by grind)
 have zh:szR hi0 20:=srg_sz (q:=q) dh (by omega) W0 hW zc hl hh (by grind) (by grind)
 obtain⟨_,_,⟨s1,ht1,rfl,rfl⟩,sl⟩:=side_K (lo:=lo0) (hi:=hi0) zq zl (hcdf lo0 ⟨22,by omega,dl⟩ (by grind) (by grind))
 obtain⟨_,_,⟨s2,ht2,rfl,rfl⟩,sh⟩:=side_K (lo:=lo0) (hi:=hi0) zq zh (hcdf hi0 ⟨22,by omega,dh⟩ (by grind) (by grind))
 have i0:=rat_Int 0 (by omega)
 have i1:=rat_Int 1 (by omega)
 have d0:=rat_Cmp hq (RatA_rv (int_szR (n:=0) (by omega))) (by omega) (by omega) (by omega)
 have d1:=rat_Cmp hq (RatA_rv (int_szR (n:=1) (by omega))) (by omega) (by omega) (by omega)
 have e0:=cmpR_le (q:=q) (r:=((0:Int):Rat))
 have e1:=cmpR_ge (q:=q) (r:=((1:Int):Rat))
 have k0:((0:Int):Rat)=0:=rfl
 have k1:((1:Int):Rat)=1:=rfl
 rw[k0]at i0 d0 e0
 rw[k1]at i1 d1 e1
 rw[decide_eq_false (show ¬q<=0 by grind)]at e0
 rw[decide_eq_false (show ¬1<=q by grind)]at e1
 have bo:=ball_Of hq (by omega)
 have bt:=q_bit p (by omega)
 rw[<- htoE]at bt
 have x1:(if (0:Int)>pI then (0:Int) else pI)=(p:Int):=by split<;>omega
 have x2:(if (40:Int)<(p:Int) then (40:Int) else (p:Int))=(p:Int):=if_neg (by omega)
 by_cases g1:s1>=0
 ·refine⟨false,0,0,?_,fun h=>(nomatch h),fun _ => .inl ⟨s1,ht1,g1⟩⟩
  clear k0 k1 S hk hw hst ht htt t0 hto h65 z1 z2 htoE q0 q1 hcdf ht1 ht2 zq nr sh zc hl hh lt dl dh
  obtain⟨sq,nq,dq,rfl,-⟩:=hq
  show Go.Ev.Fn CX _ _ (.tup [noB,.int .i64 7])
  refine fni Tryz.f8 ?_;unfold Tryz.f8;simp only[Option.get!_some]
  repeat (first|simp only[go_sem,e0,e1]|simp (disch:=first|exact omg|fail) only[AX,e0,e1]|refine wki ?_|refine vpd 6 [] ?_|refine vpd 11 [] ?_|refine vpd 14 [] ?_|refine vf_of (by first|exact ck|exact ct|exact i0|exact d0|exact i1|exact d1|exact iw|exact st|exact bo) ?_)
  refine vi_of sl rfl ?_
  repeat (first|simp only[go_sem]|simp (disch:=first|exact omg|fail) only[AX]|refine wki ?_|refine vpd 6 [] ?_|refine vpd 11 [] ?_|refine vpd 14 [] ?_)
 by_cases g2:s2<=0
 ·refine⟨false,0,0,?_,fun h=>(nomatch h),fun _ => .inr (.inl ⟨s2,ht2,g2⟩)⟩
  clear k0 k1 S hk hw hst ht htt t0 hto h65 z1 z2 htoE q0 q1 hcdf ht1 ht2 zq nr zc hl hh lt dl dh
  obtain⟨sq,nq,dq,rfl,-⟩:=hq
  show Go.Ev.Fn CX _ _ (.tup [noB,.int .i64 7])
  refine fni Tryz.f8 ?_;unfold Tryz.f8;simp only[Option.get!_some]
  repeat (first|simp only[go_sem,e0,e1]|simp (disch:=first|exact omg|fail) only[AX,e0,e1]|refine wki ?_|refine vpd 6 [] ?_|refine vpd 11 [] ?_|refine vpd 14 [] ?_|refine vf_of (by first|exact ck|exact ct|exact i0|exact d0|exact i1|exact d1|exact iw|exact st|exact bo) ?_)
  refine vi_of sl rfl ?_
  repeat (first|simp only[go_sem]|simp (disch:=first|exact omg|fail) only[AX]|refine wki ?_|refine vpd 6 [] ?_|refine vpd 11 [] ?_|refine vpd 14 [] ?_)
  refine vi_of sh rfl ?_
  repeat (first|simp only[go_sem]|simp (disch:=first|exact omg|fail) only[AX]|refine wki ?_|refine vpd 6 [] ?_|refine vpd 11 [] ?_|refine vpd 14 [] ?_)
 rw[htoE]at hw
 rw[htt,htoE]at hst
 cases b
 ·refine⟨false,0,0,?_,fun h=>(nomatch h),fun _ => .inr (.inr (hst rfl))⟩
  clear k0 k1 S hk hw hst ht htt t0 hto h65 z1 z2 htoE q0 q1 hcdf ht1 ht2 zq zc hl hh lt dl dh
  obtain⟨sq,nq,dq,rfl,-⟩:=hq
  show Go.Ev.Fn CX _ _ (.tup [noB,.int .i64 7])
  refine fni Tryz.f8 ?_;unfold Tryz.f8;simp only[Option.get!_some]
  repeat (first|simp only[go_sem,e0,e1]|simp (disch:=first|exact omg|fail) only[AX,e0,e1]|refine wki ?_|refine vpd 6 [] ?_|refine vpd 11 [] ?_|refine vpd 14 [] ?_|refine vf_of (by first|exact ck|exact ct|exact i0|exact d0|exact i1|exact d1|exact iw|exact st|exact bo) ?_)
  refine vi_of sl rfl ?_
  repeat (first|simp only[go_sem]|simp (disch:=first|exact omg|fail) only[AX]|refine wki ?_|refine vpd 6 [] ?_|refine vpd 11 [] ?_|refine vpd 14 [] ?_)
  refine vi_of sh rfl ?_
  repeat (first|simp only[go_sem,x1,x2]|simp (disch:=first|exact omg|fail) only[AX,x1,x2]|refine wki ?_|refine vpd 6 [] ?_|refine vpd 11 [] ?_|refine vpd 14 [] ?_|refine vf_of (by first|exact bt) ?_)
  refine vi_of nr rfl ?_
  repeat (first|simp only[go_sem,Bool.not_false]|simp (disch:=first|exact omg|fail) only[AX,Bool.not_false]|refine wki ?_|refine vpd 6 [] ?_|refine vpd 11 [] ?_|refine vpd 14 [] ?_)
 ·refine⟨true,lo,hi,?_,fun _=>⟨k',S,hk,hw rfl⟩,fun h=>(nomatch h)⟩
  clear k0 k1 S hk hw hst ht htt t0 hto h65 z1 z2 htoE q0 q1 hcdf ht1 ht2 zq zc hl hh lt dl dh
  obtain⟨sq,nq,dq,rfl,-⟩:=hq
  show Go.Ev.Fn CX _ _ (.tup [ballR lo hi,.int .i64 0])
  refine fni Tryz.f8 ?_;unfold Tryz.f8;simp only[Option.get!_some]
  repeat (first|simp only[go_sem,e0,e1]|simp (disch:=first|exact omg|fail) only[AX,e0,e1]|refine wki ?_|refine vpd 6 [] ?_|refine vpd 11 [] ?_|refine vpd 14 [] ?_|refine vf_of (by first|exact ck|exact ct|exact i0|exact d0|exact i1|exact d1|exact iw|exact st|exact bo) ?_)
  refine vi_of sl rfl ?_
  repeat (first|simp only[go_sem]|simp (disch:=first|exact omg|fail) only[AX]|refine wki ?_|refine vpd 6 [] ?_|refine vpd 11 [] ?_|refine vpd 14 [] ?_)
  refine vi_of sh rfl ?_
  repeat (first|simp only[go_sem,x1,x2]|simp (disch:=first|exact omg|fail) only[AX,x1,x2]|refine wki ?_|refine vpd 6 [] ?_|refine vpd 11 [] ?_|refine vpd 14 [] ?_|refine vf_of (by first|exact bt) ?_)
  refine vi_of nr rfl ?_
  repeat (first|simp only[go_sem,Bool.not_true]|simp (disch:=first|exact omg|fail) only[AX,Bool.not_true]|refine wki ?_|refine vpd 6 [] ?_|refine vpd 11 [] ?_|refine vpd 14 [] ?_)
end
end Go.Proofs.YtenjdajophfpcaaGreat
namespace Go.Proofs.YtenjdajophfpcaaGreat
open Go.Ev
end Go.Proofs.YtenjdajophfpcaaGreat
namespace Go.Proofs.YtenjdajophfpcaaGreat
open Go.Ev
end Go.Proofs.YtenjdajophfpcaaGreat
namespace Go.Proofs.YtenjdajophfpcaaGreat
open Go.Ev
section
variable {w s1 s2:Nat}
end
end Go.Proofs.YtenjdajophfpcaaGreat
namespace Go.Proofs.YtenjdajophfpcaaGreat
open Go.Ev
section
variable {w a b c d:Nat} {q r:Rat}
theorem num_abs (h0:0<=q):((q.num.natAbs:Nat):Int)=q.num:=Int.natAbs_of_nonneg (Rat.num_nonneg.2 h0)
end
section
variable {v:SV} {q:Rat} {w L n:Nat}
end
end Go.Proofs.YtenjdajophfpcaaGreat
namespace Go.Proofs.YtenjdajophfpcaaGreat
open Go.Ev
section
variable {w y1 y2 a b:Nat} {x:Rat}
end
end Go.Proofs.YtenjdajophfpcaaGreat
namespace Go.Proofs.YtenjdajophfpcaaGreat
open Go.Ev
end Go.Proofs.YtenjdajophfpcaaGreat
namespace Go.Proofs.YtenjdajophfpcaaGreat
open Go.Ev
end Go.Proofs.YtenjdajophfpcaaGreat
namespace Go.Proofs.YtenjdajophfpcaaGreat
open Go.Ev
section
variable {v:SV} {x:Rat} {w L a b:Nat}
end
end Go.Proofs.YtenjdajophfpcaaGreat
namespace Go.Proofs.YtenjdajophfpcaaGreat
open Go.Ev
theorem tm_neg (y:Rat) : ∀m,Ex.tm (-y) m=if m%2=1 then -Ex.tm y m else Ex.tm y m
 |0=>rfl
 |m+1=>by
  have ih:=tm_neg y m
  show Ex.tm (-y) m * -y/((m+1:Nat):Rat)=if (m+1)%2=1 then -(Ex.tm y m*y/((m+1:Nat):Rat)) else Ex.tm y m*y/((m+1:Nat):Rat)
  rw[Rat.div_def,Rat.div_def]
  by_cases h:m%2=1
  ·rw[if_pos h]at ih
   rw[ih,if_neg (by omega)];grind
  ·rw[if_neg h]at ih
   rw[ih,if_pos (by omega)];grind
theorem tm_negB {y:Rat} (h:0<=y) (m:Nat):Ex.Bdd (Ex.tm (-y) m) (Ex.tm y m):=by
 have n:=Ex.tm_nn h m
 rw[tm_neg]
 by_cases g:m%2=1
 ·rw[if_pos g];constructor<;>grind
 ·rw[if_neg g];constructor<;>grind
theorem pe_negB {y:Rat} (h:0<=y) (N:Nat) : ∀c,Ex.Bdd (Ex.E (-y) c*Ex.E y N-Ex.pe (-y) y N c) (Ex.E y c*Ex.E y N-Ex.pe y y N c)
 |0=>by
  show Ex.Bdd (0*_-0) (0*_-0)
  rw[Rat.zero_mul]
  exact⟨by decide +kernel,by decide +kernel⟩
 |c+1=>by
  have ih:=pe_negB h N c
  have m:=Ex.E_mono h (Nat.sub_le N c)
  have d:Ex.Bdd (Ex.E y N-Ex.E y (N-c)) (Ex.E y N-Ex.E y (N-c)):=by
   generalize Ex.E y N=a at *
   generalize Ex.E y (N-c)=b at *
   clear ih
   constructor<;>grind
  have t:=Ex.Bdd_add ih (Ex.Bdd_mul (tm_negB h c) d)
  have e1:Ex.E (-y) (c+1)*Ex.E y N-Ex.pe (-y) y N (c+1)=Ex.E (-y) c*Ex.E y N-Ex.pe (-y) y N c+Ex.tm (-y) c*(Ex.E y N-Ex.E y (N-c)):=by
   show (Ex.E (-y) c+Ex.tm (-y) c)*Ex.E y N-(Ex.pe (-y) y N c+Ex.tm (-y) c*Ex.E y (N-c))=_
   grind
  have e2:Ex.E y (c+1)*Ex.E y N-Ex.pe y y N (c+1)=Ex.E y c*Ex.E y N-Ex.pe y y N c+Ex.tm y c*(Ex.E y N-Ex.E y (N-c)):=by
   show (Ex.E y c+Ex.tm y c)*Ex.E y N-(Ex.pe y y N c+Ex.tm y c*Ex.E y (N-c))=_
   grind
  rw[e1,e2];exact t
theorem E_inv {y:Rat} (h:0<=y) {L:Nat} (h1:1<=L) (h2:(y+y)+(y+y)<=((L+1:Nat):Rat)):Ex.Bdd (Ex.E (-y) L-1/Ex.E y L) (2*Ex.tm (y+y) L):=by
 have a:=pe_negB h L L
 rw[Ex.pe_full,Ex.pe_full,show -y+y=0 by grind]at a
 obtain⟨k,rfl⟩ : ∃k,L=k+1:=⟨L-1,by omega⟩
 rw[Ex.E_zero]at a
 have b:=Ex.E_add_ge h h (k+1) (k+1)
 have c:=Ex.E_tail_le (L:=k+1+(k+1)) (show 0<=y+y by grind) h2
 have one:=E_one h h1
 have iv:Ex.E y (k+1)*(1/Ex.E y (k+1))=1:=Ex.mul_div _ 1 (by grind)
 have i0:0<=1/Ex.E y (k+1):=Ex.div_nn (by decide) (by grind)
 have i1:1/Ex.E y (k+1)<=1:=by
  have:=Rat.mul_le_mul_of_nonneg_right one i0
  rw[iv,Rat.one_mul]at this;exact this
 generalize 1/Ex.E y (k+1)=i at *
 have bi:Ex.Bdd i 1:=⟨by grind,i1⟩
 have m:=Ex.Bdd_mul (Ex.Bdd_mono a (show _<=2*Ex.tm (y+y) (k+1) by grind)) bi
 rw[Rat.mul_one]at m
 have e:(Ex.E (-y) (k+1)*Ex.E y (k+1)-1)*i=Ex.E (-y) (k+1)-i:=by
  have:(Ex.E (-y) (k+1)*Ex.E y (k+1)-1)*i=Ex.E (-y) (k+1)*(Ex.E y (k+1)*i)-i:=by grind
  rw[this,iv,Rat.mul_one]
 rw[e]at m;exact m
theorem castZ (a b:Int):((a+b:Int):Rat)=(a:Rat)+(b:Rat):=Rat.intCast_add a b
theorem castZn (n:Nat):(((n:Nat):Int):Rat)=(n:Rat):=rfl
end Go.Proofs.YtenjdajophfpcaaGreat
namespace Go.Proofs.YtenjdajophfpcaaGreat
open Go.Ev
def tk (y:Rat) (k0:Nat):Nat->Rat
 |0=>1
 |j+1=>tk y k0 j*y*((1:Nat):Rat)/((k0+2*j:Nat):Rat)
def sk (y:Rat) (k0:Nat):Nat->Rat
 |0=>0
 |j+1=>sk y k0 j+tk y k0 j
section
variable {y:Rat} {k0:Nat}
theorem tk_step (hk:1<=k0) (j:Nat):((k0+2*j:Nat):Rat)*tk y k0 (j+1)=tk y k0 j*y:=by
 have c:(0:Rat)<((k0+2*j:Nat):Rat):=Ex.castlt (a:=0) (by omega)
 show _*(tk y k0 j*y*((1:Nat):Rat)/_)=_
 rw[Ex.mul_div _ _ (by grind),show ((1:Nat):Rat)=1 from rfl,Rat.mul_one]
theorem tk_nn (hk:1<=k0) (h:0<=y) : ∀j,0<=tk y k0 j
 |0=>by show (0:Rat)<=1;decide
 |j+1=>by
  have ih:=tk_nn hk h j
  exact Ex.div_nn (Rat.mul_nonneg (Rat.mul_nonneg ih h) (Ex.nat_nn 1)) (Ex.castlt (a:=0) (by omega))
theorem sk_nn (hk:1<=k0) (h:0<=y) : ∀j,0<=sk y k0 j
 |0=>Rat.le_refl
 |j+1=>by
  have a:=sk_nn hk h j
  have b:=tk_nn hk h j
  show 0<=sk y k0 j+tk y k0 j
  grind
theorem tk_half (hk:1<=k0) (h:0<=y) {j:Nat} (g:y+y<=((k0+2*j:Nat):Rat)):tk y k0 (j+1)+tk y k0 (j+1)<=tk y k0 j:=by
 have c:(0:Rat)<((k0+2*j:Nat):Rat):=Ex.castlt (a:=0) (by omega)
 have e:=tk_step (y:=y) hk j
 have n:=tk_nn hk h j
 refine le_by c ?_
 have m:=Rat.mul_le_mul_of_nonneg_left g n
 have e2:(tk y k0 (j+1)+tk y k0 (j+1))*((k0+2*j:Nat):Rat)=((k0+2*j:Nat):Rat)*tk y k0 (j+1)+((k0+2*j:Nat):Rat)*tk y k0 (j+1):=by grind
 rw[e2,e]
 grind
theorem sk_rest (hk:1<=k0) (h:0<=y) {i:Nat} (g:y+y<=((k0+2*i:Nat):Rat)) : ∀m,sk y k0 (i+1+m)+tk y k0 (i+m)<=sk y k0 (i+1)+tk y k0 i
 |0=>Rat.le_refl
 |m+1=>by
  have ih:=sk_rest hk h g m
  have hf:=tk_half (j:=i+m) hk h (Rat.le_trans g (Ex.castle (by omega)))
  show sk y k0 (i+1+m)+tk y k0 (i+1+m)+tk y k0 (i+(m+1))<=_
  rw[show i+1+m=i+m+1 by omega]at *
  rw[show i+(m+1)=i+m+1 by omega]
  grind
theorem sk_up (hk:1<=k0) (h:0<=y) {i L:Nat} (g:i<=L):sk y k0 i<=sk y k0 L:=by
 obtain⟨m,rfl⟩:=Nat.exists_eq_add_of_le g
 clear g
 induction m with
 |zero=>exact Rat.le_refl
 |succ m ih=>
  have:=tk_nn hk h (i+m)
  show _<=sk y k0 (i+m)+tk y k0 (i+m)
  grind
theorem sk_top (hk:1<=k0) (h:0<=y) {i L:Nat} (g:y+y<=((k0+2*i:Nat):Rat)):sk y k0 L<=sk y k0 (i+1)+tk y k0 i:=by
 have n:=tk_nn hk h i
 rcases Nat.le_total L (i+1) with e|e
 ·have:=sk_up hk h e
  grind
 ·obtain⟨m,rfl⟩:=Nat.exists_eq_add_of_le e
  have:=sk_rest hk h g m
  have:=tk_nn hk h (i+m)
  grind
theorem tk_big (hk:1<=k0) (h:0<=y) {c:Nat} (hc:(c:Rat)<=y) (hc2:y<((c+1:Nat):Rat)) : ∀j,((k0+2*j:Nat):Rat)<y+y->1<=tk y k0 j*p2 ((k0+2*j+1-c)/2)
 |0,g=>by
  show 1<=1*p2 _
  rw[Rat.one_mul]
  have:1<=2^((k0+2*0+1-c)/2):=Nat.pow_pos (by omega)
  exact Ex.castle this
 |j+1,g=>by
  have g0:((k0+2*j:Nat):Rat)<y+y:=by
   have:((k0+2*j:Nat):Rat)<=((k0+2*(j+1):Nat):Rat):=Ex.castle (by omega)
   grind
  have ih:=tk_big hk h hc hc2 j g0
  have K:(0:Rat)<((k0+2*j:Nat):Rat):=Ex.castlt (a:=0) (by omega)
  have e:=tk_step (y:=y) hk j
  have n:=tk_nn hk h j
  have n1:=tk_nn hk h (j+1)
  by_cases b:k0+2*j<=c
  ·have b':((k0+2*j:Nat):Rat)<=y:=Rat.le_trans (Ex.castle b) hc
   have up:tk y k0 j<=tk y k0 (j+1):=by
    refine le_by K ?_
    rw[Rat.mul_comm (tk y k0 (j+1)),e]
    exact Rat.mul_le_mul_of_nonneg_left b' n
   have p:p2 ((k0+2*j+1-c)/2)<=p2 ((k0+2*(j+1)+1-c)/2):=Ex.castle (Nat.pow_le_pow_right (by omega) (by omega))
   exact Rat.le_trans ih (mul_le up p n1 (Rat.le_of_lt (p2_pos _)))
  ·have up:tk y k0 j<=2*tk y k0 (j+1):=by
    refine le_by K ?_
    have e2:2*tk y k0 (j+1)*((k0+2*j:Nat):Rat)=2*(tk y k0 j*y):=by rw[<- e];grind
    rw[e2]
    have:=Rat.mul_le_mul_of_nonneg_left (Rat.le_of_lt g0) n
    grind
   have p:p2 ((k0+2*(j+1)+1-c)/2)=2*p2 ((k0+2*j+1-c)/2):=by
    rw[show (k0+2*(j+1)+1-c)/2=(k0+2*j+1-c)/2+1 by omega]
    show ((2^(_+1):Nat):Rat)=_
    rw[Nat.pow_succ,Ex.castmul,Rat.mul_comm];rfl
   rw[p]
   have m:=Rat.mul_le_mul_of_nonneg_right up (Rat.le_of_lt (p2_pos ((k0+2*j+1-c)/2)))
   grind
end
theorem le_128 {x:Rat} (h:x<=64):x*2<=128:=by grind
theorem tk_late {y:Rat} {k0 w j:Nat} (hk:1<=k0) (hk2:k0<=300) (h:0<=y) (h128:y<=128) (hw:80<=w) (g:tk y k0 j*p2 w<4):y+y<=((k0+2*j:Nat):Rat):=by
 refine Rat.not_lt.1 fun b => ?_
 obtain⟨c,hc,hc2⟩ : ∃c:Nat,(c:Rat)<=y/\y<((c+1:Nat):Rat):=by
  refine⟨y.floor.toNat,?_,?_⟩
  ·have f0:0<=y.floor:=Rat.le_floor_iff.2 h
   have:((y.floor.toNat:Nat):Rat)=((y.floor:Int):Rat):=by
    rw[<- castZn,Int.toNat_of_nonneg f0]
   rw[this];exact Rat.floor_le y
  ·have f0:0<=y.floor:=Rat.le_floor_iff.2 h
   have:((y.floor.toNat+1:Nat):Rat)=((y.floor:Int):Rat)+1:=by
    rw[Ex.castadd,<- castZn,Int.toNat_of_nonneg f0];rfl
   rw[this,show ((y.floor:Int):Rat)+1=((y.floor+1:Int):Rat) by rw[castZ];rfl];exact Rat.lt_floor_add_one y
 have big:=tk_big hk h hc hc2 j b
 have kc:k0+2*j<2*(c+1):=by
  have:((k0+2*j:Nat):Rat)<((2*(c+1):Nat):Rat):=by
   rw[Ex.castmul,show ((2:Nat):Rat)=2 from rfl];grind
  exact_mod_cast this
 have c128:c<=128:=by
  have:(c:Rat)<=((128:Nat):Rat):=Rat.le_trans hc h128
  exact_mod_cast this
 have n:=tk_nn hk h j
 have e:p2 w=4*(p2 (w-2-(k0+2*j+1-c)/2)*p2 ((k0+2*j+1-c)/2)):=by
  rw[<- p2_plus]
  have:2^w=4*2^(w-2-(k0+2*j+1-c)/2+(k0+2*j+1-c)/2):=by
   rw[show (4:Nat)=2^2 from rfl,<- Nat.pow_add];congr 1;omega
  show ((2^w:Nat):Rat)=4*((2^(_+_):Nat):Rat)
  rw[this,Ex.castmul];rfl
 have one:(1:Rat)<=p2 (w-2-(k0+2*j+1-c)/2):=Ex.castle (show 1<=2^_ from Nat.pow_pos (by omega))
 have m:=mul_le one big (Rat.le_of_lt (p2_pos _)) (by decide)
 rw[e]at g
 grind
theorem tRow_enc {w Y1 Y2 M k0:Nat} {y c:Rat} (hk0:1<=k0) (hy:Enc w Y1 Y2 y) (hc:0<=c) (late : ∀i,M<=k0+2*i->c*tk y k0 i*p2 w<4->y+y<=((k0+2*i:Nat):Rat)) :
  ∀ (f i t1 t2 a1 a2 A B:Nat),tRow w Y1 Y2 M f (k0+2*i) t1 t2 a1 a2=some (A,B)->Enc w t1 t2 (c*tk y k0 i)->Enc w a1 a2 (c*sk y k0 (i+1)) -> ∃s,∀L,s<=L->Enc w A B (c*sk y k0 L):=by
 have y0:=enc_nonneg hy
 have P:=p2_pos w
 intro f
 induction f with
 |zero=>intro i t1 t2 a1 a2 A B h;cases h
 |succ f ih=>
  intro i t1 t2 a1 a2 A B h ht ha
  rw[tRow]at h
  by_cases g:M<=k0+2*i/\t2<4
  ·rw[if_pos g]at h
   simp only[Option.some.injEq,Prod.mk.injEq]at h
   obtain⟨rfl,rfl⟩:=h
   have t3:(t2:Rat)<=3:=Ex.castle (b:=3) (by omega)
   have lt:=late i g.1 (by have:=ht.2;grind)
   refine⟨i+1,fun L hL => ?_⟩
   have up:=sk_up hk0 y0 hL
   have top:=sk_top (L:=L) hk0 y0 lt
   have m1:=Rat.mul_le_mul_of_nonneg_right (Rat.mul_le_mul_of_nonneg_left up hc) (Rat.le_of_lt P)
   have m2:=Rat.mul_le_mul_of_nonneg_right (Rat.mul_le_mul_of_nonneg_left top hc) (Rat.le_of_lt P)
   refine⟨Rat.le_trans ha.1 m1,Rat.le_trans m2 ?_⟩
   rw[Ex.castadd,show ((8:Nat):Rat)=8 from rfl,Rat.mul_add,Rat.add_mul]
   have a:=ha.2
   have b:=ht.2
   generalize c*sk y k0 (i+1)*p2 w=u at *
   generalize c*tk y k0 i*p2 w=v at *
   clear late ih m1 m2 up top lt
   grind
  ·rw[if_neg g]at h
   have e1:=enc_times (n:=1) (d:=k0+2*i) (by omega) (enc_mul ht hy)
   have e2:c*tk y k0 i*y*((1:Nat):Rat)/((k0+2*i:Nat):Rat)=c*tk y k0 (i+1):=by
    show _=c*(tk y k0 i*y*((1:Nat):Rat)/((k0+2*i:Nat):Rat))
    rw[Rat.div_def,Rat.div_def];grind
   rw[e2]at e1
   have e3:=enc_add ha e1
   rw[<- Rat.mul_add]at e3
   exact ih (i+1) _ _ _ _ A B h e1 e3
def wRow (W D:Nat):Nat->Nat->Nat->Nat->Nat->Nat->Nat×Nat
 |0,_,_,_,s,e=>(s,e)
 |f+1,k,t,d,s,e=>pin (k+2) fun k'=>pin (t*W/k+2) fun t'=>pin ((d*W+t*D)/k+8) fun d'=>pin (s+t') fun s'=>pin (e+d') fun e'=>wRow W D f k' t' d' s' e'
theorem wRow_succ (W D f k t d s e:Nat):wRow W D (f+1) k t d s e=wRow W D f (k+2) (t*W/k+2) ((d*W+t*D)/k+8) (s+(t*W/k+2)) (e+((d*W+t*D)/k+8)):=by
 rw[wRow,pin_eq,pin_eq,pin_eq,pin_eq,pin_eq]
theorem wRow_up (W D:Nat) : ∀ (f k t d s e:Nat),s<=(wRow W D f k t d s e).1/\e<=(wRow W D f k t d s e).2
 |0,_,_,_,s,e=>⟨Nat.le_refl _,Nat.le_refl _⟩
 |f+1,k,t,d,s,e=>by
  have h:=wRow_up W D f (k+2) (t*W/k+2) ((d*W+t*D)/k+8) (s+(t*W/k+2)) (e+((d*W+t*D)/k+8))
  rw[wRow_succ]
  exact⟨Nat.le_trans (Nat.le_add_right _ _) h.1,Nat.le_trans (Nat.le_add_right _ _) h.2⟩
theorem wRow_step {w Y1 Y2 W D k t1 t2 t d:Nat} (hk:1<=k) (hY:Y2<=W*2^w) (hY1:Y1<=Y2) (hD:Y2<=Y1+D) (h12:t1<=t2) (ht:t2<=t*2^w) (hd:t2<=t1+d) :
  (t2*Y2/2^w+1)*1/k+1<=(t*W/k+2)*2^w/\(t2*Y2/2^w+1)*1/k+1<=t1*Y1/2^w*1/k+((d*W+t*D)/k+8):=by
 have P:0<2^w:=Nat.pow_pos (by omega)
 rw[Nat.mul_one,Nat.mul_one]
 have a:t2*Y2/2^w<=t2*W:=by
  refine(Nat.div_le_iff_le_mul P).2 ?_
  have m:=Nat.mul_le_mul_left t2 hY
  rw[<- Nat.mul_assoc]at m
  omega
 have gap:t2*Y2/2^w<=t1*Y1/2^w+(d*W+t*D)+1:=by
  have h1:t2*Y2<=t1*Y1+(d*W+t*D)*2^w:=by
   have m1:t2*Y2<=(t1+d)*Y2:=Nat.mul_le_mul_right _ hd
   have m2:t1*Y2<=t1*(Y1+D):=Nat.mul_le_mul_left _ hD
   have m3:d*Y2<=d*(W*2^w):=Nat.mul_le_mul_left _ hY
   have m4:t1*D<=t*2^w*D:=Nat.mul_le_mul_right _ (Nat.le_trans h12 ht)
   have e1:(d*W+t*D)*2^w=d*(W*2^w)+t*2^w*D:=by rw[Nat.add_mul];rw[Nat.mul_assoc d,Nat.mul_right_comm t D]
   rw[Nat.add_mul]at m1
   rw[Nat.mul_add]at m2
   omega
  have h2:=Nat.div_le_div_right (c:=2^w) h1
  rw[Nat.add_mul_div_right _ _ P]at h2
  omega
 constructor
 ·have b:(t2*Y2/2^w+1)/k<=t*W/k*2^w+2^w:=by
   refine(Nat.div_le_iff_le_mul hk).2 ?_
   have m:=Nat.mul_le_mul_right W ht
   have q:=Nat.lt_mul_div_succ (t*W) hk
   have m2:=Nat.mul_le_mul_right (2^w) (show t*W+1<=k*(t*W/k+1) by omega)
   have e1:t*2^w*W=t*W*2^w:=by rw[Nat.mul_assoc,Nat.mul_comm (2^w),<- Nat.mul_assoc]
   have e2:(t*W/k*2^w+2^w)*k=k*(t*W/k+1)*2^w:=by
    generalize t*W/k=z
    generalize 2^w=p
    grind
   rw[Nat.add_mul,Nat.one_mul]at m2
   omega
  have e:(t*W/k+2)*2^w=t*W/k*2^w+2^w+2^w:=by rw[Nat.add_mul];omega
  omega
 ·generalize t2*Y2/2^w=q2 at *
  generalize t1*Y1/2^w=q1 at *
  generalize d*W+t*D=g at *
  have h3:(q2+1)/k<=(q1+g+2)/k:=Nat.div_le_div_right (by omega)
  have h4:(q1+g+2)/k<=q1/k+g/k+4:=by
   refine(Nat.div_le_iff_le_mul hk).2 ?_
   have a1:=Nat.lt_mul_div_succ q1 hk
   have a2:=Nat.lt_mul_div_succ g hk
   have e:(q1/k+g/k+4)*k=k*(q1/k+1)+k*(g/k+1)+2*k:=by
    generalize q1/k=z1
    generalize g/k=z2
    grind
   omega
  omega
theorem tRow_wide {w Y1 Y2 M W D:Nat} (hY:Y2<=W*2^w) (hY1:Y1<=Y2) (hD:Y2<=Y1+D) : ∀ (f F k t1 t2 a1 a2 t d s e A B:Nat),f<=F->1<=k->tRow w Y1 Y2 M f k t1 t2 a1 a2=some (A,B)->t1<=t2->t2<=t*2^w->t2<=t1+d->a2<=s*2^w->a2<=a1+e->a1<=a2 ->
  A<=B/\B<=(wRow W D F k t d s e).1*2^w+8/\B<=A+(wRow W D F k t d s e).2+8:=by
 intro f
 induction f with
 |zero=>intro F k t1 t2 a1 a2 t d s e A B _ _ h;cases h
 |succ f ih=>
  intro F k t1 t2 a1 a2 t d s e A B hF hk h h12 ht hd hs he ha
  obtain⟨F,rfl⟩ : ∃G,F=G+1:=⟨F-1,by omega⟩
  rw[tRow]at h
  by_cases g:M<=k/\t2<4
  ·rw[if_pos g]at h
   simp only[Option.some.injEq,Prod.mk.injEq]at h
   obtain⟨rfl,rfl⟩:=h
   obtain⟨u1,u2⟩:=wRow_up W D (F+1) k t d s e
   have m:=Nat.mul_le_mul_right (2^w) u1
   exact⟨by omega,by omega,by omega⟩
  ·rw[if_neg g]at h
   obtain⟨s1,s2⟩:=wRow_step hk hY hY1 hD h12 ht hd
   have q0:t1*Y1/2^w*1/k<=(t2*Y2/2^w+1)*1/k+1:=by
    refine Nat.le_succ_of_le (Nat.div_le_div_right (Nat.mul_le_mul_right 1 ?_))
    exact Nat.le_succ_of_le (Nat.div_le_div_right (Nat.mul_le_mul h12 hY1))
   rw[wRow_succ]
   have ih':=fun t1 t2 a1 a2 t d s e=>ih F (k+2) t1 t2 a1 a2 t d s e A B (by omega) (by omega)
   clear ih hY hY1 hD ht hd
   generalize t1*Y1/2^w*1/k=u1 at *
   generalize (t2*Y2/2^w+1)*1/k+1=u2 at *
   generalize t*W/k+2=t' at *
   generalize (d*W+t*D)/k+8=d' at *
   refine ih' _ _ _ _ t' d' (s+t') (e+d') h q0 s1 s2 ?_ (by omega) (by omega)
   rw[Nat.add_mul];omega
end Go.Proofs.YtenjdajophfpcaaGreat
namespace Go.Proofs.YtenjdajophfpcaaGreat
open Go.Ev
def pRow (w Y1 Y2:Nat):Nat->Nat->Nat->Nat->Nat×Nat
 |0,_,a,b=>(a,b)
 |f+1,k,a,b=>pRow w Y1 Y2 f (k+2) (a*Y1/2^w*1/k) ((b*Y2/2^w+1)*1/k+1)
def wPow (W D:Nat):Nat->Nat->Nat->Nat->Nat×Nat
 |0,_,t,d=>(t,d)
 |f+1,k,t,d=>pin (k+2) fun k'=>pin (t*W/k+2) fun t'=>pin ((d*W+t*D)/k+8) fun d'=>wPow W D f k' t' d'
theorem wPow_succ (W D f k t d:Nat):wPow W D (f+1) k t d=wPow W D f (k+2) (t*W/k+2) ((d*W+t*D)/k+8):=by
 rw[wPow,pin_eq,pin_eq,pin_eq]
theorem tk_next {c y:Rat} {k0 i:Nat}:c*tk y k0 i*y*((1:Nat):Rat)/((k0+2*i:Nat):Rat)=c*tk y k0 (i+1):=by
 show _=c*(tk y k0 i*y*((1:Nat):Rat)/((k0+2*i:Nat):Rat))
 rw[Rat.div_def,Rat.div_def];grind
theorem pRow_enc {w Y1 Y2 k0:Nat} {y c:Rat} (hk0:1<=k0) (hy:Enc w Y1 Y2 y) : ∀ (f i a b:Nat),Enc w a b (c*tk y k0 i)->Enc w (pRow w Y1 Y2 f (k0+2*i) a b).1 (pRow w Y1 Y2 f (k0+2*i) a b).2 (c*tk y k0 (i+f))
 |0,i,a,b,h=>h
 |f+1,i,a,b,h=>by
  have e1:=enc_times (n:=1) (d:=k0+2*i) (by omega) (enc_mul h hy)
  rw[tk_next]at e1
  have ih:=pRow_enc hk0 hy f (i+1) _ _ e1
  rw[show i+1+f=i+(f+1) by omega]at ih
  exact ih
theorem pRow_wide {w Y1 Y2 W D:Nat} (hY:Y2<=W*2^w) (hY1:Y1<=Y2) (hD:Y2<=Y1+D) : ∀ (f k a b t d:Nat),1<=k->a<=b->b<=t*2^w->b<=a+d ->
  (pRow w Y1 Y2 f k a b).1<=(pRow w Y1 Y2 f k a b).2/\(pRow w Y1 Y2 f k a b).2<=(wPow W D f k t d).1*2^w/\(pRow w Y1 Y2 f k a b).2<=(pRow w Y1 Y2 f k a b).1+(wPow W D f k t d).2
 |0,k,a,b,t,d,_,h1,h2,h3=>⟨h1,h2,h3⟩
 |f+1,k,a,b,t,d,hk,h1,h2,h3=>by
  obtain⟨s1,s2⟩:=wRow_step hk hY hY1 hD h1 h2 h3
  have q0:a*Y1/2^w*1/k<=(b*Y2/2^w+1)*1/k+1:=by
   refine Nat.le_succ_of_le (Nat.div_le_div_right (Nat.mul_le_mul_right 1 ?_))
   exact Nat.le_succ_of_le (Nat.div_le_div_right (Nat.mul_le_mul h1 hY1))
  rw[wPow_succ]
  exact pRow_wide hY hY1 hD f (k+2) _ _ _ _ (by omega) q0 s1 s2
theorem mulS {w a b c d α β γ δ:Nat} (h1:a<=b) (h2:c<=d) (h3:b<=α*2^w) (h4:d<=β*2^w) (h5:b<=a+γ) (h6:d<=c+δ) :
  a*c/2^w<=b*d/2^w+1/\b*d/2^w+1<=(α*β+1)*2^w/\b*d/2^w+1<=a*c/2^w+(γ*β+α*δ+2):=by
 have P:0<2^w:=Nat.pow_pos (by omega)
 refine⟨Nat.le_succ_of_le (Nat.div_le_div_right (Nat.mul_le_mul h1 h2)),?_,?_⟩
 ·have m:=Nat.mul_le_mul h3 h4
  have q:b*d/2^w<=α*β*2^w:=by
   refine(Nat.div_le_iff_le_mul P).2 ?_
   have e:α*2^w*(β*2^w)=α*β*2^w*2^w:=by generalize 2^w=z;grind
   omega
  rw[Nat.add_mul];omega
 ·have m1:b*d<=(a+γ)*d:=Nat.mul_le_mul_right _ h5
  have m2:a*d<=a*(c+δ):=Nat.mul_le_mul_left _ h6
  have m3:γ*d<=γ*(β*2^w):=Nat.mul_le_mul_left _ h4
  have m4:a*δ<=α*2^w*δ:=Nat.mul_le_mul_right _ (Nat.le_trans h1 h3)
  have e1:(γ*β+α*δ)*2^w=γ*(β*2^w)+α*2^w*δ:=by rw[Nat.add_mul,Nat.mul_assoc γ,Nat.mul_right_comm α δ]
  rw[Nat.add_mul]at m1
  rw[Nat.mul_add]at m2
  have h:=Nat.div_le_div_right (c:=2^w) (show b*d<=a*c+(γ*β+α*δ)*2^w by omega)
  rw[Nat.add_mul_div_right _ _ P]at h
  omega
theorem told_in {A B w q:Nat} {V:Rat} (hq:q<=w) (h:Enc w A B V):mkRat ((A/2^(w-q):Nat):Int) (2^q)<=V/\V<=mkRat ((B/2^(w-q)+1:Nat):Int) (2^q):=by
 have P:=p2_pos q
 have R:=p2_pos (w-q)
 have a:=mk_p2 (A/2^(w-q)) q
 have b:=mk_p2 (B/2^(w-q)+1) q
 have f:=floor_le (a:=A) (d:=2^(w-q))
 have g:=le_floor (a:=B) (d:=2^(w-q)) (Nat.pow_pos (by omega))
 have e:p2 w=p2 q*p2 (w-q):=by rw[<- p2_plus];congr 1;omega
 obtain⟨h1,h2⟩:=h
 rw[e,<- Rat.mul_assoc]at h1 h2
 refine⟨le_by P (le_by R ?_),le_by P (le_by R ?_)⟩
 ·rw[a];exact Rat.le_trans f h1
 ·rw[b];exact Rat.le_trans h2 g
theorem told_thin {A B w p:Nat} (hq:p+2<=w) (h:B<=A+2^(w-(p+2))):(mkRat ((B/2^(w-(p+2))+1:Nat):Int) (2^(p+2))-mkRat ((A/2^(w-(p+2)):Nat):Int) (2^(p+2)))*p2 p<=1:=by
 have a:=mk_p2 (A/2^(w-(p+2))) (p+2)
 have b:=mk_p2 (B/2^(w-(p+2))+1) (p+2)
 have P:0<2^(w-(p+2)):=Nat.pow_pos (by omega)
 have d:=Nat.div_le_div_right (c:=2^(w-(p+2))) h
 rw[Nat.add_div_right _ P]at d
 have d2:B/2^(w-(p+2))+1<=A/2^(w-(p+2))+4:=by omega
 have d3:((B/2^(w-(p+2))+1:Nat):Rat)<=((A/2^(w-(p+2)):Nat):Rat)+4:=by
  have:=Ex.castle d2
  rw[Ex.castadd (A/2^(w-(p+2))) 4]at this;exact this
 rw[<- a,<- b]at d3
 have e:p2 (p+2)=p2 p*4:=by rw[p2_plus];rfl
 rw[e]at d3
 generalize mkRat ((B/2^(w-(p+2))+1:Nat):Int) (2^(p+2))=x at *
 generalize mkRat ((A/2^(w-(p+2)):Nat):Int) (2^(p+2))=y at *
 grind
def wSt (W D:Nat):Nat->Nat->Nat->Nat->Nat->Nat->Nat×Nat×Nat×Nat
 |0,_,t,d,s,e=>(t,d,s,e)
 |f+1,k,t,d,s,e=>pin (k+2) fun k'=>pin (t*W/k+2) fun t'=>pin ((d*W+t*D)/k+8) fun d'=>pin (s+t') fun s'=>pin (e+d') fun e'=>wSt W D f k' t' d' s' e'
theorem wSt_succ (W D f k t d s e:Nat):wSt W D (f+1) k t d s e=wSt W D f (k+2) (t*W/k+2) ((d*W+t*D)/k+8) (s+(t*W/k+2)) (e+((d*W+t*D)/k+8)):=by
 rw[wSt,pin_eq,pin_eq,pin_eq,pin_eq,pin_eq]
theorem wRow_late : ∀ (f k t d s e:Nat),600<=k->t<=4->d<=20->(wRow 129 41 f k t d s e).1<=s+4*f/\(wRow 129 41 f k t d s e).2<=e+20*f
 |0,k,t,d,s,e,_,_,_=>⟨Nat.le_refl _,Nat.le_refl _⟩
 |f+1,k,t,d,s,e,h1,h2,h3=>by
  have a:t*129/k<=0:=Nat.le_of_lt_succ ((Nat.div_lt_iff_lt_mul (by omega)).2 (by omega))
  have b:(d*129+t*41)/k<=4:=Nat.le_of_lt_succ ((Nat.div_lt_iff_lt_mul (by omega)).2 (by omega))
  have ih:=wRow_late f (k+2) (t*129/k+2) ((d*129+t*41)/k+8) (s+(t*129/k+2)) (e+((d*129+t*41)/k+8)) (by omega) (by omega) (by omega)
  rw[wRow_succ]
  exact⟨Nat.le_trans ih.1 (by omega),Nat.le_trans ih.2 (by omega)⟩
theorem wRow_st : ∀ (m f k t d s e:Nat) {t' d' s' e':Nat},wSt 129 41 m k t d s e=(t',d',s',e')->t'<=4->d'<=20->600<=k+2*m->(wRow 129 41 (m+f) k t d s e).1<=s'+4*f/\(wRow 129 41 (m+f) k t d s e).2<=e'+20*f
 |0,f,k,t,d,s,e,t',d',s',e',h,h1,h2,h3=>by
  have h':(t,d,s,e)=(t',d',s',e'):=h
  simp only[Prod.mk.injEq]at h'
  obtain⟨rfl,rfl,rfl,rfl⟩:=h'
  rw[Nat.zero_add]
  exact wRow_late f k t d s e (by omega) h1 h2
 |m+1,f,k,t,d,s,e,t',d',s',e',h,h1,h2,h3=>by
  rw[wSt_succ]at h
  rw[show m+1+f=m+f+1 by omega,wRow_succ]
  exact wRow_st m f (k+2) _ _ _ _ h h1 h2 (by omega)
def igR (n:Nat):Nat×Nat:=match wSt 129 41 300 (n+2) 2 1 2 1 with
 |(_,_,s,e)=>(s+20000,e+100000)
def igP (n:Nat):Nat×Nat:=if n%2=1 then wPow 129 41 (n/2) 3 50 400 else wPow 129 41 (n/2) 2 2 1
def igOk (n:Nat):Bool:=match wSt 129 41 300 (n+2) 2 1 2 1,igP n with
 |(t',d',s,e),(t,d)=>Nat.ble t' 4&&Nat.ble d' 20&&pin (t*(s+20001)+1) fun u=>pin (d*(s+20001)+t*(e+100008)+2) fun v=>Nat.ble (v*2+u*2+2) (2^120)
theorem ig_ok:allFrom igOk 30 1=true:=by kernel_rfl
theorem ig_at {n:Nat} (h1:1<=n) (h2:n<=30):((igP n).2*((igR n).1+1)+(igP n).1*((igR n).2+8)+2)*2+((igP n).1*((igR n).1+1)+1)*2+2<=2^120 /\
  (wRow 129 41 5200 (n+2) 2 1 2 1).1<=(igR n).1/\(wRow 129 41 5200 (n+2) 2 1 2 1).2<=(igR n).2:=by
 have h:=allFrom_at ig_ok n h1 (by omega)
 unfold igOk at h
 unfold igR
 have st:=fun t' d' s' e'=>wRow_st 300 4900 (n+2) 2 1 2 1 (t':=t') (d':=d') (s':=s') (e':=e')
 rw[show 300+4900=5200 from rfl]at st
 generalize wRow 129 41 5200 (n+2) 2 1 2 1=R at *
 generalize wSt 129 41 300 (n+2) 2 1 2 1=r at *
 generalize igP n=q at *
 obtain⟨t',d',s,e⟩:=r
 obtain⟨t,d⟩:=q
 generalize 2^120=K1 at *
 simp only[pin_eq,Bool.and_eq_true]at h
 obtain⟨⟨g1,g2⟩,g3⟩:=h
 obtain⟨a,b⟩:=st t' d' s e rfl (Nat.le_of_ble_eq_true g1) (Nat.le_of_ble_eq_true g2) (by omega)
 exact⟨Nat.le_of_ble_eq_true g3,Nat.le_trans a (show s+4*4900<=s+20000 by omega),Nat.le_trans b (show e+20*4900<=e+100000 by omega)⟩
end Go.Proofs.YtenjdajophfpcaaGreat
namespace Go.Ev
end Go.Ev
namespace Go.Proofs.YtenjdajophfpcaaGreat
open Go.Ev
end Go.Proofs.YtenjdajophfpcaaGreat
namespace Go.Proofs.YtenjdajophfpcaaGreat
open Go.Ev
section
variable {w Y1 Y2:Nat}
end
end Go.Proofs.YtenjdajophfpcaaGreat
namespace Go.Proofs.YtenjdajophfpcaaGreat
open Go.Ev
theorem by_ok {N D w:Nat} (hD:0<D) (hN:N<=64*D) (hw:8<=w):N*2^w/D*2/1<=(N*2^w/D+1)*2/1+1/\(N*2^w/D+1)*2/1+1<=N*2^w/D*2/1+41/\(N*2^w/D+1)*2/1+1<=129*2^w/\N*2^w/D<=2^w*64 /\
  ∀x:Rat,x*(D:Rat)=(N:Rat)->Enc w (N*2^w/D*2/1) ((N*2^w/D+1)*2/1+1) (x*2):=by
 have P:2^8<=2^w:=Nat.pow_le_pow_right (by omega) hw
 have Tle:N*2^w/D<=2^w*64:=by
  refine(Nat.div_le_iff_le_mul hD).2 ?_
  have m:=Nat.mul_le_mul_right (2^w) hN
  have e:64*D*2^w=2^w*64*D:=by rw[Nat.mul_comm,<- Nat.mul_assoc]
  omega
 refine⟨by omega,by omega,by omega,Tle,fun x hx => ?_⟩
 have f:=floor_le (a:=N*2^w) (d:=D)
 have g:=le_floor (a:=N*2^w) (d:=D) hD
 have dR:(0:Rat)<(D:Rat):=by exact_mod_cast hD
 have k:((N*2^w:Nat):Rat)=x*p2 w*(D:Rat):=by
  have:((N*2^w:Nat):Rat)=(N:Rat)*p2 w:=by exact_mod_cast rfl
  rw[this,<- hx];grind
 rw[k]at f g
 have e:=enc_times (n:=2) (d:=1) (by omega) (show Enc w (N*2^w/D) (N*2^w/D+1) x from⟨le_by dR f,le_by dR g⟩)
 have e2:x*((2:Nat):Rat)/((1:Nat):Rat)=x*2:=by
  rw[show ((2:Nat):Rat)=2 from rfl,show ((1:Nat):Rat)=1 from rfl]
  generalize x*2=z
  have:=Rat.div_mul_cancel (a:=z) (b:=1) (by decide)
  rw[Rat.mul_one]at this;exact this
 rw[e2]at e;exact e
theorem nn_of {N D:Nat} {x:Rat} (hD:0<D) (h:x*(D:Rat)=(N:Rat)):0<=x:=by
 have dR:(0:Rat)<(D:Rat):=by exact_mod_cast hD
 refine le_by dR ?_
 rw[Rat.zero_mul,h];exact nat_nonneg N
theorem le_of64 {N D:Nat} {x:Rat} (hD:0<D) (h:x*(D:Rat)=(N:Rat)) (hN:N<=64*D):x<=64:=by
 have dR:(0:Rat)<(D:Rat):=by exact_mod_cast hD
 refine le_by dR ?_
 rw[h]
 have:=Ex.castle hN
 rw[Ex.castmul]at this;exact this
theorem one_encE (w:Nat):Enc w (2^w) (2^w+1) 1:=by
 refine⟨by rw[Rat.one_mul];exact Rat.le_refl,?_⟩
 rw[Rat.one_mul]
 exact_mod_cast Nat.le_succ (2^w)
section
variable {N D w n:Nat}
theorem incg_row (hn:1<=n) (hn2:n<=30) (hD:0<D) (hN:N<=64*D) (lN:(lim N).length<=100) (lD:(lim D).length<=100) (hw0:80<=w) (hw:w<=1000) :
  ∃A B:Nat,(∀s:Bool,Go.Ev.Fn CX 166 [.int .i64 (n:Int),ratV s (lim N) (lim D),.int .i64 (w:Int)] (spanV A B))/\A<=B/\B<2^(w+10014)/\B<=((igR n).1+1)*2^w/\B<=A+((igR n).2+8) /\
   ∀x:Rat,x*(D:Rat)=(N:Rat) -> ∃s0,∀L,s0<=L->Enc w A B (1*sk (x*2) (n+2) L):=by
 have fr:=fun s=>fix_RatS (s:=s) (n:=N) (d:=D) (w:=w) hD (by omega) (by omega) (by omega)
 have P:2^8<=2^w:=Nat.pow_le_pow_right (by omega) (by omega)
 obtain⟨b1,b2,b3,b4,b5⟩:=by_ok (w:=w) hD hN (by omega)
 generalize N*2^w/D=T at *
 have e9:2^(w+9)=2^w*512:=Nat.pow_add _ _ _
 have e8:2^(w+8)=2^w*256:=Nat.pow_add _ _ _
 have e10:2^(w+10)=2^w*1024:=Nat.pow_add _ _ _
 have lT:=lim_len_pw (n:=T) (w:=w+9) (by omega)
 have lT1:=lim_len_pw (n:=T+1) (w:=w+9) (by omega)
 have o2:=nat_Of 2 (by omega)
 have o1:=fix_One
 have l1:=lim_len1
 have l2:(lim 2).length<=1:=lim_len_one (by decide)
 have ti:=fix_Times (a:=T) (b:=T+1) (n:=2) (d:=1) (by omega) (by omega) (by omega) (by omega) (by omega)
 have un:=fix_Unit (w:=w) (by omega)
 generalize T*2/1=Q1 at *
 generalize (T+1)*2/1+1=Q2 at *
 have lQ1:=lim_len_pw (n:=Q1) (w:=w+9) (by omega)
 have lQ2:=lim_len_pw (n:=Q2) (w:=w+9) (by omega)
 have i0:=tInv_0 (w:=w) (k0:=n+2) (t1:=2^w) (t2:=2^w+1) (a1:=2^w) (a2:=2^w+1) (by omega) (by omega) (by omega) (by omega)
 obtain⟨F,hF⟩ : ∃F:Nat,F=5200:=⟨_,rfl⟩
 obtain⟨A,B,hr,hAB,hB⟩:=tRow_end (w:=w) (Y1:=Q1) (Y2:=Q2) (M:=0) (k0:=n+2) (by omega) b1 (by omega) (by omega) (by omega) 1023 F 0 (n+2) _ _ _ _ i0 (by omega) (by omega) (by omega)
 obtain⟨-,w1,w2⟩:=tRow_wide (W:=129) (D:=41) b3 b1 b2 F F (n+2) _ _ _ _ 2 1 2 1 A B (Nat.le_refl _) (by omega) hr (by omega) (by omega) (by omega) (by omega) (by omega) (by omega)
 obtain⟨-,w3,w4⟩:=ig_at hn hn2
 rw[hF]at w1 w2
 generalize wRow 129 41 5200 (n+2) 2 1 2 1=wr at *
 have w5:=Nat.mul_le_mul_right (2^w) w3
 refine⟨A,B,fun s => ?_,hAB,hB,?_,by omega,fun x hx => ?_⟩
 rotate_left
 ·rw[Nat.add_mul,Nat.one_mul];omega
 ·have en:=b5 x hx
  have x0:=nn_of hD hx
  have x64:=le_of64 hD hx hN
  exact tRow_enc (c:=1) (k0:=n+2) (by omega) en (by decide) (fun i _ g=>tk_late (w:=w) (by omega) (by omega) (enc_nonneg en) (le_128 x64) (by omega) (by rw[Rat.one_mul]at g;exact g)) F 0 _ _ _ _ A B hr (by
   show Enc w _ _ (1*1);rw[Rat.one_mul];exact one_encE w) (by show Enc w _ _ (1*(0+1));rw[Rat.zero_add,Rat.one_mul];exact one_encE w)
 have lens:=fun (i k t1 t2 a1 a2:Nat) (hi:i<=F) (h:tInv w (n+2) i k t1 t2 a1 a2)=>(show (lim t1).length<=1000/\(lim t2).length<=1000/\(lim a1).length<=1000/\(lim a2).length<=1000 from by
  obtain⟨h1,h2,h3,h4,h5⟩:=h
  have a:=lim_len_pw h4
  have b:=lim_len_mono h2
  have up:(i+2)*2^(w+10000)<=2^(w+10014):=by
   have e:2^(w+10014)=16384*2^(w+10000):=by rw[show w+10014=14+(w+10000) by omega,Nat.pow_add 2 14]
   rw[e];exact Nat.mul_le_mul_right _ (by omega)
  have c:=lim_len_pw (n:=a2) (w:=w+10014) (by omega)
  have d:=lim_len_mono h3
  exact⟨by omega,by omega,by omega,by omega⟩)
 have step:=fun (i k t1 t2 a1 a2:Nat) (h:tInv w (n+2) i k t1 t2 a1 a2)=>tInv_step (Y1:=Q1) (Y2:=Q2) (by omega) b1 (by omega) h
 have frs:=fr s
 obtain⟨W1,hW1⟩ : ∃W1:Nat,W1=2^w:=⟨_,rfl⟩
 rw[<- hW1]at un i0 hr
 clear fr b2 b3 b4 b5 e8 e9 e10 hB hAB w1 w2 w3 w4 w5 P
 refine fni Tryz.f166 ?_;unfold Tryz.f166;simp only[Option.get!_some]
 repeat (first|simp only[go_sem]|simp (disch:=first|exact omg|fail) only[AX]|refine wki ?_|refine vf_of (by first|exact frs|exact o2|exact o1|exact ti|exact un) ?_)
 refine vp_loop_inv (fun s'=>s'.tmp 2 = .sv (.int .i64 (w:Int))/\s'.tmp 6 = .ptr 6 0 0/\s'.obj 6 0=some [.sl 0 [],.sl 0 []]/\s'.tmp 7 = .ptr 7 0 0/\s'.obj 7 0=some [natV (lim Q1),natV (lim Q2)]/\s'.tmp 8 = .ptr 8 0 0/\s'.tmp 9 = .ptr 9 0 0 /\
   ∃f i k t1 t2 a1 a2:Nat,s'.tmp 10 = .sv (.int .i64 (k:Int))/\f+i=F/\tRow w Q1 Q2 0 f k t1 t2 a1 a2=some (A,B)/\s'.obj 9 0=some [natV (lim t1),natV (lim t2)]/\s'.obj 8 0=some [natV (lim a1),natV (lim a2)]/\tInv w (n+2) i k t1 t2 a1 a2)
  (fun s'=>match s'.tmp 10 with | .sv (.int _ i)=>20000-i.toNat|_=>0) ⟨rfl,rfl,rfl,rfl,rfl,rfl,rfl,F,0,n+2,W1,W1+1,W1,W1+1,rfl,by omega,hr,rfl,rfl,i0⟩ ?_
 rintro s' ⟨i2,i6,o6,i7,o7,i8,i9,f,i,k,t1,t2,a1,a2,i10,hfi,hgo,o9,o8,hok⟩
 obtain⟨lt1,lt2,la1,la2⟩:=lens i k t1 t2 a1 a2 (by omega) hok
 have hk:=hok.1
 have st:=step i k t1 t2 a1 a2 hok
 have sm:=fix_Small (a:=t1) (b:=t2) (by omega) (k:=2) (by omega)
 cases f with
 |zero=>simp only[tRow]at hgo;cases hgo
 |succ f=>
  rw[tRow]at hgo
  by_cases hs:t2<4
  ·rw[if_pos ⟨Nat.zero_le _,hs⟩]at hgo
   simp only[Option.some.injEq,Prod.mk.injEq]at hgo
   obtain⟨rfl,rfl⟩:=hgo
   rw[decide_eq_true (show t2<2^2 from hs)]at sm
   have wd:=fix_Wider (a:=a1) (b:=a2) (n:=8) (by omega) (by omega) (by omega)
   clear step lens st hr
   repeat (first|simp only[go_sem,i2,i6,o6,i7,o7,i8,i9,i10,o8,o9,Bool.not_true]|simp (disch:=first|exact omg|fail) only[AX,i2,i6,o6,i7,o7,i8,i9,i10,o8,o9,Bool.not_true]|refine wki ?_|refine vf_of (by first|exact sm|exact wd) ?_)
  ·rw[if_neg (fun h=>hs h.2)]at hgo
   rw[decide_eq_false (show ¬t2<2^2 from hs)]at sm
   obtain⟨lu1,lu2,lb1,lb2⟩:=lens (i+1) (k+2) _ _ _ _ (by omega) st
   have mu:=fix_Mul (a:=t1) (b:=t2) (c:=Q1) (d:=Q2) (w:=w) (by omega) (by omega) (by omega) (by omega) (by omega) (by omega)
   have qk:=nat_Of k (by omega)
   have lq:(lim k).length<=2:=lim_len_lt (by omega)
   have z1:=lim_len_mul (a:=t1) (b:=Q1)
   have z2:=lim_len_mul (a:=t2) (b:=Q2)
   have z3:=lim_len_mono (Nat.div_le_self (t1*Q1) (2^w))
   have z4:=lim_len_add (a:=t2*Q2/2^w) (b:=1) (L:=5000) (Nat.le_trans (lim_len_mono (Nat.div_le_self (t2*Q2) (2^w))) (by omega)) (by omega)
   have tk:=fix_Times (a:=t1*Q1/2^w) (b:=t2*Q2/2^w+1) (n:=1) (d:=k) (by omega) (by omega) (by omega) (by omega) (by omega)
   generalize t1*Q1/2^w*1/k=u1 at *
   generalize (t2*Q2/2^w+1)*1/k+1=u2 at *
   generalize t1*Q1/2^w=v1 at *
   generalize t2*Q2/2^w+1=v2 at *
   have ad:=fix_Add (a:=a1) (b:=a2) (c:=u1) (d:=u2) (by omega) (by omega) (by omega) (by omega)
   clear step lens hr
   repeat (first|simp only[go_sem,i2,i6,o6,i7,o7,i8,i9,i10,o8,o9,Bool.not_false]|simp (disch:=first|exact omg|fail) only[AX,i2,i6,o6,i7,o7,i8,i9,i10,o8,o9,Bool.not_false]|refine wki ?_|refine vf_of (by first|exact sm|exact mu|exact o1|exact qk|exact tk|exact ad) ?_)
   exact⟨⟨f,i+1,k+2,u1,u2,a1+u1,a2+u2,rfl,by omega,hgo,rfl,rfl,st⟩,by omega⟩
end
end Go.Proofs.YtenjdajophfpcaaGreat
namespace Go.Proofs.YtenjdajophfpcaaGreat
open Go.Ev
theorem ervP {x:Rat} (h:0<=x):rv x=ratV false (lim x.num.natAbs) (lim x.den):=by
 show ratV (decide (x.num<0)) _ _=_
 rw[neg_numX,decide_eq_false (Rat.not_lt.2 h)]
theorem times2 (x:Rat):x*((2:Nat):Rat)/((1:Nat):Rat)=x*2:=by
 rw[show ((2:Nat):Rat)=2 from rfl,show ((1:Nat):Rat)=1 from rfl]
 generalize x*2=z
 have:=Rat.div_mul_cancel (a:=z) (b:=1) (by decide)
 rw[Rat.mul_one]at this;exact this
theorem SQ_one:(1:Rat)<=SQ/\SQ<=2:=by decide +kernel
theorem inv_ball {lo hi:Rat} {w g:Nat} (h1:1<=lo) (h2:lo<=hi) (h3:(hi-lo)*p2 w<=(g:Rat)) (hg:g+2<=2^w) (hw:1<=w) :
  2^(2*w)/(unN hi w+1)<=2^(2*w)/unN lo w+1/\2^(2*w)/unN lo w+1<=2*2^w/\2^(2*w)/unN lo w+1<=2^(2*w)/(unN hi w+1)+(g+4)/\2^w<=unN lo w/\unN hi w+1<=unN lo w+(g+2):=by
 have P:0<2^w:=Nat.pow_pos (by omega)
 have pp:2^(2*w)=2^w*2^w:=by rw[<- Nat.pow_add];congr 1;omega
 have u1:=unN_le (show 0<=lo by grind) w
 have u2:=unN_le (show 0<=hi by grind) w
 have W:=p2_pos w
 have lo1:2^w<=unN lo w:=by
  have a:p2 w<((unN lo w+1:Nat):Rat):=by
   have:=unN_lt (show 0<=lo by grind) w
   have m:=Rat.mul_le_mul_of_nonneg_right h1 (Rat.le_of_lt W)
   grind
  have a2:2^w<unN lo w+1:=by exact_mod_cast a
  omega
 have d:unN hi w+1<=unN lo w+(g+2):=by
  have a:((unN hi w:Nat):Rat)<((unN lo w+1+g:Nat):Rat):=by
   have:=unN_lt (show 0<=lo by grind) w
   rw[Ex.castadd (unN lo w+1) g]
   grind
  have a2:unN hi w<unN lo w+1+g:=by exact_mod_cast a
  omega
 have m:=unN_mono (show 0<=lo by grind) h2 w
 obtain⟨i1,i2,i3⟩:=inv_gapE (M:=2^(2*w)) (lo:=unN lo w) (hi:=unN hi w+1) (W:=2^w) P pp lo1 (by omega) (by omega)
 exact⟨by omega,by omega,by omega,lo1,d⟩
section
variable {N D w n:Nat}
theorem incg_roots {v:SV} {x:Rat} (hv:RatA v x 7) (h0:0<=x) (h64:x<=64) (hw0:8<=w) (hw:w<233\/w=256\/w=328) :
  ∃R1 R2:Nat,∃lo hi:Rat,Go.Ev.Fn CX 236 [v,.int .i64 (w:Int)] (spanV R1 R2)/\R1<=R2/\R2<=21*2^w/\R2<=R1+100/\0<=lo/\lo<=hi/\lo*lo<=x/\x<=hi*hi /\ ∀s,lo<=s->s<=hi->Enc w R1 R2 (s*(1/SQ)):=by
 obtain⟨lo,hi,fs,l0,lh,l1,l2,l3,y1,y2⟩:=root_Sqrt (p:=w) hv h0 (by omega) (by omega) (by omega)
 obtain⟨m1,m2,fp,h1,h2,h3,h4,z1,z2⟩:=many_pi hw0 (by omega)
 obtain⟨lo',hi',fr,r1,r2,r3,x1,x2⟩:=many_root (by omega) h1 h2 h3 h4 z1 z2
 have P:2^8<=2^w:=Nat.pow_le_pow_right (by omega) hw0
 have W:=p2_pos w
 have W8:((256:Nat):Rat)<=p2 w:=Ex.castle P
 rw[show ((256:Nat):Rat)=256 from rfl]at W8
 obtain⟨q1,q2⟩:=SQ_one
 have sq2:(3/2:Rat)<=SQ:=by decide +kernel
 have lo1:1<=lo':=by
  refine Rat.not_lt.1 fun g => ?_
  have:=Rat.mul_le_mul_of_nonneg_left W8 (show 0<=hi'-lo' by grind)
  have h32:(3/2:Rat)*2=3:=by decide +kernel
  grind
 have lh':lo'<=hi':=by grind
 obtain⟨i1,i2,i3,i4,i5⟩:=inv_ball (w:=w) (g:=3) lo1 lh' r3 (by omega) (by omega)
 have hlo:lo<=8:=by
  refine Rat.not_lt.1 fun g => ?_
  have a:=Rat.mul_le_mul_of_nonneg_right (Rat.le_of_lt g) l0
  grind
 have hhi:hi<=9:=by
  refine Rat.not_lt.1 fun g => ?_
  have:=Rat.mul_le_mul_of_nonneg_left W8 (show 0<=hi-lo by grind)
  grind
 have uh:unN hi w+1<=9*2^w+1:=by
  have u:=(unN_le (show 0<=hi by grind) w).1
  have m:=Rat.mul_le_mul_of_nonneg_right hhi (Rat.le_of_lt W)
  have t:((unN hi w:Nat):Rat)<=((9*2^w:Nat):Rat):=by
   rw[Ex.castmul];exact Rat.le_trans u m
  have:unN hi w<=9*2^w:=by exact_mod_cast t
  omega
 have ul:unN hi w+1<=unN lo w+3:=by
  have a:((unN hi w:Nat):Rat)<((unN lo w+1+1:Nat):Rat):=by
   have b:=unN_lt (show 0<=lo by grind) w
   have c:=(unN_le (show 0<=hi by grind) w).1
   rw[Ex.castadd (unN lo w+1) 1,show ((1:Nat):Rat)=1 from rfl]
   grind
  have a2:unN hi w<unN lo w+1+1:=by exact_mod_cast a
  omega
 have um:unN lo w<=unN hi w+1:=Nat.le_succ_of_le (unN_mono l0 lh w)
 have b1:=fix_Ball (w:=w) (szR_mono y1 (show _<=200 by omega)) (szR_mono y2 (show _<=200 by omega)) (by omega) (by omega)
 have b2:=fix_Ball (w:=w) (szR_mono x1 (show _<=200 by omega)) (szR_mono x2 (show _<=200 by omega)) (by omega) (by omega)
 obtain⟨j1,j2,j3⟩:=mulS (w:=w) (α:=10) (β:=2) (γ:=3) (δ:=7) um i1 (show unN hi w+1<=10*2^w by omega) i2 ul i3
 have e9:2^(w+9)=2^w*512:=Nat.pow_add _ _ _
 have lh2:unN hi' w+1<=9*2^w:=by
  have hi3:hi'<=3:=by
   refine Rat.not_lt.1 fun g => ?_
   have:=Rat.mul_le_mul_of_nonneg_left W8 (show 0<=hi'-lo' by grind)
   grind
  have u:=(unN_le (show 0<=hi' by grind) w).1
  have m:=Rat.mul_le_mul_of_nonneg_right hi3 (Rat.le_of_lt W)
  have t:((unN hi' w:Nat):Rat)<=((3*2^w:Nat):Rat):=by
   rw[Ex.castmul];exact Rat.le_trans u m
  have:unN hi' w<=3*2^w:=by exact_mod_cast t
  omega
 have um2:=unN_mono (show 0<=lo' by grind) lh' w
 have k1:=lim_len_pw (n:=unN lo w) (w:=w+9) (by omega)
 have k2:=lim_len_pw (n:=unN hi w+1) (w:=w+9) (by omega)
 have k3:=lim_len_pw (n:=unN lo' w) (w:=w+9) (by omega)
 have k4:=lim_len_pw (n:=unN hi' w+1) (w:=w+9) (by omega)
 have k5:=lim_len_pw (n:=2^(2*w)/unN lo' w+1) (w:=w+9) (by omega)
 have k6:=lim_len_pw (n:=2^(2*w)/(unN hi' w+1)) (w:=w+9) (by omega)
 have iv:=fix_Inverse (a:=unN lo' w) (b:=unN hi' w+1) (w:=w) (by omega) (by omega) (by omega) (by omega) (by omega)
 have mu:=fix_Mul (a:=unN lo w) (b:=unN hi w+1) (c:=2^(2*w)/(unN hi' w+1)) (d:=2^(2*w)/unN lo' w+1) (w:=w) (by omega) (by omega) (by omega) (by omega) (by omega) (by omega)
 have en : ∀s,lo<=s->s<=hi->Enc w (unN lo w*(2^(2*w)/(unN hi' w+1))/2^w) ((unN hi w+1)*(2^(2*w)/unN lo' w+1)/2^w+1) (s*(1/SQ)):=fun s g1 g2=>enc_mul (ball_enc l0 g1 g2 w) (enc_inv (show 0<unN lo' w by omega) (ball_enc (show 0<=lo' by grind) r1 r2 w)).1
 refine⟨_,_,lo,hi,?_,j1,by omega,by omega,l0,lh,l1,l2,en⟩
 clear en j1 j2 j3 i1 i2 i3 i4 i5 l0 lh l1 l2 l3 h1 h2 h3 h4 r1 r2 r3 k1 k2 k3 k4 k5 k6 lo1 lh' hlo hhi uh ul um lh2 q1 q2 sq2
 generalize 2^(2*w)/(unN hi' w+1)=I1 at *
 generalize 2^(2*w)/unN lo' w+1=I2 at *
 generalize unN hi w+1=u2 at *
 generalize unN lo w=u1 at *
 generalize unN hi' w+1=u4 at *
 generalize unN lo' w=u3 at *
 generalize u1*I1/2^w=Z1 at *
 generalize u2*I2/2^w+1=Z2 at *
 obtain⟨s0,n0,d0,rfl,-⟩:=hv
 refine fni Tryz.f236 ?_;unfold Tryz.f236;simp only[Option.get!_some]
 repeat (first|simp only[go_sem]|simp (disch:=first|exact omg|fail) only[AX]|refine wki ?_|refine vpd 3 [] ?_|refine vf_of (by first|exact fs|exact fp|exact fr|exact b1|exact b2|exact iv|exact mu) ?_)
def igC (n:Nat) (s:Rat):Rat:=if n%2=1 then s*(1/SQ)*2 else 1
set_option maxHeartbeats 1000000 in
theorem incg_power {x:Rat} (hz:szR x 7) (h0:0<=x) (h64:x<=64) (hn:1<=n) (hn2:n<=30) (hw0:8<=w) (hw:w<233\/w=256\/w=328) :
  ∃A B:Nat,∃lo hi:Rat,Go.Ev.Fn CX 165 [.int .i64 (n:Int),rv x,.int .i64 (w:Int)] (spanV A B)/\A<=B/\B<=(igP n).1*2^w/\B<=A+(igP n).2/\0<=lo/\lo<=hi/\lo*lo<=x/\x<=hi*hi /\ ∀s,lo<=s->s<=hi->Enc w A B (igC n s*tk (x*2) (2+n%2) (n/2)):=by
 obtain⟨R1,R2,lo,hi,fr,r1,r2,r3,l0,lh,l1,l2,en⟩:=incg_roots (w:=w) (RatA_rv hz) h0 h64 hw0 hw
 have zp:=Nat.le_trans hz.1 (show 7<=100 by omega)
 have zd:=Nat.le_trans hz.2 (show 7<=100 by omega)
 have er:rv x=ratV false (lim x.num.natAbs) (lim x.den):=ervP h0
 have hN:x.num.natAbs<=64*x.den:=by
  have d:=Ex.denR x
  have e:((x.num.natAbs:Nat):Rat)=(x.num:Rat):=by rw[<- castZn,num_abs h0]
  have dR:(0:Rat)<(x.den:Rat):=by exact_mod_cast x.den_pos
  have m:=Rat.mul_le_mul_of_nonneg_right h64 (Rat.le_of_lt dR)
  rw[d,<- e]at m
  have:((x.num.natAbs:Nat):Rat)<=((64*x.den:Nat):Rat):=by rw[Ex.castmul];exact m
  exact_mod_cast this
 have hx:x*(x.den:Rat)=((x.num.natAbs:Nat):Rat):=by rw[Ex.denR x,<- castZn,num_abs h0]
 have hD:=x.den_pos
 rw[er]at fr ⊢
 generalize x.num.natAbs=N at *
 generalize x.den=D at *
 have fx:=fix_RatS (s:=false) (n:=N) (d:=D) (w:=w) hD (by omega) (by omega) (by omega)
 have P:2^8<=2^w:=Nat.pow_le_pow_right (by omega) (by omega)
 obtain⟨b1,b2,b3,b4,b5⟩:=by_ok (w:=w) hD hN (by omega)
 have by5:=b5 x hx
 clear b5
 generalize N*2^w/D=T at *
 have e9:2^(w+9)=2^w*512:=Nat.pow_add _ _ _
 have lT:=lim_len_pw (n:=T) (w:=w+9) (by omega)
 have lT1:=lim_len_pw (n:=T+1) (w:=w+9) (by omega)
 have o2:=nat_Of 2 (by omega)
 have o1:=fix_One
 have l1':=lim_len1
 have l2':(lim 2).length<=1:=lim_len_one (by decide)
 have ti:=fix_Times (a:=T) (b:=T+1) (n:=2) (d:=1) (by omega) (by omega) (by omega) (by omega) (by omega)
 have un:=fix_Unit (w:=w) (by omega)
 have lR1:=lim_len_pw (n:=R1) (w:=w+9) (by omega)
 have lR2:=lim_len_pw (n:=R2) (w:=w+9) (by omega)
 have tr:=fix_Times (a:=R1) (b:=R2) (n:=2) (d:=1) (by omega) (by omega) (by omega) (by omega) (by omega)
 generalize T*2/1=Q1 at *
 generalize (T+1)*2/1+1=Q2 at *
 have lQ1:=lim_len_pw (n:=Q1) (w:=w+9) (by omega)
 have lQ2:=lim_len_pw (n:=Q2) (w:=w+9) (by omega)
 have step : ∀ (k a b:Nat),1<=k->k<1000->a<=b->(lim b).length<=2000->(Go.Ev.Fn CX 164 [spanV a b,spanV Q1 Q2,.int .i64 (w:Int)] (spanV (a*Q1/2^w) (b*Q2/2^w+1)))/\Go.Ev.Fn CX 175 [spanV (a*Q1/2^w) (b*Q2/2^w+1),natV (lim 1),natV (lim k)] (spanV (a*Q1/2^w*1/k) ((b*Q2/2^w+1)*1/k+1))/\a*Q1/2^w*1/k<=(b*Q2/2^w+1)*1/k+1/\(lim ((b*Q2/2^w+1)*1/k+1)).length<=(lim b).length+20:=by
  intro k a b hk hk2 hab hb
  have la:=lim_len_mono hab
  have z1:=lim_len_mul (a:=a) (b:=Q1)
  have z2:=lim_len_mul (a:=b) (b:=Q2)
  have z3:=lim_len_mono (Nat.div_le_self (a*Q1) (2^w))
  have z5:=lim_len_mono (Nat.div_le_self (b*Q2) (2^w))
  have z4:=lim_len_add (a:=b*Q2/2^w) (b:=1) (L:=(lim b).length+12) (by omega) (by omega)
  have z6:=lim_len_mono (Nat.div_le_self ((b*Q2/2^w+1)*1) k)
  rw[Nat.mul_one (b*Q2/2^w+1)]at z6
  have z7:=lim_len_add (a:=(b*Q2/2^w+1)*1/k) (b:=1) (L:=(lim b).length+13) (by rw[Nat.mul_one];omega) (by omega)
  have lk:(lim k).length<=1:=lim_len_one (by omega)
  refine⟨fix_Mul (by omega) (by omega) (by omega) (by omega) (by omega) (by omega),fix_Times (by omega) (by omega) (by omega) (by omega) (by omega),?_,by omega⟩
  refine Nat.le_succ_of_le (Nat.div_le_div_right (Nat.mul_le_mul_right 1 ?_))
  exact Nat.le_succ_of_le (Nat.div_le_div_right (Nat.mul_le_mul hab b1))
 have an:=and_one64 (a:=n) (by omega)
 by_cases hod:n%2=1
 ·have gP:igP n=wPow 129 41 (n/2) 3 50 400:=if_pos hod
  obtain⟨c1,c2,c3⟩:=pRow_wide (W:=129) (D:=41) b3 b1 b2 (n/2) 3 (R1*2/1) (R2*2/1+1) 50 400 (by omega) (by omega) (by omega) (by omega)
  rw[<- gP]at c2 c3
  have hk0:2+n%2=3:=by omega
  have pe : ∀s,lo<=s->s<=hi->Enc w (pRow w Q1 Q2 (n/2) 3 (R1*2/1) (R2*2/1+1)).1 (pRow w Q1 Q2 (n/2) 3 (R1*2/1) (R2*2/1+1)).2 (igC n s*tk (x*2) (2+n%2) (n/2)):=by
   intro s g1 g2
   rw[hk0]
   have h:=pRow_enc (c:=igC n s) (k0:=3) (by omega) by5 (n/2) 0 _ _ (by
   have e:=enc_times (n:=2) (d:=1) (by omega) (en s g1 g2)
   rw[times2]at e
   rw[show igC n s=s*(1/SQ)*2 from if_pos hod]
   show Enc w _ _ (_*1)
   rw[Rat.mul_one];exact e)
   rw[Nat.zero_add]at h
   exact h
  obtain⟨A,B,hAB⟩ : ∃A B:Nat,pRow w Q1 Q2 (n/2) 3 (R1*2/1) (R2*2/1+1)=(A,B):=⟨_,_,rfl⟩
  rw[hAB]at c1 c2 c3 pe
  refine⟨A,B,lo,hi,?_,c1,c2,c3,l0,lh,l1,l2,pe⟩
  have lS:(lim (R2*2/1+1)).length<=100:=Nat.le_trans (lim_len_pw (w:=w+9) (by omega)) (by omega)
  have hS:R1*2/1<=(R2*2/1+1):=by omega
  rw[hod]at an
  clear pe c1 c2 c3 gP hk0 en by5 b2 b3 b4 e9 P l0 lh l1 l2 r1 r2 r3
  generalize R1*2/1=S1 at *
  generalize R2*2/1+1=S2 at *
  refine fni Tryz.f165 ?_;unfold Tryz.f165;simp only[Option.get!_some]
  repeat (first|simp only[go_sem,an]|simp (disch:=first|exact omg|fail) only[AX,an]|refine wki ?_|refine vf_of (by first|exact un|exact fr|exact o2|exact o1|exact tr|exact fx|exact ti) ?_)
  refine vp_loop_inv (fun s'=>s'.tmp 0 = .sv (.int .i64 (n:Int))/\s'.tmp 2 = .sv (.int .i64 (w:Int))/\s'.tmp 6 = .ptr 6 0 0/\s'.obj 6 0=some [.sl 0 [],.sl 0 []]/\s'.tmp 7 = .ptr 7 0 0/\s'.tmp 9 = .ptr 9 0 0/\s'.obj 9 0=some [natV (lim Q1),natV (lim Q2)] /\
    ∃f i a b:Nat,s'.tmp 10 = .sv (.int .i64 ((3+2*i:Nat):Int))/\f+i=n/2/\pRow w Q1 Q2 f (3+2*i) a b=(A,B)/\s'.obj 7 0=some [natV (lim a),natV (lim b)]/\a<=b/\(lim b).length<=100+20*i)
   (fun s'=>match s'.tmp 10 with | .sv (.int _ i)=>1000-i.toNat|_=>0) ⟨rfl,rfl,rfl,rfl,rfl,rfl,rfl,n/2,0,S1,S2,rfl,by omega,hAB,rfl,hS,by omega⟩ ?_
  rintro s' ⟨i0,i2,i6,o6,i7,i9,o9,f,i,a,b,i10,hfi,hgo,o7,hab,hlb⟩
  have la:=lim_len_mono hab
  cases f with
  |zero=>
    have hgo':(a,b)=(A,B):=hgo
    simp only[Prod.mk.injEq]at hgo'
    obtain⟨rfl,rfl⟩:=hgo'
    clear step hAB
    repeat (first|simp only[go_sem,i0,i2,i6,o6,i7,i9,o9,i10,o7]|simp (disch:=first|exact omg|fail) only[AX,i0,i2,i6,o6,i7,i9,o9,i10,o7]|refine wki ?_)
  |succ f=>
    obtain⟨mu,tk,s1,s2⟩:=step (3+2*i) a b (by omega) (by omega) hab (by omega)
    have qk:=nat_Of (3+2*i) (by omega)
    have hgo':pRow w Q1 Q2 f (3+2*i+2) (a*Q1/2^w*1/(3+2*i)) ((b*Q2/2^w+1)*1/(3+2*i)+1)=(A,B):=hgo
    clear step hAB hgo
    generalize a*Q1/2^w*1/(3+2*i)=u1 at *
    generalize (b*Q2/2^w+1)*1/(3+2*i)+1=u2 at *
    generalize a*Q1/2^w=v1 at *
    generalize b*Q2/2^w+1=v2 at *
    repeat (first|simp only[go_sem,i0,i2,i6,o6,i7,i9,o9,i10,o7]|simp (disch:=first|exact omg|fail) only[AX,i0,i2,i6,o6,i7,i9,o9,i10,o7]|refine wki ?_|refine vf_of (by first|exact mu|exact o1|exact qk|exact tk) ?_)
    exact⟨⟨f,i+1,u1,u2,by first|rfl|(congr 2;omega),by omega,hgo',rfl,s1,by omega⟩,by omega⟩
 ·have gP:igP n=wPow 129 41 (n/2) 2 2 1:=if_neg hod
  obtain⟨c1,c2,c3⟩:=pRow_wide (W:=129) (D:=41) b3 b1 b2 (n/2) 2 (2^w) (2^w+1) 2 1 (by omega) (by omega) (by omega) (by omega)
  rw[<- gP]at c2 c3
  have hk0:2+n%2=2:=by omega
  have pe : ∀s,lo<=s->s<=hi->Enc w (pRow w Q1 Q2 (n/2) 2 (2^w) (2^w+1)).1 (pRow w Q1 Q2 (n/2) 2 (2^w) (2^w+1)).2 (igC n s*tk (x*2) (2+n%2) (n/2)):=by
   intro s g1 g2
   rw[hk0]
   have h:=pRow_enc (c:=igC n s) (k0:=2) (by omega) by5 (n/2) 0 _ _ (by
   rw[show igC n s=1 from if_neg hod]
   show Enc w _ _ (1*1)
   rw[Rat.mul_one];exact one_encE w)
   rw[Nat.zero_add]at h
   exact h
  obtain⟨A,B,hAB⟩ : ∃A B:Nat,pRow w Q1 Q2 (n/2) 2 (2^w) (2^w+1)=(A,B):=⟨_,_,rfl⟩
  rw[hAB]at c1 c2 c3 pe
  refine⟨A,B,lo,hi,?_,c1,c2,c3,l0,lh,l1,l2,pe⟩
  have lS:(lim (2^w+1)).length<=100:=Nat.le_trans (lim_len_pw (w:=w+9) (by omega)) (by omega)
  have hS:2^w<=(2^w+1):=by omega
  rw[show n%2=0 by omega]at an
  clear pe c1 c2 c3 gP hk0 en by5 b2 b3 b4 e9 P l0 lh l1 l2 r1 r2 r3
  obtain⟨S1,hS1⟩ : ∃z:Nat,z=2^w:=⟨_,rfl⟩
  rw[<- hS1]at un hAB hS lS
  refine fni Tryz.f165 ?_;unfold Tryz.f165;simp only[Option.get!_some]
  repeat (first|simp only[go_sem,an]|simp (disch:=first|exact omg|fail) only[AX,an]|refine wki ?_|refine vf_of (by first|exact un|exact fx|exact o2|exact o1|exact ti) ?_)
  refine vp_loop_inv (fun s'=>s'.tmp 0 = .sv (.int .i64 (n:Int))/\s'.tmp 2 = .sv (.int .i64 (w:Int))/\s'.tmp 6 = .ptr 6 0 0/\s'.obj 6 0=some [.sl 0 [],.sl 0 []]/\s'.tmp 7 = .ptr 7 0 0/\s'.tmp 9 = .ptr 9 0 0/\s'.obj 9 0=some [natV (lim Q1),natV (lim Q2)] /\
    ∃f i a b:Nat,s'.tmp 10 = .sv (.int .i64 ((2+2*i:Nat):Int))/\f+i=n/2/\pRow w Q1 Q2 f (2+2*i) a b=(A,B)/\s'.obj 7 0=some [natV (lim a),natV (lim b)]/\a<=b/\(lim b).length<=100+20*i)
   (fun s'=>match s'.tmp 10 with | .sv (.int _ i)=>1000-i.toNat|_=>0) ⟨rfl,rfl,rfl,rfl,rfl,rfl,rfl,n/2,0,S1,(S1+1),rfl,by omega,hAB,rfl,hS,by omega⟩ ?_
  rintro s' ⟨i0,i2,i6,o6,i7,i9,o9,f,i,a,b,i10,hfi,hgo,o7,hab,hlb⟩
  have la:=lim_len_mono hab
  cases f with
  |zero=>
    have hgo':(a,b)=(A,B):=hgo
    simp only[Prod.mk.injEq]at hgo'
    obtain⟨rfl,rfl⟩:=hgo'
    clear step hAB
    repeat (first|simp only[go_sem,i0,i2,i6,o6,i7,i9,o9,i10,o7]|simp (disch:=first|exact omg|fail) only[AX,i0,i2,i6,o6,i7,i9,o9,i10,o7]|refine wki ?_)
  |succ f=>
    obtain⟨mu,tk,s1,s2⟩:=step (2+2*i) a b (by omega) (by omega) hab (by omega)
    have qk:=nat_Of (2+2*i) (by omega)
    have hgo':pRow w Q1 Q2 f (2+2*i+2) (a*Q1/2^w*1/(2+2*i)) ((b*Q2/2^w+1)*1/(2+2*i)+1)=(A,B):=hgo
    clear step hAB hgo
    generalize a*Q1/2^w*1/(2+2*i)=u1 at *
    generalize (b*Q2/2^w+1)*1/(2+2*i)+1=u2 at *
    generalize a*Q1/2^w=v1 at *
    generalize b*Q2/2^w+1=v2 at *
    repeat (first|simp only[go_sem,i0,i2,i6,o6,i7,i9,o9,i10,o7]|simp (disch:=first|exact omg|fail) only[AX,i0,i2,i6,o6,i7,i9,o9,i10,o7]|refine wki ?_|refine vf_of (by first|exact mu|exact o1|exact qk|exact tk) ?_)
    exact⟨⟨f,i+1,u1,u2,by first|rfl|(congr 2;omega),by omega,hgo',rfl,s1,by omega⟩,by omega⟩
end
end Go.Proofs.YtenjdajophfpcaaGreat
namespace Go.Proofs.YtenjdajophfpcaaGreat
open Go.Ev
theorem ev_le1 {z:Rat} (h:z<0) {L:Nat} (hL:1<=L):evX z L<=1/\0<=evX z L:=by
 unfold evX
 rw[if_pos h]
 have one:=E_one (x := -z) (by grind) hL
 have i:Ex.E (-z) L*(1/Ex.E (-z) L)=1:=Ex.mul_div _ 1 (by grind)
 have i0:0<=1/Ex.E (-z) L:=Ex.div_nn (by decide) (by grind)
 have:=Rat.mul_le_mul_of_nonneg_right one i0
 rw[i,Rat.one_mul]at this
 exact⟨this,i0⟩
def igV (n:Nat) (s x:Rat) (L:Nat):Rat:=igC n s*tk (x*2) (2+n%2) (n/2)*(1*sk (x*2) (n+2) L)*evX (-x) L
section
variable {v:SV} {x:Rat} {n P:Nat} {pI:Int}
theorem incg_in {nI:Int} (hz:szR x 7) (h0:0<=x) (h64:x<=64) (hn:1<=nI) (hn2:nI<=256):Go.Ev.Fn CX 162 [.int .i64 nI,rv x] (.bool false):=by
 have i0:=rat_Int 0 (by omega)
 have i6:=rat_Int 64 (by omega)
 have c1:=rat_Cmp (RatA_rv hz) (RatA_rv (int_szR (n:=0) (by omega))) (by omega) (by omega) (by omega)
 have c2:=rat_Cmp (RatA_rv hz) (RatA_rv (int_szR (n:=64) (by omega))) (by omega) (by omega) (by omega)
 have e1:decide (cmpR x ((0:Int):Rat)<0)=false:=by rw[cmpR_lt];exact decide_eq_false (Rat.not_lt.2 h0)
 have e2:decide (cmpR x ((64:Int):Rat)>0)=false:=by rw[cmpR_gt];exact decide_eq_false (Rat.not_lt.2 h64)
 generalize cmpR x ((0:Int):Rat)=y1 at *
 generalize cmpR x ((64:Int):Rat)=y2 at *
 clear h0 h64
 refine fni Tryz.f162 ?_;unfold Tryz.f162;simp only[Option.get!_some]
 repeat (first|simp only[go_sem,e1,e2]|simp (disch:=first|exact omg|fail) only[AX,e1,e2]|refine wki ?_|refine vpd 1 [] ?_|refine vf_of (by first|exact i0|exact c1|exact i6|exact c2) ?_)
set_option maxHeartbeats 1000000 in
theorem incg_P (hv:RatA v x 7) (h0:0<x) (h64:x<=64) (hn:1<=n) (hn2:n<=30) (hpI:(pI<=0/\P=0)\/pI=(P:Int)) (hP:P<=96\/P=128\/P=200) :
  ∃l h lo hi:Rat,Go.Ev.Fn CX 107 [.int .i64 (n:Int),v,.int .i64 pI] (.tup [ballR l h,.bool true])/\l<=h/\szR l 400/\szR h 400/\(h-l)*p2 P<=1/\0<=lo/\lo<=hi/\lo*lo<=x/\x<=hi*hi /\
   ∀s,lo<=s->s<=hi -> ∃L0,∀L,L0<=L->l<=igV n s x L/\igV n s x L<=h:=by
 obtain⟨w,hwP,hw1,hw2⟩ : ∃w:Nat,w=P+128/\128<=w/\(w<225\/w=256\/w=328):=⟨_,rfl,by omega,by omega⟩
 have zx:=szR_of hv (by omega)
 have zn:=szR_neg zx
 have nm:=rat_Norm hv (by omega)
 have io:=incg_in (nI:=(n:Int)) zx (Rat.le_of_lt h0) h64 (by omega) (by omega)
 have zr:=rat_Zero (RatA_rv zx) (by omega) (by omega)
 rw[decide_eq_false (show ¬x=0 by grind)]at zr
 have ng:=rat_Neg (RatA_rv zx) (by omega) (by omega)
 have nx : -x<0:=by grind
 obtain⟨m,lm,fe,s2,hs2⟩:=exps_Exp (P:=w) (pI:=(w:Int)) (RatA_rv zn) (by omega) (by omega) (show -x≠0 by grind) (by grind) (by grind) (den_le zn (by omega)) (by omega) (.inr rfl)
 obtain⟨A,B,lo,hi,fp,p1,p2',p3,l0,lh,l1,l2,pe⟩:=incg_power (w:=w) zx (Rat.le_of_lt h0) h64 hn hn2 (by omega) (by omega)
 have er:rv x=ratV false (lim x.num.natAbs) (lim x.den):=ervP (Rat.le_of_lt h0)
 have hN:x.num.natAbs<=64*x.den:=by
  have d:=Ex.denR x
  have e:((x.num.natAbs:Nat):Rat)=(x.num:Rat):=by rw[<- castZn,num_abs (Rat.le_of_lt h0)]
  have dR:(0:Rat)<(x.den:Rat):=by exact_mod_cast x.den_pos
  have m:=Rat.mul_le_mul_of_nonneg_right h64 (Rat.le_of_lt dR)
  rw[d,<- e]at m
  have:((x.num.natAbs:Nat):Rat)<=((64*x.den:Nat):Rat):=by rw[Ex.castmul];exact m
  exact_mod_cast this
 have hx:x*(x.den:Rat)=((x.num.natAbs:Nat):Rat):=by rw[Ex.denR x,<- castZn,num_abs (Rat.le_of_lt h0)]
 obtain⟨R1,R2,fr,r1,rB,r2,r3,re⟩:=incg_row (N:=x.num.natAbs) (D:=x.den) (w:=w) (n:=n) hn hn2 x.den_pos hN (Nat.le_trans zx.1 (by omega)) (Nat.le_trans zx.2 (by omega)) (by omega) (by omega)
 have fr':=fr false
 rw[<- er]at fr'
 obtain⟨s1,hs1⟩:=re x hx
 have Pw:=p2_pos w
 have hm:m<=2^w:=by
  have e:=(hs2 (s2+1) (by omega)).1
  have k:=Rat.le_trans e (Rat.mul_le_mul_of_nonneg_right (ev_le1 (z := -x) nx (show 1<=s2+1 by omega)).1 (Rat.le_of_lt Pw))
  rw[Rat.one_mul]at k
  exact_mod_cast k
 have P8:2^8<=2^w:=Nat.pow_le_pow_right (by omega) (by omega)
 have e2:2^(w+2)=2^w*4:=Nat.pow_add _ _ _
 have lp:=lim_len_pw (n:=2^w) (w:=w+2) (by omega)
 have lm2:=lim_len_pw (n:=m+1) (w:=w+2) (by omega)
 have lm1:=lim_len_mono (show m<=m+1 by omega)
 have lm3:=lim_len_pw (n:=m+1+1) (w:=w+2) (by omega)
 have fb:=fix_Ball (w:=w) (lo:=mkRat (m:Int) (2^w)) (hi:=mkRat ((m+1:Nat):Int) (2^w)) (L:=200) (szR_nat (by omega) (by omega) (by omega)) (szR_nat (by omega) (by omega) (by omega)) (by omega) (by omega)
 rw[unN_mk,unN_mk]at fb
 obtain⟨g1,g2,g3⟩:=ig_at hn hn2
 obtain⟨u1,u2,u3⟩:=mulS (w:=w) p1 r1 p2' r2 p3 r3
 obtain⟨y1,y2,y3⟩:=mulS (w:=w) (β:=2) (δ:=2) u1 (show m<=m+1+1 by omega) u2 (show m+1+1<=2*2^w by omega) u3 (show m+1+1<=m+2 by omega)
 have ve : ∀s,lo<=s->s<=hi -> ∃L0,∀L,L0<=L->Enc w (A*R1/2^w*m/2^w) ((B*R2/2^w+1)*(m+1+1)/2^w+1) (igV n s x L):=by
  intro s q1 q2
  refine⟨s1+s2,fun L hL => ?_⟩
  exact enc_mul (enc_mul (pe s q1 q2) (hs1 L (by omega))) (enc_wider (n:=1) (hs2 L (by omega)))
 clear pe hs1 hs2 re fr g2 g3 hx hN
 have K:(igP n).1*((igR n).1+1)+1<=2^119:=by omega
 have tw : ∀k z Z,z<=2^k->Z<=z*2^w->Z<=2^(w+k):=by
  intro k z Z hz hZ
  rw[Nat.add_comm w,Nat.pow_add]
  exact Nat.le_trans hZ (Nat.mul_le_mul_right _ hz)
 have lA:(igP n).1<=2^119:=by
  have:=Nat.le_mul_of_pos_right (igP n).1 (show 0<(igR n).1+1 by omega)
  omega
 have bB:=tw 119 _ _ lA p2'
 have uB:=tw 119 _ _ K u2
 have sB:=tw 121 _ _ (by omega) y2
 have up : ∀k,k<=121->2^(w+k)<2^(w+122):=fun k hk=>Nat.pow_lt_pow_right (by omega) (by omega)
 have gap:(B*R2/2^w+1)*(m+1+1)/2^w+1<=A*R1/2^w*m/2^w+2^(w-(P+2)):=by
  have:2^120<=2^(w-(P+2)):=Nat.pow_le_pow_right (by omega) (by omega)
  omega
 have lB:=lim_len_pw (Nat.lt_of_le_of_lt bB (up 119 (by omega)))
 have lA':=lim_len_mono p1
 have lR:=lim_len_pw rB
 have lR1:=lim_len_mono r1
 have lU:=lim_len_pw (Nat.lt_of_le_of_lt uB (up 119 (by omega)))
 have lU1:=lim_len_mono u1
 have m1:=fix_Mul (a:=A) (b:=B) (c:=R1) (d:=R2) (w:=w) (by omega) (by omega) (by omega) (by omega) (by omega) (by omega)
 have m2:=fix_Mul (a:=A*R1/2^w) (b:=B*R2/2^w+1) (c:=m) (d:=m+1+1) (w:=w) (by omega) (by omega) (by omega) (by omega) (by omega) (by omega)
 have sS:(B*R2/2^w+1)*(m+1+1)/2^w+1<2^(w+10040):=Nat.lt_of_lt_of_le (Nat.lt_of_le_of_lt sB (up 121 (by omega))) (Nat.pow_le_pow_right (by omega) (by omega))
 obtain⟨l,h,t1,-,t3,t4,t5,t6,ft⟩:=told_span (p:=P+2) y1 sS (by omega) (by omega)
 have thin:=told_thin (p:=P) (by omega) gap
 rw[<- t5,<- t6]at thin
 refine⟨l,h,lo,hi,?_,t1,t3,t4,thin,l0,lh,l1,l2,fun s q1 q2 => ?_⟩
 rotate_left
 ·obtain⟨L0,hL⟩:=ve s q1 q2
  refine⟨L0,fun L h => ?_⟩
  have:=told_in (q:=P+2) (by omega) (hL L h)
  rw[<- t5,<- t6]at this
  exact this
 have x1:(if (0:Int)>pI then (0:Int) else pI)=(P:Int):=by split<;>omega
 have x2:(if (200:Int)<(P:Int) then (200:Int) else (P:Int))=(P:Int):=if_neg (by omega)
 clear ve thin t1 t3 t4 t5 t6 sS gap lB lA' lR lR1 lU lU1 up sB uB bB lA tw K y1 y2 y3 u1 u2 u3 g1 l0 lh l1 l2 p1 p2' p3 r1 r2 r3 rB lp lm lm1 lm2 lm3 P8 e2 hm h0 h64 zn hpI nx
 rw[er]at nm io zr ng fp fr'
 rw[show ((w:Nat):Int)=(P:Int)+128 by omega]at fp fr' fe fb m1 m2 ft
 rw[show ((P+2:Nat):Int)=(P:Int)+2 from rfl]at ft
 generalize mkRat (m:Int) (2^w)=q1 at *
 generalize mkRat ((m+1:Nat):Int) (2^w)=q2 at *
 generalize A*R1/2^w*m/2^w=S1 at *
 generalize (B*R2/2^w+1)*(m+1+1)/2^w+1=S2 at *
 generalize A*R1/2^w=U1 at *
 generalize B*R2/2^w+1=U2 at *
 generalize m+1+1=m2' at *
 generalize -x=nx at *
 obtain⟨s0,n0,d0,rfl,-⟩:=hv
 refine fni Tryz.f107 ?_;unfold Tryz.f107;simp only[Option.get!_some]
 repeat (first|simp only[go_sem,x1,x2,Bool.not_false]|simp (disch:=first|exact omg|fail) only[AX,x1,x2,Bool.not_false]|refine wki ?_|refine vpd 3 [] ?_|refine vpd 7 [] ?_|refine vpd 8 [] ?_|refine vf_of (by first|exact nm|exact io|exact zr|exact ng|exact fe|exact fp|exact fr'|exact m1|exact fb|exact m2|exact ft) ?_)
end
end Go.Proofs.YtenjdajophfpcaaGreat
namespace Go.Proofs.YtenjdajophfpcaaGreat
open Go.Ev
section
variable {v:SV} {x:Rat} {w n:Nat}
end
end Go.Proofs.YtenjdajophfpcaaGreat
namespace Go.Proofs.YtenjdajophfpcaaGreat
open Go.Ev
section
variable {v:SV} {x:Rat} {L a b p:Nat}
end
end Go.Proofs.YtenjdajophfpcaaGreat
namespace Go.Proofs.YtenjdajophfpcaaGreat
open Go.Ev
section
variable {v:SV} {x:Rat} {w n:Nat}
end
end Go.Proofs.YtenjdajophfpcaaGreat
namespace Go.Proofs.YtenjdajophfpcaaGreat
open Go.Ev
section
variable {z:Rat} {p:Int} {s:Bool} {n d:List Nat}
end
end Go.Proofs.YtenjdajophfpcaaGreat
namespace Go.Proofs.YtenjdajophfpcaaGreat
open Go.Ev
theorem lim_len_p2k {n w:Nat} (h:n<=2^w):(lim n).length<=w/32+2:=by
 have:=lim_len_pw (n:=n) (w:=w+1) (Nat.lt_of_le_of_lt h (Nat.pow_lt_pow_right (by omega) (by omega)))
 omega
section
variable {v:SV} {x:Rat} {w n p:Nat}
end
end Go.Proofs.YtenjdajophfpcaaGreat
namespace Go.Proofs.YtenjdajophfpcaaGreat
open Go.Ev
theorem root_width4 {lo lo' hi' hi A B P:Rat} (hP:0<P) (a2:lo<=lo') (a4:A<=lo'*lo') (a5:(lo'-lo)*P<=1) (h0:0<=lo) (b1:0<=hi') (b3:hi'*hi'<=B) (b5:(hi-hi')*P<=1) (hA:1<=A) (hAB:(B-A)*P<=2) (hAB0:A<=B):(hi-lo)*P<=4:=by
 have l0:0<=lo':=Rat.le_trans h0 a2
 have l1:1<=lo':=sq_mono (by decide) l0 (by rw[Rat.mul_one];exact Rat.le_trans hA a4)
 have key:hi'-lo'<=B-A:=by
  rcases Rat.le_total (a:=hi') (b:=lo') with g|g
  ·grind
  ·have h1:(hi'-lo')*1<=(hi'-lo')*(hi'+lo'):=Rat.mul_le_mul_of_nonneg_left (by grind) (by grind)
   have h2:(hi'-lo')*(hi'+lo')=hi'*hi'-lo'*lo':=by grind
   grind
 have k2:=Rat.mul_le_mul_of_nonneg_right key (show 0<=P by grind)
 have e:(hi-lo)*P=(hi-hi')*P+(hi'-lo')*P+(lo'-lo)*P:=by grind
 grind
def beR:Nat×Nat:=match wSt 129 41 300 3 9 1 9 1 with
 |(_,_,s,e)=>(s+20000,e+100000)
def beOk:Bool:=match wSt 129 41 300 3 9 1 9 1 with
 |(t',d',s,e)=>Nat.ble t' 4&&Nat.ble d' 20&&pin ((s+20001)*2+1) fun u=>pin ((e+100008)*2+(s+20001)*2+2) fun v=>Nat.ble (v*2+u*8+2) (2^120)
theorem be_ok:beOk=true:=by kernel_rfl
theorem be_at:(((beR.2+8)*2+(beR.1+1)*2+2)*2+((beR.1+1)*2+1)*8+2<=2^120)/\(wRow 129 41 5200 3 9 1 9 1).1<=beR.1/\(wRow 129 41 5200 3 9 1 9 1).2<=beR.2:=by
 have h:=be_ok
 unfold beOk at h
 unfold beR
 have st:=fun t' d' s' e'=>wRow_st 300 4900 3 9 1 9 1 (t':=t') (d':=d') (s':=s') (e':=e')
 rw[show 300+4900=5200 from rfl]at st
 generalize wRow 129 41 5200 3 9 1 9 1=R at *
 generalize wSt 129 41 300 3 9 1 9 1=r at *
 obtain⟨t',d',s,e⟩:=r
 generalize 2^120=K1 at *
 simp only[pin_eq,Bool.and_eq_true]at h
 obtain⟨⟨g1,g2⟩,g3⟩:=h
 obtain⟨a,b⟩:=st t' d' s e rfl (Nat.le_of_ble_eq_true g1) (Nat.le_of_ble_eq_true g2) (by omega)
 exact⟨Nat.le_of_ble_eq_true g3,Nat.le_trans a (show s+4*4900<=s+20000 by omega),Nat.le_trans b (show e+20*4900<=e+100000 by omega)⟩
theorem two_64 {y m c:Rat} (h:y<=64*m) (g:m*128<=c):y+y<=c:=by grind
theorem le_64 {z:Rat} (a:z*z<=z*8) (h:z<=8):z*z<=64:=by grind
section
variable {n d w many:Nat}
theorem bell_rowE (hd:0<d) (hn:n<=8*d) (hm:1<=many) (hm2:many<=2) (ln:(lim n).length<=100) (ld:(lim d).length<=100) (hw0:8<=w) (hw:w<=1000) :
  ∃A B:Nat,A<=B/\B<2^(w+10014)/\B<=(beR.1+1)*2^w/\B<=A+(beR.2+8)/\(∀s:Bool,Go.Ev.Fn CX 301 [ratV s (lim n) (lim d),.int .u64 (many:Int),.int .i64 (w:Int)] (spanV A B)) /\
   ∀z:Rat,z*(d:Rat)=(n:Rat) -> ∃s0,∀L,s0<=L->Enc w A B (z*sk (z*z*(many:Rat)) 3 L):=by
 have fr:=fun s=>fix_RatS (s:=s) (n:=n) (d:=d) (w:=w) hd (by omega) (by omega) (by omega)
 have P:2^8<=2^w:=Nat.pow_le_pow_right (by omega) hw0
 have Tle:n*2^w/d<=2^w*8:=by
  refine(Nat.div_le_iff_le_mul hd).2 ?_
  have m:=Nat.mul_le_mul_right (2^w) hn
  have e:8*d*2^w=2^w*8*d:=by rw[Nat.mul_comm,<- Nat.mul_assoc]
  omega
 have dR:(0:Rat)<(d:Rat):=by exact_mod_cast hd
 have ez : ∀z:Rat,z*(d:Rat)=(n:Rat)->Enc w (n*2^w/d) (n*2^w/d+1) z:=by
  intro z hz
  have f:=floor_le (a:=n*2^w) (d:=d)
  have g:=le_floor (a:=n*2^w) (d:=d) hd
  have k:((n*2^w:Nat):Rat)=z*p2 w*(d:Rat):=by
   have:((n*2^w:Nat):Rat)=(n:Rat)*p2 w:=by exact_mod_cast rfl
   rw[this,<- hz];grind
  rw[k]at f g
  exact⟨le_by dR f,le_by dR g⟩
 have z8 : ∀z:Rat,z*(d:Rat)=(n:Rat)->z<=8:=by
  intro z hz
  refine le_by dR ?_
  rw[hz]
  have:=Ex.castle hn
  rw[Ex.castmul]at this;exact this
 generalize n*2^w/d=T at *
 have e9:2^(w+9)=2^w*512:=Nat.pow_add _ _ _
 have e8:2^(w+8)=2^w*256:=Nat.pow_add _ _ _
 have e10:2^(w+10)=2^w*1024:=Nat.pow_add _ _ _
 have lT:=lim_len_pw (n:=T) (w:=w+9) (by omega)
 have lT1:=lim_len_pw (n:=T+1) (w:=w+9) (by omega)
 have sq:=fix_Mul (a:=T) (b:=T+1) (c:=T) (d:=T+1) (w:=w) (by omega) (by omega) (by omega) (by omega) (by omega) (by omega)
 have S2:(T+1)*(T+1)/2^w<=2^w*64+17:=by
  refine(Nat.div_le_iff_le_mul (by omega)).2 ?_
  have m:=Nat.mul_le_mul (show T+1<=2^w*8+1 by omega) (show T+1<=2^w*8+1 by omega)
  have e:(2^w*8+1)*(2^w*8+1)=(2^w*64+16)*2^w+1:=by generalize 2^w=y;grind
  have e':(2^w*64+17)*2^w=(2^w*64+16)*2^w+2^w:=by generalize 2^w=y;grind
  omega
 have S12:T*T/2^w<=(T+1)*(T+1)/2^w:=Nat.div_le_div_right (Nat.mul_le_mul (by omega) (by omega))
 have S3:(T+1)*(T+1)/2^w<=T*T/2^w+18:=by
  have h:(T+1)*(T+1)<=T*T+17*2^w:=by
   have:(T+1)*(T+1)=T*T+2*T+1:=by grind
   omega
  have h2:=Nat.div_le_div_right (c:=2^w) h
  rw[Nat.add_mul_div_right _ _ (by omega)]at h2
  omega
 have es : ∀z:Rat,z*(d:Rat)=(n:Rat)->Enc w (T*T/2^w) ((T+1)*(T+1)/2^w+1) (z*z):=fun z hz=>enc_mul (ez z hz) (ez z hz)
 generalize T*T/2^w=s1 at *
 generalize (T+1)*(T+1)/2^w=s2 at *
 have om:=nat_Of many (by omega)
 have o1:=fix_One
 have l1:=lim_len1
 have lm:(lim many).length<=2:=lim_len_lt (by omega)
 have ls1:=lim_len_pw (n:=s1) (w:=w+8) (by omega)
 have ls2:=lim_len_pw (n:=s2+1) (w:=w+8) (by omega)
 have ti:=fix_Times (a:=s1) (b:=s2+1) (n:=many) (d:=1) (by omega) (by omega) (by omega) (by omega) (by omega)
 have et : ∀z:Rat,z*(d:Rat)=(n:Rat)->Enc w (s1*many/1) ((s2+1)*many/1+1) (z*z*(many:Rat)):=by
  intro z hz
  have e:=enc_times (n:=many) (d:=1) (by omega) (es z hz)
  have e2:z*z*((many:Nat):Rat)/((1:Nat):Rat)=z*z*(many:Rat):=by
   rw[show ((1:Nat):Rat)=1 from rfl]
   generalize z*z*(many:Rat)=q
   have:=Rat.div_mul_cancel (a:=q) (b:=1) (by decide)
   rw[Rat.mul_one]at this;exact this
  rw[e2]at e;exact e
 have q1:s1*many/1<=(s2+1)*many/1+1:=Nat.le_succ_of_le (Nat.div_le_div_right (Nat.mul_le_mul_right _ (by omega)))
 have q2:(s2+1)*many/1+1<=129*2^w:=by
  rw[Nat.div_one]
  have:=Nat.mul_le_mul_left (s2+1) hm2
  omega
 have q3:(s2+1)*many/1+1<=s1*many/1+41:=by
  rw[Nat.div_one,Nat.div_one]
  have:=Nat.mul_le_mul_right many (show s2+1<=s1+19 by omega)
  rw[Nat.add_mul s1 19]at this
  omega
 generalize s1*many/1=Q1 at *
 generalize (s2+1)*many/1+1=Q2 at *
 have lQ1:=lim_len_pw (n:=Q1) (w:=w+9) (by omega)
 have lQ2:=lim_len_pw (n:=Q2) (w:=w+9) (by omega)
 have i0:=tInv_0 (w:=w) (k0:=3) (t1:=T) (t2:=T+1) (a1:=T) (a2:=T+1) (by omega) (by omega) (by omega) (by omega)
 obtain⟨F,hF⟩ : ∃F:Nat,F=5200:=⟨_,rfl⟩
 obtain⟨A,B,hr,hAB,hB⟩:=tRow_end (w:=w) (Y1:=Q1) (Y2:=Q2) (M:=many*128) (k0:=3) (by omega) q1 (by omega) (by omega) (by omega) 1023 F 0 3 T (T+1) T (T+1) i0 (by omega) (by omega) (by omega)
 obtain⟨-,w1,w2⟩:=tRow_wide (W:=129) (D:=41) q2 q1 q3 F F 3 _ _ _ _ 9 1 9 1 A B (Nat.le_refl _) (by omega) hr (by omega) (by omega) (by omega) (by omega) (by omega) (by omega)
 obtain⟨-,w3,w4⟩:=be_at
 rw[hF]at w1 w2
 generalize wRow 129 41 5200 3 9 1 9 1=wr at *
 have w5:=Nat.mul_le_mul_right (2^w) w3
 refine⟨A,B,hAB,hB,by rw[Nat.add_mul,Nat.one_mul];omega,by omega,fun s => ?_,fun z hz => ?_⟩
 rotate_left
 ·have en:=et z hz
  have z0:=enc_nonneg (ez z hz)
  have zz:z*z*(many:Rat)<=64*(many:Rat):=by
   have a:=Rat.mul_le_mul_of_nonneg_left (z8 z hz) z0
   exact Rat.mul_le_mul_of_nonneg_right (le_64 a (z8 z hz)) (nat_nonneg many)
  exact tRow_enc (c:=z) (k0:=3) (by omega) en z0 (fun i hM _=>by
   have c:=Ex.castle hM
   rw[Ex.castmul,show ((128:Nat):Rat)=128 from rfl]at c
   exact two_64 zz c) F 0 _ _ _ _ A B hr (by show Enc w _ _ (z*1);rw[Rat.mul_one];exact ez z hz) (by show Enc w _ _ (z*(0+1));rw[Rat.zero_add,Rat.mul_one];exact ez z hz)
 have lens:=fun (i k t1 t2 a1 a2:Nat) (hi:i<=F) (h:tInv w 3 i k t1 t2 a1 a2)=>(show (lim t1).length<=1000/\(lim t2).length<=1000/\(lim a1).length<=1000/\(lim a2).length<=1000 from by
  obtain⟨h1,h2,h3,h4,h5⟩:=h
  have a:=lim_len_pw h4
  have b:=lim_len_mono h2
  have up:(i+2)*2^(w+10000)<=2^(w+10014):=by
   have e:2^(w+10014)=16384*2^(w+10000):=by rw[show w+10014=14+(w+10000) by omega,Nat.pow_add 2 14]
   rw[e];exact Nat.mul_le_mul_right _ (by omega)
  have c:=lim_len_pw (n:=a2) (w:=w+10014) (by omega)
  have d:=lim_len_mono h3
  exact⟨by omega,by omega,by omega,by omega⟩)
 have step:=fun (i k t1 t2 a1 a2:Nat) (h:tInv w 3 i k t1 t2 a1 a2)=>tInv_step (Y1:=Q1) (Y2:=Q2) (by omega) q1 (by omega) h
 have frs:=fr s
 have shl:(many:Int)*2^7=((many*128:Nat):Int):=by omega
 clear fr ls1 ls2 S2 S12 S3 Tle e8 e9 e10 hB hAB w1 w2 w3 w4 w5 q2 q3 ez es et z8 P dR
 refine fni Tryz.f301 ?_;unfold Tryz.f301;simp only[Option.get!_some]
 repeat (first|simp only[go_sem]|simp (disch:=first|exact omg|fail) only[AX]|refine wki ?_|refine vf_of (by first|exact frs|exact sq|exact om|exact o1|exact ti) ?_)
 refine vp_loop_inv (fun s'=>s'.tmp 1 = .sv (.int .u64 (many:Int))/\s'.tmp 2 = .sv (.int .i64 (w:Int))/\s'.tmp 6 = .ptr 6 0 0/\s'.obj 6 0=some [.sl 0 [],.sl 0 []]/\s'.tmp 7 = .ptr 7 0 0/\s'.tmp 8 = .ptr 8 0 0/\s'.obj 8 0=some [natV (lim Q1),natV (lim Q2)]/\s'.tmp 9 = .ptr 9 0 0 /\
   ∃f i k t1 t2 a1 a2:Nat,s'.tmp 10 = .sv (.int .u64 (k:Int))/\f+i=F/\tRow w Q1 Q2 (many*128) f k t1 t2 a1 a2=some (A,B)/\s'.obj 7 0=some [natV (lim t1),natV (lim t2)]/\s'.obj 9 0=some [natV (lim a1),natV (lim a2)]/\tInv w 3 i k t1 t2 a1 a2)
  (fun s'=>match s'.tmp 10 with | .sv (.int _ i)=>20000-i.toNat|_=>0) ⟨rfl,rfl,rfl,rfl,rfl,rfl,rfl,rfl,F,0,3,T,T+1,T,T+1,rfl,by omega,hr,rfl,rfl,i0⟩ ?_
 rintro s' ⟨i1,i2,i6,o6,i7,i8,o8,i9,f,i,k,t1,t2,a1,a2,i10,hfi,hgo,o7,o9,hok⟩
 obtain⟨lt1,lt2,la1,la2⟩:=lens i k t1 t2 a1 a2 (by omega) hok
 have hk:=hok.1
 have st:=step i k t1 t2 a1 a2 hok
 have sm:=fix_Small (a:=t1) (b:=t2) (by omega) (k:=2) (by omega)
 cases f with
 |zero=>simp only[tRow]at hgo;cases hgo
 |succ f=>
  rw[tRow]at hgo
  by_cases hs:many*128<=k/\t2<4
  ·rw[if_pos hs]at hgo
   simp only[Option.some.injEq,Prod.mk.injEq]at hgo
   obtain⟨rfl,rfl⟩:=hgo
   rw[decide_eq_true (show t2<2^2 from hs.2)]at sm
   have wd:=fix_Wider (a:=a1) (b:=a2) (n:=8) (by omega) (by omega) (by omega)
   have hs1:=hs.1
   clear step lens st hr
   repeat (first|simp only[go_sem,i1,i2,i6,o6,i7,i8,o8,i9,i10,o7,o9,shl,Bool.not_true]|simp (disch:=first|exact omg|fail) only[AX,i1,i2,i6,o6,i7,i8,o8,i9,i10,o7,o9,shl,Bool.not_true]|refine wki ?_|refine vf_of (by first|exact sm|exact wd) ?_)
  ·rw[if_neg hs]at hgo
   obtain⟨lu1,lu2,lb1,lb2⟩:=lens (i+1) (k+2) _ _ _ _ (by omega) st
   have mu:=fix_Mul (a:=t1) (b:=t2) (c:=Q1) (d:=Q2) (w:=w) (by omega) (by omega) (by omega) (by omega) (by omega) (by omega)
   have qk:=nat_Of k (by omega)
   have lq:(lim k).length<=2:=lim_len_lt (by omega)
   have z1:=lim_len_mul (a:=t1) (b:=Q1)
   have z2:=lim_len_mul (a:=t2) (b:=Q2)
   have z3:=lim_len_mono (Nat.div_le_self (t1*Q1) (2^w))
   have z4:=lim_len_add (a:=t2*Q2/2^w) (b:=1) (L:=5000) (Nat.le_trans (lim_len_mono (Nat.div_le_self (t2*Q2) (2^w))) (by omega)) (by omega)
   have tk:=fix_Times (a:=t1*Q1/2^w) (b:=t2*Q2/2^w+1) (n:=1) (d:=k) (by omega) (by omega) (by omega) (by omega) (by omega)
   generalize t1*Q1/2^w*1/k=u1 at *
   generalize (t2*Q2/2^w+1)*1/k+1=u2 at *
   generalize t1*Q1/2^w=v1 at *
   generalize t2*Q2/2^w+1=v2 at *
   have ad:=fix_Add (a:=a1) (b:=a2) (c:=u1) (d:=u2) (by omega) (by omega) (by omega) (by omega)
   clear step lens hr
   by_cases hs1:k<many*128
   ·clear sm
    repeat (first|simp only[go_sem,i1,i2,i6,o6,i7,i8,o8,i9,i10,o7,o9,shl]|simp (disch:=first|exact omg|fail) only[AX,i1,i2,i6,o6,i7,i8,o8,i9,i10,o7,o9,shl]|refine wki ?_|refine vf_of (by first|exact mu|exact o1|exact qk|exact tk|exact ad) ?_)
    exact⟨⟨f,i+1,k+2,u1,u2,a1+u1,a2+u2,rfl,by omega,hgo,rfl,rfl,st⟩,by omega⟩
   ·rw[decide_eq_false (show ¬t2<2^2 from fun h=>hs ⟨by omega,h⟩)]at sm
    repeat (first|simp only[go_sem,i1,i2,i6,o6,i7,i8,o8,i9,i10,o7,o9,shl,Bool.not_false]|simp (disch:=first|exact omg|fail) only[AX,i1,i2,i6,o6,i7,i8,o8,i9,i10,o7,o9,shl,Bool.not_false]|refine wki ?_|refine vf_of (by first|exact sm|exact mu|exact o1|exact qk|exact tk|exact ad) ?_)
    exact⟨⟨f,i+1,k+2,u1,u2,a1+u1,a2+u2,rfl,by omega,hgo,rfl,rfl,st⟩,by omega⟩
theorem bell_shareE (hm:1<=many) (hm2:many<=2) (hw0:8<=w) (hw:w<233\/w=256\/w=328) :
  ∃A B:Nat,∃r1 r2:Rat,Go.Ev.Fn CX 267 [.int .i64 (many:Int),.int .i64 (w:Int)] (spanV A B)/\A<=B/\B<=2*2^w/\B<=A+8/\0<=r1/\r1<=r2/\r1*r1<=(many:Rat)*(SQ*SQ)/\(many:Rat)*(SQ*SQ)<=r2*r2 /\ ∀r,r1<=r->r<=r2->Enc w A B (1/r):=by
 obtain⟨m1,m2,fp,h1,h2,h3,h4,z1,z2⟩:=many_pi hw0 hw
 have ri:=rat_Int (many:Int) (by omega)
 have zi:=int_szR (n:=(many:Int)) (by omega)
 have o:=ball_Of (RatA_rv zi) (by omega)
 have c1:(1:Rat)<=((many:Int):Rat):=by
  have:((1:Nat):Rat)<=(many:Rat):=Ex.castle hm
  exact this
 have c2:((many:Int):Rat)<=2:=by
  have:(many:Rat)<=((2:Nat):Rat):=Ex.castle hm2
  exact this
 have W:=p2_pos w
 have W8:((256:Nat):Rat)<=p2 w:=Ex.castle (show 2^8<=2^w from Nat.pow_le_pow_right (by omega) hw0)
 rw[show ((256:Nat):Rat)=256 from rfl]at W8
 have g12:m1<=m2:=Rat.le_trans h1 h2
 have m3:3<=m1:=by
  have q:(31/10:Rat)<=SQ*SQ:=by decide +kernel
  have q2:(31/10:Rat)*10=31:=by decide +kernel
  refine Rat.not_lt.1 fun g => ?_
  have:=Rat.mul_le_mul_of_nonneg_left W8 (show 0<=m2-m1 by grind)
  grind
 have bm:=ball_Mul (L:=80) (szR_mono zi (by omega)) (szR_mono zi (by omega)) (szR_mono z1 (by omega)) (szR_mono z2 (by omega)) (by omega) (by omega)
 rw[(lohi1 (show (0:Rat)<=((many:Int):Rat) by grind) g12).1,(lohi1 (show (0:Rat)<=((many:Int):Rat) by grind) g12).2]at bm
 have k1:(3:Rat)<=((many:Int):Rat)*m1:=by
  have:=Rat.mul_le_mul_of_nonneg_left m3 (show (0:Rat)<=((many:Int):Rat) by grind)
  grind
 have k2:=Rat.mul_le_mul_of_nonneg_left g12 (show (0:Rat)<=((many:Int):Rat) by grind)
 have k3:=Rat.mul_le_mul_of_nonneg_left h1 (show (0:Rat)<=((many:Int):Rat) by grind)
 have k4:=Rat.mul_le_mul_of_nonneg_left h2 (show (0:Rat)<=((many:Int):Rat) by grind)
 have k5:(((many:Int):Rat)*m2-((many:Int):Rat)*m1)*p2 w<=2:=by
  have e:(((many:Int):Rat)*m2-((many:Int):Rat)*m1)*p2 w=((many:Int):Rat)*((m2-m1)*p2 w):=by grind
  rw[e]
  have a:=Rat.mul_le_mul_of_nonneg_left h3 (show (0:Rat)<=((many:Int):Rat) by grind)
  grind
 obtain⟨lo,lo',hi',hi,fr,r1,r2,r3,r4,r5,r6,r7,r8,r9,r10,y1,y2⟩:=root_Of (L:=82) (p:=w) (A:=((many:Int):Rat)*m1) (B:=((many:Int):Rat)*m2) (by grind) (by grind) (szR_mono (szR_mul zi z1 (by omega)) (by omega)) (szR_mono (szR_mul zi z2 (by omega)) (by omega)) (by omega) (by omega) (by omega)
 have fb:=fix_Ball (w:=w) (szR_mono y1 (show _<=200 by omega)) (szR_mono y2 (show _<=200 by omega)) (by omega) (by omega)
 have wd:=root_width4 W r2 r4 r5 r1 r6 r8 r10 (show (1:Rat)<=((many:Int):Rat)*m1 by grind) k5 k2
 have l1:3/2<=lo':=by
  refine Rat.not_lt.1 fun g => ?_
  have e:(3/2:Rat)*(3/2)=9/4:=by decide +kernel
  have e2:(9/4:Rat)<3:=by decide +kernel
  have p:(0:Rat)<3/2:=by decide +kernel
  have a:=mul_le (Rat.le_of_lt g) (Rat.le_of_lt g) (Rat.le_of_lt p) (Rat.le_trans r1 r2)
  rw[e]at a
  grind
 have lo1:1<=lo:=by
  refine Rat.not_lt.1 fun g => ?_
  have:=Rat.mul_le_mul_of_nonneg_left W8 (show 0<=lo'-lo by grind)
  have p:(3/2:Rat)*2=3:=by decide +kernel
  grind
 have lh:lo<=hi:=by
  have a:lo*lo<=hi*hi:=Rat.le_trans r3 (Rat.le_trans k2 r9)
  have h0:0<=hi:=Rat.le_trans r6 r7
  exact sq_mono r1 h0 a
 obtain⟨i1,i2,i3,i4,i5⟩:=inv_ball (w:=w) (g:=4) lo1 lh wd (by have:=Nat.pow_le_pow_right (n:=2) (by omega) hw0;omega) (by omega)
 have P:2^8<=2^w:=Nat.pow_le_pow_right (by omega) hw0
 have hi5:hi<=5:=by
  have q:SQ*SQ<=32/10:=by decide +kernel
  have q2:(32/10:Rat)*10=32:=by decide +kernel
  have m2le:m2<=4:=by
   refine Rat.not_lt.1 fun g => ?_
   have:=Rat.mul_le_mul_of_nonneg_left W8 (show 0<=m2-m1 by grind)
   grind
  have q8:((many:Int):Rat)*m2<=8:=by
   have a:=Rat.mul_le_mul_of_nonneg_right c2 (show 0<=m2 by grind)
   grind
  have h4':hi'<=4:=by
   refine Rat.not_lt.1 fun h => ?_
   have:=Rat.mul_le_mul_of_nonneg_right (Rat.le_of_lt h) r6
   grind
  refine Rat.not_lt.1 fun h => ?_
  have:=Rat.mul_le_mul_of_nonneg_left W8 (show 0<=hi-hi' by grind)
  grind
 have t2:unN hi w<=5*2^w:=by
  have u:=(unN_le (show 0<=hi by grind) w).1
  have m5:=Rat.mul_le_mul_of_nonneg_right hi5 (Rat.le_of_lt W)
  have t:((unN hi w:Nat):Rat)<=((5*2^w:Nat):Rat):=by
   rw[Ex.castmul];exact Rat.le_trans u m5
  exact_mod_cast t
 have um:=unN_mono (show 0<=lo by grind) lh w
 have e9:2^(w+9)=2^w*512:=Nat.pow_add _ _ _
 have lA:=lim_len_pw (n:=unN lo w) (w:=w+9) (by omega)
 have lB:=lim_len_pw (n:=unN hi w+1) (w:=w+9) (by omega)
 have iv:=fix_Inverse (a:=unN lo w) (b:=unN hi w+1) (w:=w) (by omega) (by omega) (by omega) (by omega) (by omega)
 refine⟨2^(2*w)/(unN hi w+1),2^(2*w)/unN lo w+1,lo,hi,?_,i1,i2,i3,by grind,lh,Rat.le_trans r3 k3,Rat.le_trans k4 r9,fun r a b=>(enc_inv (w:=w) (show 0<unN lo w by omega) (ball_enc r1 a b w)).1⟩
 clear k1 k2 k3 k4 k5 r1 r2 r3 r4 r5 r6 r7 r8 r9 r10 lo1 lh h1 h2 h3 h4 g12 c1 c2 m3 wd l1 i1 i2 i3 i4 i5 hi5 t2 um
 generalize 2^(2*w)/(unN hi w+1)=A at *
 generalize 2^(2*w)/unN lo w+1=B at *
 generalize ((many:Int):Rat)*m1=q1 at *
 generalize ((many:Int):Rat)*m2=q2 at *
 generalize unN hi w+1=u2 at *
 generalize unN lo w=u1 at *
 refine fni Tryz.f267 ?_;unfold Tryz.f267;simp only[Option.get!_some]
 repeat (first|simp only[go_sem]|simp (disch:=first|exact omg|fail) only[AX]|refine wki ?_|refine vf_of (by first|exact ri|exact o|exact fp|exact bm|exact fr|exact fb|exact iv) ?_)
end
end Go.Proofs.YtenjdajophfpcaaGreat
namespace Go.Proofs.YtenjdajophfpcaaGreat
open Go.Ev
def arV (z y q r:Rat) (L:Nat):Rat:=z*sk y 3 L*evX (-q) L*(1/r)
section
variable {z:Rat} {w P:Nat} {pI:Int}
theorem bell_areaE {many S1 S2:Nat} (hz:szR z 7) (h0:0<=z) (h8:z<=8) (hm:1<=many) (hm2:many<=2) (hw0:8<=w) (hw:w<=400) (hS:S1<=S2) (hS2:S2<=2*2^w) (hS3:S2<=S1+8) :
  ∃A B:Nat,A<=B/\B<=2^(w+120)/\B<=A+2^120/\(∀r,Enc w S1 S2 (1/r) -> ∃s0,∀L,s0<=L->Enc w A B (arV z (z*z*(many:Rat)) (if many=1 then z*z/2 else z*z) r L)) /\ ∀y:Rat,y=z\/y = -z->Go.Ev.Fn CX 266 [rv y,.int .u64 (many:Int),spanV S1 S2,.int .i64 (w:Int)] (spanV A B):=by
 have zp:=Nat.le_trans hz.1 (show 7<=100 by omega)
 have zd:=Nat.le_trans hz.2 (show 7<=100 by omega)
 obtain⟨R1,R2,r1,r2,r3,r4,fr,er⟩:=bell_rowE (n:=z.num.natAbs) (d:=z.den) (many:=many) (w:=w) z.den_pos (num_le8 h0 h8) hm hm2 zp zd hw0 (by omega)
 obtain⟨g1,-,-⟩:=be_at
 generalize beR=bR at *
 obtain⟨q0,q64⟩:=sq_bd h0 h8
 obtain⟨sq,hsq,sqz,sq1,sq2⟩ : ∃sq:Rat,sq=(if many=1 then z*z/2 else z*z)/\szR sq 15/\0<=sq/\sq<=64:=by
  by_cases e:many=1
  ·refine⟨_,rfl,?_,?_⟩<;>rw[if_pos e]
   ·exact szR_mono (szR_div (szR_mul hz hz (by omega)) two_len (by omega) (by omega)) (by omega)
   ·have hh:z*z/2*2=z*z:=Rat.div_mul_cancel (by decide)
    generalize z*z/2=t at *
    clear r1 r2 fr
    constructor<;>grind
  ·refine⟨_,rfl,?_,?_⟩<;>rw[if_neg e]
   ·exact szR_mono (szR_mul hz hz (by omega)) (by omega)
   ·exact⟨q0,q64⟩
 have zn:=szR_neg sqz
 obtain⟨F1,F2,f1,f3,f2,ff,s2,ef⟩:=bell_fall (z := -sq) (w:=w) (RatA_rv zn) (by omega) (by omega) (neg64 sq1 sq2).1 (neg64 sq1 sq2).2 (den_le zn (by omega)) (by omega)
 have ng:=rat_Neg (RatA_rv sqz) (by omega) (by omega)
 have i2:=rat_Int 2 (by omega)
 have dv:=rat_Div (RatA_rv (szR_mul hz hz (by omega))) (RatA_rv (int_szR (n:=2) (by omega))) (by omega) (by omega) (by omega)
 rw[show ((2:Int):Rat)=2 from rfl]at i2 dv
 rw[decide_eq_true (show ¬(2:Rat)=0 by decide)]at dv
 have P2:2^8<=2^w:=Nat.pow_le_pow_right (by omega) hw0
 have e1:2^(w+2)=2^w*4:=Nat.pow_add _ _ _
 have lR2:=lim_len_pw r2
 have lR1:=lim_len_mono r1
 have lF2:=lim_len_pw (n:=F2) (w:=w+2) (by omega)
 have lF1:=lim_len_mono f1
 have lS2:=lim_len_pw (n:=S2) (w:=w+2) (by omega)
 have lS1:=lim_len_mono hS
 have m1:=fix_Mul (a:=R1) (b:=R2) (c:=F1) (d:=F2) (w:=w) (by omega) (by omega) (by omega) (by omega) (by omega) (by omega)
 obtain⟨u1,u2,u3⟩:=mulS (w:=w) (β:=2) (δ:=2) r1 f1 r3 (show F2<=2*2^w by omega) r4 f3
 obtain⟨y1,y2,y3⟩:=mulS (w:=w) (β:=2) (δ:=8) u1 hS u2 hS2 u3 hS3
 have hx:z*(z.den:Rat)=((z.num.natAbs:Nat):Rat):=by rw[Ex.denR z,<- castZn,num_abs h0]
 obtain⟨s1,es⟩:=er z hx
 have en : ∀r,Enc w S1 S2 (1/r) -> ∃s0,∀L,s0<=L->Enc w (R1*F1/2^w*S1/2^w) ((R2*F2/2^w+1)*S2/2^w+1) (arV z (z*z*(many:Rat)) (if many=1 then z*z/2 else z*z) r L):=by
  intro r hr
  refine⟨s1+s2,fun L hL => ?_⟩
  have e:=enc_mul (enc_mul (es L (by omega)) (ef L (by omega))) hr
  rw[hsq]at e
  exact e
 have tw : ∀k q Z,q<=2^k->Z<=q*2^w->Z<=2^(w+k):=by
  intro k q Z hz hZ
  rw[Nat.add_comm w,Nat.pow_add]
  exact Nat.le_trans hZ (Nat.mul_le_mul_right _ hz)
 have uB:=tw 118 _ _ (by omega) u2
 have sB:=tw 120 _ _ (by omega) y2
 have gap:(R2*F2/2^w+1)*S2/2^w+1<=R1*F1/2^w*S1/2^w+2^120:=by omega
 clear es ef er tw g1 u2 u3 y2 y3 r3 r4 f3
 generalize R1*F1/2^w=U1 at *
 generalize R2*F2/2^w+1=U2 at *
 have lU2:=lim_len_p2k uB
 have lU1:=lim_len_mono u1
 have m2:=fix_Mul (a:=U1) (b:=U2) (c:=S1) (d:=S2) (w:=w) (by omega) (by omega) (by omega) (by omega) (by omega) (by omega)
 refine⟨U1*S1/2^w,U2*S2/2^w+1,y1,sB,gap,en,fun y hy => ?_⟩
 clear en sB gap uB
 obtain⟨s,hs⟩ : ∃s:Bool,rv y=ratV s (lim z.num.natAbs) (lim z.den):=by
  rcases hy with rfl|rfl
  ·exact⟨_,rfl⟩
  ·exact rv_neg z
 have zy:szR y 7:=by
  rcases hy with rfl|rfl
  ·exact hz
  ·exact szR_neg hz
 have mu:=rat_Mul (RatA_rv zy) (RatA_rv zy) (by omega) (by omega) (by omega)
 have yy:=sq_same hy
 rw[yy,hs]at mu
 rw[hs]
 have frs:=fr s
 generalize U1*S1/2^w=V1 at *
 generalize U2*S2/2^w+1=V2 at *
 clear fr yy zy hy hs e1 P2 u1 r1 r2 y1 hx
 by_cases e:many=1
 ·subst e
  rw[if_pos rfl]at hsq
  rw[<- hsq]at dv
  clear hsq sqz sq1 sq2 q0 q64
  generalize z*z=zz at *
  generalize -sq=nsq at *
  refine fni Tryz.f266 ?_;unfold Tryz.f266;simp only[Option.get!_some]
  repeat (first|simp only[go_sem]|simp (disch:=first|exact omg|fail) only[AX]|refine wki ?_|refine vpd 3 [] ?_|refine vpd 4 [] ?_|refine vf_of (by first|exact mu|exact i2|exact dv|exact frs|exact ng|exact ff|exact m1|exact m2) ?_)
 ·have e2:many=2:=by omega
  subst e2
  rw[if_neg (by omega)]at hsq
  rw[<- hsq]at mu
  clear hsq sqz sq1 sq2 q0 q64 dv
  generalize -sq=nsq at *
  refine fni Tryz.f266 ?_;unfold Tryz.f266;simp only[Option.get!_some]
  repeat (first|simp only[go_sem]|simp (disch:=first|exact omg|fail) only[AX]|refine wki ?_|refine vpd 3 [] ?_|refine vpd 4 [] ?_|refine vf_of (by first|exact mu|exact frs|exact ng|exact ff|exact m1|exact m2) ?_)
theorem bell_PhiG (hz:szR z 7) (h0:0<z) (h8:z<=8) (hpI:(pI<=0/\P=0)\/pI=(P:Int)) (hP:P<=104\/P=128\/P=200) :
  ∃l h r1 r2:Rat,l<=h/\szR l 400/\szR h 400/\(h-l)*p2 P<=1/\0<=r1/\r1<=r2/\r1*r1<=2*(SQ*SQ)/\2*(SQ*SQ)<=r2*r2/\(∀r,r1<=r->r<=r2 -> ∃s0,∀L,s0<=L->l<=arV z (z*z) (z*z/2) r L/\arV z (z*z) (z*z/2) r L<=h)/\(∀v,RatA v z 7->Go.Ev.Fn CX 207 [v,.int .i64 pI] (.tup [ballR (1/2+l) (1/2+h),.bool true]))/\(∀v,RatA v (-z) 7->Go.Ev.Fn CX 207 [v,.int .i64 pI] (.tup [ballR (1/2 + -h) (1/2 + -l),.bool true])):=by
 have g1 : -8<=z:=by grind
 have g2 : -8 <= -z:=by grind
 have g3 : -z<=8:=by grind
 have g4 : ¬z=0:=by grind
 have g5 : ¬-z=0:=by grind
 obtain⟨S1,S2,r1,r2,fs,s1,s2,s3,a0,a1,a2',a3,sE⟩:=bell_shareE (many:=2) (w:=P+128) (by omega) (by omega) (by omega) (by omega)
 obtain⟨A,B,a1',a2,gap,ae,fa⟩:=bell_areaE (many:=2-1) (w:=P+128) hz (Rat.le_of_lt h0) h8 (by omega) (by omega) (by omega) (by omega) s1 s2 s3
 obtain⟨K,hK⟩ : ∃K:Nat,K=10040:=⟨_,rfl⟩
 have e40:2^(P+128+120)<2^(P+128+K):=Nat.pow_lt_pow_right (by omega) (by omega)
 rw[hK]at e40
 obtain⟨l,h,t1,t2,t3,t4,t5,t6,ft⟩:=told_span (w:=P+128) (p:=P+2) a1' (Nat.lt_of_le_of_lt a2 e40) (by omega) (by omega)
 have thin:=told_thin (w:=P+128) (p:=P) (by omega) (show B<=A+2^(P+128-(P+2)) from Nat.le_trans gap (Nat.add_le_add_left (Nat.pow_le_pow_right (by omega) (by omega)) _))
 rw[<- t5,<- t6]at thin
 have ve : ∀r,r1<=r->r<=r2 -> ∃s0,∀L,s0<=L->l<=arV z (z*z) (z*z/2) r L/\arV z (z*z) (z*z/2) r L<=h:=by
  intro r q1 q2
  obtain⟨s0,hs⟩:=ae r (sE r q1 q2)
  refine⟨s0,fun L hL => ?_⟩
  have e:=told_in (w:=P+128) (q:=P+2) (by omega) (hs L hL)
  rw[<- t5,<- t6,if_pos rfl,show z*z*((2-1:Nat):Rat)=z*z by rw[show ((2-1:Nat):Rat)=1 from rfl,Rat.mul_one]]at e
  exact e
 rw[show ((2:Nat):Rat)=2 from rfl]at a2' a3
 clear ae sE gap e40 hK a2
 have hh:=bell_held hpI (show P<=200 by omega)
 have i1:=rat_Int 1 (by omega)
 have i2:=rat_Int 2 (by omega)
 have dv:=rat_Div (RatA_rv (int_szR (n:=1) (by omega))) (RatA_rv (int_szR (n:=2) (by omega))) (by omega) (by omega) (by omega)
 rw[half_div,decide_eq_true (show ¬((2:Int):Rat)=0 by decide)]at dv
 have oh:=ball_Of (RatA_rv hlf_len) (by omega)
 have ng:=ball_Neg t3 t4 (by omega) (by omega)
 have ad1:=ball_Add hlf_len hlf_len t3 t4 (by omega) (by omega) (by omega)
 have ad2:=ball_Add hlf_len hlf_len (szR_neg t4) (szR_neg t3) (by omega) (by omega) (by omega)
 obtain⟨n1,n2⟩:=num_neg_iff h0
 rw[show ((P+128:Nat):Int)=(P:Int)+128 from rfl]at fs fa ft
 rw[show ((P+2:Nat):Int)=(P:Int)+2 from rfl]at ft
 refine⟨l,h,r1,r2,t1,t3,t4,thin,a0,a1,a2',a3,ve,fun v hv => ?_,fun v hv => ?_⟩
 ·have fr:=bell_nigh hv (by omega) (by omega) g1 h8
  have nm:=rat_Norm hv (by omega)
  have zr:=rat_Zero (RatA_rv hz) (by omega) (by omega)
  rw[decide_eq_false g4]at zr
  have fa1:=fa z (.inl rfl)
  have erz:rv z=ratV false (lim z.num.natAbs) (lim z.den):=by show ratV (decide (z.num<0)) _ _=_;rw[n1]
  rw[erz]at nm zr fa1
  clear fa ad2 ng n2 hz h0 h8 t1 t2 t3 t4 t5 t6 thin ve a0 a1 a2' a3 a1' s1 s2 s3
  obtain⟨s,n,d,rfl,-⟩:=hv
  generalize 1/2+l=q1 at *
  generalize 1/2+h=q2 at *
  generalize (1/2:Rat)=hf at *
  refine fni Tryz.f207 ?_;unfold Tryz.f207;simp only[Option.get!_some]
  repeat (first|simp only[go_sem]|simp (disch:=first|exact omg|fail) only[AX]|refine wki ?_|refine vpd 8 [] ?_|refine vpd 11 [] ?_|refine vf_of (by first|exact fr|exact nm|exact i1|exact i2|exact dv|exact zr|exact hh|exact fs|exact fa1|exact ft|exact oh|exact ad1) ?_)
 ·have zn:=szR_neg hz
  have fr:=bell_nigh hv (by omega) (by omega) g2 g3
  have nm:=rat_Norm hv (by omega)
  have zr:=rat_Zero (RatA_rv zn) (by omega) (by omega)
  rw[decide_eq_false g5]at zr
  have fa1:=fa (-z) (.inr rfl)
  have erz:rv (-z)=ratV true (lim (-z).num.natAbs) (lim (-z).den):=by show ratV (decide ((-z).num<0)) _ _=_;rw[n2]
  rw[erz]at nm zr fa1
  clear fa ad1 n1 hz h0 h8 t1 t2 t3 t4 t5 t6 thin ve a0 a1 a2' a3 a1' s1 s2 s3 zn
  obtain⟨s,n,d,rfl,-⟩:=hv
  generalize 1/2 + -h=q1 at *
  generalize 1/2 + -l=q2 at *
  generalize (1/2:Rat)=hf at *
  generalize -h=mh at *
  generalize -l=ml at *
  refine fni Tryz.f207 ?_;unfold Tryz.f207;simp only[Option.get!_some]
  repeat (first|simp only[go_sem]|simp (disch:=first|exact omg|fail) only[AX]|refine wki ?_|refine vpd 8 [] ?_|refine vpd 11 [] ?_|refine vf_of (by first|exact fr|exact nm|exact i1|exact i2|exact dv|exact zr|exact hh|exact fs|exact fa1|exact ft|exact ng|exact oh|exact ad2) ?_)
end
end Go.Proofs.YtenjdajophfpcaaGreat
namespace Go.Proofs.YtenjdajophfpcaaGreat
open Go.Ev
def arT (j:Nat) (u:Rat):Rat:=8*u*tk (8*u*(8*u)) 3 j
def arTs:Nat->Rat->Rat
 |0,_=>8
 |j+1,u=>64*u*arT j u
theorem arT_step (j:Nat) (u:Rat):arT (j+1) u*((3+2*j:Nat):Rat)=arT j u*(64*(u*u)):=by
 have h:=tk_step (y:=8*u*(8*u)) (k0:=3) (by omega) j
 unfold arT
 generalize tk (8*u*(8*u)) 3 (j+1)=a at *
 generalize tk (8*u*(8*u)) 3 j=b at *
 generalize ((3+2*j:Nat):Rat)=c at *
 have e:8*u*a*c=8*u*(c*a):=by grind
 rw[e,h];grind
theorem dif_sq (c:Rat):Dif (fun u=>c*(u*u)) (fun u=>c*(u+u)):=
 dif_congr (dif_mul (dif_const c) (dif_mul dif_id dif_id)) (fun u=>rfl) (fun u=>by
  show c*(u*1+1*u)+0*(u*u)=c*(u+u);grind)
theorem dif_arT : ∀j,Dif (arT j) (arTs j)
 |0=>dif_congr (dif_mul (dif_const 8) dif_id) (fun u=>by show 8*u=8*u*1;grind) (fun u=>by show 8*1+0*u=(8:Rat);grind)
 |j+1=>by
  have ih:=dif_arT j
  obtain⟨c,hc⟩ : ∃c:Rat,((3+2*j:Nat):Rat)*c=1:=⟨1/((3+2*j:Nat):Rat),Ex.mul_div _ 1 (by have:(0:Rat)<((3+2*j:Nat):Rat):=Ex.castlt (a:=0) (by omega);grind)⟩
  refine dif_congr (dif_mul ih (dif_sq (64*c))) (fun u => ?_) (fun u => ?_)
  ·show arT j u*(64*c*(u*u))=arT (j+1) u
   have h:=arT_step j u
   have e:arT j u*(64*c*(u*u))=arT j u*(64*(u*u))*c:=by grind
   rw[e,<- h,Rat.mul_assoc,hc,Rat.mul_one]
  ·show arT j u*(64*c*(u+u))+arTs j u*(64*c*(u*u))=64*u*arT j u
   cases j with
   |zero=>
    have e0:arT 0 u=8*u:=by show 8*u*1=8*u;grind
    have e1:arTs 0 u=8:=rfl
    have e3:((3+2*0:Nat):Rat)=3:=rfl
    rw[e3]at hc
    rw[e0,e1]
    have:8*u*(64*c*(u+u))+8*(64*c*(u*u))=512*(u*u)*(3*c):=by grind
    rw[this,hc];grind
   |succ j=>
    have h:=arT_step j u
    have e1:arTs (j+1) u=64*u*arT j u:=rfl
    have e5:((3+2*(j+1):Nat):Rat)=((3+2*j:Nat):Rat)+2:=by
     rw[show 3+2*(j+1)=3+2*j+2 by omega,Ex.castadd (3+2*j) 2];rfl
    rw[e5]at hc
    rw[e1]
    have a:arT (j+1) u*(64*c*(u+u))+64*u*arT j u*(64*c*(u*u))=64*u*c*(arT (j+1) u*2+arT j u*(64*(u*u))):=by grind
    rw[a,<- h]
    have b:64*u*c*(arT (j+1) u*2+arT (j+1) u*((3+2*j:Nat):Rat))=64*u*arT (j+1) u*((((3+2*j:Nat):Rat)+2)*c):=by grind
    rw[b,hc,Rat.mul_one]
def arM (j:Nat) (u:Rat):Rat:=Ex.tm (-32*(u*u)) j
def arMs:Nat->Rat->Rat
 |0,_=>0
 |j+1,u => -64*u*arM j u
theorem arM_step (j:Nat) (u:Rat):((j+1:Nat):Rat)*arM (j+1) u = -32*(u*u)*arM j u:=Ex.tm_succ _ j
theorem dif_arM : ∀j,Dif (arM j) (arMs j)
 |0=>dif_const 1
 |j+1=>by
  have ih:=dif_arM j
  obtain⟨c,hc⟩ : ∃c:Rat,((j+1:Nat):Rat)*c=1:=⟨1/((j+1:Nat):Rat),Ex.mul_div _ 1 (Ex.nsucc_ne j)⟩
  refine dif_congr (dif_mul ih (dif_sq (-32*c))) (fun u => ?_) (fun u => ?_)
  ·show arM j u*(-32*c*(u*u))=arM (j+1) u
   have h:=arM_step j u
   have e:arM j u*(-32*c*(u*u)) = -32*(u*u)*arM j u*c:=by grind
   rw[e,<- h]
   have e2:((j+1:Nat):Rat)*arM (j+1) u*c=((j+1:Nat):Rat)*c*arM (j+1) u:=by grind
   rw[e2,hc,Rat.one_mul]
  ·show arM j u*(-32*c*(u+u))+arMs j u*(-32*c*(u*u)) = -64*u*arM j u
   cases j with
   |zero=>
    have e1:arMs 0 u=0:=rfl
    have e3:((0+1:Nat):Rat)=1:=rfl
    rw[e3,Rat.one_mul]at hc
    rw[e1,hc];grind
   |succ j=>
    have h:=arM_step j u
    have e1:arMs (j+1) u = -64*u*arM j u:=rfl
    have e5:((j+1+1:Nat):Rat)=((j+1:Nat):Rat)+1:=by rw[Ex.castadd (j+1) 1];rfl
    rw[e5]at hc
    rw[e1]
    have a:arM (j+1) u*(-32*c*(u+u)) + -64*u*arM j u*(-32*c*(u*u)) = -64*u*c*(arM (j+1) u + -32*(u*u)*arM j u):=by grind
    rw[a,<- h]
    have b : -64*u*c*(arM (j+1) u+((j+1:Nat):Rat)*arM (j+1) u) = -64*u*arM (j+1) u*((((j+1:Nat):Rat)+1)*c):=by grind
    rw[b,hc,Rat.mul_one]
def arA (u:Rat):Nat->Rat
 |0=>0
 |L+1=>arA u L+arT L u
theorem arA_is (u:Rat) : ∀L,arA u L=8*u*sk (8*u*(8*u)) 3 L
 |0=>by show (0:Rat)=8*u*0;grind
 |L+1=>by
  have ih:=arA_is u L
  show arA u L+8*u*tk (8*u*(8*u)) 3 L=8*u*(sk (8*u*(8*u)) 3 L+tk (8*u*(8*u)) 3 L)
  rw[ih];grind
theorem dif_arA : ∀L,Dif (fun u=>arA u (L+1)) (fun u=>8+64*u*arA u L)
 |0=>dif_congr (dif_arT 0) (fun u=>by show arT 0 u=0+arT 0 u;grind) (fun u=>by show (8:Rat)=8+64*u*0;grind)
 |L+1=>dif_congr (dif_add (dif_arA L) (dif_arT (L+1))) (fun u=>rfl) (fun u=>by
  show 8+64*u*arA u L+64*u*arT L u=8+64*u*(arA u L+arT L u);grind)
theorem dif_arE : ∀L,Dif (fun u=>Ex.E (-32*(u*u)) (L+1)) (fun u => -64*u*Ex.E (-32*(u*u)) L)
 |0=>dif_congr (dif_arM 0) (fun u=>by show arM 0 u=0+Ex.tm _ 0;rw[Rat.zero_add];rfl) (fun u=>by show (0:Rat) = -64*u*0;grind)
 |L+1=>dif_congr (dif_add (dif_arE L) (dif_arM (L+1))) (fun u=>rfl) (fun u=>by
  show -64*u*Ex.E (-32*(u*u)) L + -64*u*Ex.tm (-32*(u*u)) L = -64*u*(Ex.E (-32*(u*u)) L+Ex.tm (-32*(u*u)) L);grind)
theorem tk_le_tm {y:Rat} (h:0<=y) : ∀j,tk y 3 j<=Ex.tm y j
 |0=>Rat.le_refl
 |j+1=>by
  have ih:=tk_le_tm h j
  have s1:=tk_step (y:=y) (k0:=3) (by omega) j
  have s2:=Ex.tm_succ y j
  have n1:=tk_nn (k0:=3) (by omega) h (j+1)
  have c:((j+1:Nat):Rat)<=((3+2*j:Nat):Rat):=Ex.castle (by omega)
  have p:(0:Rat)<((j+1:Nat):Rat):=Ex.nsucc_pos j
  refine le_by p ?_
  have m:=Rat.mul_le_mul_of_nonneg_right c n1
  have m2:=Rat.mul_le_mul_of_nonneg_right ih h
  grind
theorem sk_le_E {y:Rat} (h:0<=y) : ∀L,sk y 3 L<=Ex.E y L
 |0=>Rat.le_refl
 |L+1=>by
  have ih:=sk_le_E h L
  have:=tk_le_tm h L
  show sk y 3 L+tk y 3 L<=Ex.E y L+Ex.tm y L
  grind
theorem sq_unit {u:Rat} (h0:0<=u) (h1:u<=1):0<=u*u/\u*u<=1:=by
 have a:=Rat.mul_nonneg h0 h0
 have b:=Rat.mul_le_mul_of_nonneg_left h1 h0
 exact⟨a,by grind⟩
theorem ar_near {u e:Rat} {L:Nat} (h0:0<=u) (h1:u<=1) (hL:1<=L) (hm:2*Ex.tm 64 L<=e) (hL2:(64:Rat)+64<=((L+1:Nat):Rat)) :
  Ex.Bdd (Ex.E (-32*(u*u)) L-1/Ex.E (32*(u*u)) L) e/\Ex.Bdd (arM L u) e/\0<=arT L u/\arT L u<=8*e/\0<=arA u L/\arA u L<=8*Ex.t2 102/\1/Ex.t2 102<=1/Ex.E (32*(u*u)) L/\1/Ex.E (32*(u*u)) L<=1:=by
 obtain⟨q0,q1⟩:=sq_unit h0 h1
 have y0:0<=32*(u*u):=by grind
 have n32 : -(32*(u*u)) = -32*(u*u):=by grind
 have a:=E_inv y0 hL (show (32*(u*u)+32*(u*u))+(32*(u*u)+32*(u*u))<=_ from Rat.le_trans (by grind) hL2)
 have m64:=Ex.tm_mono (x:=32*(u*u)+32*(u*u)) (y:=64) (by grind) (by grind) L
 have m32:=Ex.tm_mono (x:=32*(u*u)) (y:=64) (by grind) (by grind) L
 have t0:=Ex.tm_nn (x:=64) (by decide) L
 have b:=tm_negB y0 L
 rw[n32]at a b
 have z0:0<=8*u*(8*u):=by grind
 have z64:8*u*(8*u)<=64:=by grind
 have tz:=tk_nn (k0:=3) (by omega) z0 L
 have tl:=Rat.le_trans (tk_le_tm z0 L) (Ex.tm_mono z0 z64 L)
 have sz:=sk_nn (k0:=3) (by omega) z0 L
 have sl:=Rat.le_trans (sk_le_E z0 L) (E_big z0 z64 L)
 have one:=E_one y0 hL
 have big:=E_big y0 (by grind) L
 have K:=Ex.t2_pos 102
 have i1:Ex.E (32*(u*u)) L*(1/Ex.E (32*(u*u)) L)=1:=Ex.mul_div _ 1 (by grind)
 have i2:Ex.t2 102*(1/Ex.t2 102)=1:=Ex.mul_div _ 1 (by grind)
 have p1:0<=1/Ex.E (32*(u*u)) L:=Ex.div_nn (by decide) (by grind)
 have p2:0<=1/Ex.t2 102:=Ex.div_nn (by decide) K
 have r1:=Rat.mul_le_mul_of_nonneg_right one p1
 have r2:=Rat.mul_le_mul_of_nonneg_right big (Rat.mul_nonneg p1 p2)
 have k1:Ex.E (32*(u*u)) L*(1/Ex.E (32*(u*u)) L*(1/Ex.t2 102))=1/Ex.t2 102:=by rw[<- Rat.mul_assoc,i1,Rat.one_mul]
 have k2:Ex.t2 102*(1/Ex.E (32*(u*u)) L*(1/Ex.t2 102))=1/Ex.E (32*(u*u)) L:=by
  have:Ex.t2 102*(1/Ex.E (32*(u*u)) L*(1/Ex.t2 102))=1/Ex.E (32*(u*u)) L*(Ex.t2 102*(1/Ex.t2 102)):=by grind
  rw[this,i2,Rat.mul_one]
 rw[k1,k2]at r2
 rw[i1,Rat.one_mul]at r1
 refine⟨Ex.Bdd_mono a (by grind),Ex.Bdd_mono b (by grind),Rat.mul_nonneg (by grind) tz,?_,?_,?_,r2,r1⟩
 ·show 8*u*tk (8*u*(8*u)) 3 L<=8*e
  have m:=mul_le (show 8*u<=8 by grind) tl (by decide) tz
  grind
 ·rw[arA_is];exact Rat.mul_nonneg (by grind) sz
 ·rw[arA_is];exact mul_le (show 8*u<=8 by grind) sl (by decide) sz
end Go.Proofs.YtenjdajophfpcaaGreat
namespace Go.Proofs.YtenjdajophfpcaaGreat
open Go.Ev
theorem ar_slopeG {u e K A M T B B1:Rat} (h0:0<=u) (h1:u<=1) (K1:1<=K) (he:0<=e) (hk:e*(K*(K*2000))<=1) (hA0:0<=A) (hA:A<=8*K) (hM:Ex.Bdd M e) (hT0:0<=T) (hT:T<=8*e) (hB:Ex.Bdd B 2) (hB1:1/K-e<=B1):1/K<=8*B1+64*u*(A*M-T*B):=by
 have K0:0<K:=by grind
 have i2:K*(1/K)=1:=Ex.mul_div _ 1 (by grind)
 have e1:e*(K*2000)<=1/K:=by
  refine le_by K0 ?_
  have:e*(K*2000)*K=e*(K*(K*2000)):=by grind
  rw[this,Rat.mul_comm (1/K),i2];exact hk
 have eK:e<=e*K:=by
  have:=Rat.mul_le_mul_of_nonneg_left K1 he
  rw[Rat.mul_one]at this;exact this
 have eK0:0<=e*K:=Rat.mul_nonneg he (by grind)
 have b1:=Ex.Bdd_mul (show Ex.Bdd A (8*K) from⟨by grind,hA⟩) hM
 have b2:=Ex.Bdd_mul (show Ex.Bdd T (8*e) from⟨by grind,hT⟩) hB
 have b3:=Ex.Bdd_mul (show Ex.Bdd u 1 from⟨by grind,h1⟩) (Ex.Bdd_sub b1 b2)
 obtain⟨l,-⟩:=b3
 have g:8*K*e=8*(e*K):=by grind
 have g2:1*(8*K*e+8*e*2)<=24*(e*K):=by grind
 have g3:64*u*(A*M-T*B)=64*(u*(A*M-T*B)):=by grind
 have g4:e*(K*2000)=2000*(e*K):=by grind
 rw[g3]
 generalize u*(A*M-T*B)=X at *
 generalize e*K=Z at *
 generalize 1/K=R at *
 clear b1 b2 hA hM hT hB hk
 grind
theorem area_grows {x y e:Rat} (hx:0<x) (hxy:x<=y) (hy:y<=8) (he:0<e) : ∃N:Nat,∀L,N<=L->x*sk (x*x) 3 L*evX (-(x*x/2)) L+(y-x)/8*(1/Ex.t2 102)<=y*sk (y*y) 3 L*evX (-(y*y/2)) L+e:=by
 obtain⟨K,hK⟩ : ∃K:Rat,K=Ex.t2 102:=⟨_,rfl⟩
 have K1:1<=K:=by rw[hK];exact Ex.castle (show 1<=2^102 by decide +kernel)
 have Kp:0<K:=by grind
 obtain⟨d,hd0,hd1,hd2⟩ : ∃d:Rat,0<d/\d*(K*(K*2000))<=1/\d*(16*K)<=e:=by
  have KK:=Rat.mul_pos Kp (Rat.mul_pos Kp (show (0:Rat)<2000 by decide))
  have E0:0<16*K/e:=by rw[Rat.div_def];exact Rat.mul_pos (by grind) (Rat.inv_pos.2 he)
  have ee:16*K/e*e=16*K:=Rat.div_mul_cancel (by grind)
  obtain⟨D,hD⟩ : ∃D,D=K*(K*2000)+16*K/e:=⟨_,rfl⟩
  have Dp:0<D:=by rw[hD];grind
  have i:D*(1/D)=1:=Ex.mul_div _ 1 (by grind)
  have ip:0<1/D:=by rw[Rat.div_def,Rat.one_mul];exact Rat.inv_pos.2 Dp
  refine⟨1/D,ip,?_,?_⟩
  ·have:=Rat.mul_le_mul_of_nonneg_left (show K*(K*2000)<=D by rw[hD];grind) (Rat.le_of_lt ip)
   rw[Rat.mul_comm (1/D) D,i]at this;exact this
  ·have m:=Rat.mul_le_mul_of_nonneg_left (show 16*K/e<=D by rw[hD];grind) (Rat.le_of_lt ip)
   rw[Rat.mul_comm (1/D) D,i]at m
   have m2:=Rat.mul_le_mul_of_nonneg_right m (Rat.le_of_lt he)
   rw[Rat.mul_assoc,ee,Rat.one_mul]at m2
   exact m2
 obtain⟨N,hN⟩:=Ex.tm_small (y:=64) (by decide) hd0
 refine⟨N+2,fun L hL => ?_⟩
 obtain⟨u,hu⟩ : ∃u:Rat,x=8*u:=⟨x/8,by rw[Ex.mul_div _ _ (by decide)]⟩
 obtain⟨v,hv⟩ : ∃v:Rat,y=8*v:=⟨y/8,by rw[Ex.mul_div _ _ (by decide)]⟩
 obtain⟨k,rfl⟩ : ∃k,L=k+1:=⟨L-1,by omega⟩
 have near:=fun (t:Rat) (t0:0<=t) (t1:t<=1) (m:Nat) (hm:N+1<=m)=>ar_near (u:=t) (e:=d) (L:=m) t0 t1 (by omega) (hN m (by omega)).2 (hN m (by omega)).1
 obtain⟨R,hR⟩ : ∃R:Rat,R=1/K:=⟨_,rfl⟩
 have mono:arA u (k+1)*Ex.E (-32*(u*u)) (k+1) + -R*u<=arA v (k+1)*Ex.E (-32*(v*v)) (k+1) + -R*v:=by
  refine dif_mono (dif_add (dif_mul (dif_arA k) (dif_arE k)) (dif_mul (dif_const (-R)) dif_id)) (show 0<=u by grind) (show u<=v by grind) (show v<=1 by grind) fun t h1 h2 => ?_
  have t0:0<=t:=by grind
  have t1:t<=1:=by grind
  obtain⟨n1,n2,n3,n4,n5,n6,n7,n8⟩:=near t t0 t1 k (by omega)
  obtain⟨g1,g2,g3,g4,g5,g6,g7,g8⟩:=near t t0 t1 (k+1) (by omega)
  have e1:arA t (k+1)=arA t k+arT k t:=rfl
  have e2:Ex.E (-32*(t*t)) (k+1)=Ex.E (-32*(t*t)) k+arM k t:=rfl
  have s:=ar_slopeG (u:=t) (e:=d) (K:=K) (A:=arA t k) (M:=arM k t) (T:=arT k t) (B:=Ex.E (-32*(t*t)) k) (B1:=Ex.E (-32*(t*t)) (k+1)) t0 t1 K1 (Rat.le_of_lt hd0) hd1 n5 (by rw[hK];exact n6) n2 n3 n4 (by
   obtain⟨a,b⟩:=n1
   have d1:d<=1:=by
    have KK:1<=K*(K*2000):=by
     have a:=mul_le (show 1<=K from K1) (show 1<=K*2000 by grind) (by grind) (by decide)
     rw[Rat.one_mul]at a;exact a
    have:=Rat.mul_le_mul_of_nonneg_left KK (Rat.le_of_lt hd0)
    grind
   have p:0<=1/Ex.E (32*(t*t)) k:=Rat.le_trans (Ex.div_nn (by decide) (Ex.t2_pos 102)) n7
   constructor<;>grind) (by
   obtain⟨a,b⟩:=g1
   rw[hK];grind)
  have fin:arA t (k+1)*(-64*t*Ex.E (-32*(t*t)) k)+(8+64*t*arA t k)*Ex.E (-32*(t*t)) (k+1)=8*Ex.E (-32*(t*t)) (k+1)+64*t*(arA t k*arM k t-arT k t*Ex.E (-32*(t*t)) k):=by
   rw[e1,e2];grind
  show 0<=arA t (k+1)*(-64*t*Ex.E (-32*(t*t)) k)+(8+64*t*arA t k)*Ex.E (-32*(t*t)) (k+1)+(-R*1+0*t)
  rw[fin,hR]
  generalize 8*Ex.E (-32*(t*t)) (k+1)+64*t*(arA t k*arM k t-arT k t*Ex.E (-32*(t*t)) k)=Z at *
  generalize 1/K=R' at *
  clear near hN n1 n2 g1 g2 e2 fin
  grind
 have val : ∀t z:Rat,z=8*t->0<z->z<=8->Ex.Bdd (z*sk (z*z) 3 (k+1)*evX (-(z*z/2)) (k+1)-arA t (k+1)*Ex.E (-32*(t*t)) (k+1)) (8*K*d):=by
  intro t z hz z0 z8
  obtain⟨g1,g2,g3,g4,g5,g6,g7,g8⟩:=near t (by grind) (by grind) (k+1) (by omega)
  have zz:0<z*z:=Rat.mul_pos z0 z0
  have q:z*z/2=32*(t*t):=by
   have h:=Rat.div_mul_cancel (a:=z*z) (b:=2) (by decide)
   have:z*z=32*(t*t)*2:=by rw[hz];grind
   generalize z*z/2=w at *
   grind
  have ev:evX (-(z*z/2)) (k+1)=1/Ex.E (32*(t*t)) (k+1):=by
   have tt:0<32*(t*t):=by rw[<- q];have h:=Rat.div_mul_cancel (a:=z*z) (b:=2) (by decide);generalize z*z/2=w at *;grind
   unfold evX
   rw[q,if_pos (by grind),Rat.neg_neg]
  have ea:z*sk (z*z) 3 (k+1)=arA t (k+1):=by rw[arA_is,hz]
  rw[ev,ea]
  have b:=Ex.Bdd_mul (show Ex.Bdd (arA t (k+1)) (8*K) from⟨by grind,by rw[hK];exact g6⟩) g1
  obtain⟨b1,b2⟩:=b
  constructor<;>grind
 obtain⟨v1,v2⟩:=val u x hu hx (by grind)
 obtain⟨w1,w2⟩:=val v y hv (by grind) hy
 rw[<- hK,<- hR]
 have ex:(y-x)/8*R=R*v-R*u:=by
  rw[hu,hv];grind
 rw[ex]
 generalize x*sk (x*x) 3 (k+1)*evX (-(x*x/2)) (k+1)=X at *
 generalize y*sk (y*y) 3 (k+1)*evX (-(y*y/2)) (k+1)=Y at *
 have e8:8*K*d+8*K*d=d*(16*K):=by grind
 clear ex near hN
 grind
theorem arV_grows {x y r l h:Rat} {s1 s2:Nat} (hx:0<x) (hxy:x<=y) (hy:y<=8) (hr:0<r) (h1 : ∀L,s1<=L->l<=arV x (x*x) (x*x/2) r L) (h2 : ∀L,s2<=L->arV y (y*y) (y*y/2) r L<=h):l+(y-x)/8*(1/Ex.t2 102)*(1/r)<=h:=by
 refine Rat.not_lt.1 fun g => ?_
 obtain⟨R,hR⟩ : ∃R:Rat,R=1/r:=⟨_,rfl⟩
 have R0:0<R:=by
  rw[hR,Rat.div_def,Rat.one_mul]
  exact Rat.inv_pos.2 hr
 obtain⟨G,hG⟩ : ∃G:Rat,G=(y-x)/8*(1/Ex.t2 102):=⟨_,rfl⟩
 rw[<- hR,<- hG]at g
 obtain⟨e,he,hee⟩ : ∃e:Rat,0<e/\e*(R+1)=l+G*R-h:=⟨(l+G*R-h)/(R+1),by rw[Rat.div_def];exact Rat.mul_pos (by grind) (Rat.inv_pos.2 (by grind)),Rat.div_mul_cancel (by grind)⟩
 obtain⟨N,hN⟩:=area_grows hx hxy hy he
 have a:=h1 (s1+s2+N) (by omega)
 have b:=h2 (s1+s2+N) (by omega)
 have c:=Rat.mul_le_mul_of_nonneg_right (hN (s1+s2+N) (by omega)) (Rat.le_of_lt R0)
 rw[<- hG]at c
 unfold arV at a b
 rw[<- hR]at a b
 generalize x*sk (x*x) 3 (s1+s2+N)*evX (-(x*x/2)) (s1+s2+N)=X at *
 generalize y*sk (y*y) 3 (s1+s2+N)*evX (-(y*y/2)) (s1+s2+N)=Y at *
 have:e*R<l+G*R-h:=by rw[<- hee];grind
 grind
end Go.Proofs.YtenjdajophfpcaaGreat
namespace Go.Proofs.YtenjdajophfpcaaGreat
open Go.Ev
structure RtP (r1 r2:Rat):Prop where
 nn:0<=r1
 le:r1<=r2
 low:r1*r1<=2*(SQ*SQ)
 high:2*(SQ*SQ)<=r2*r2
def LoP (z l:Rat):Prop := ∃r1 r2,RtP r1 r2 /\ ∀r,r1<=r->r<=r2 -> ∃s:Nat,∀L,s<=L->l<=arV z (z*z) (z*z/2) r L
def HiP (z h:Rat):Prop := ∃r1 r2,RtP r1 r2 /\ ∀r,r1<=r->r<=r2 -> ∃s:Nat,∀L,s<=L->arV z (z*z) (z*z/2) r L<=h
theorem sq_two:2*(SQ*SQ)<=(251/100)*(251/100)/\0<2*(SQ*SQ):=by decide +kernel
section
variable {a1 a2 b1 b2 x y z l h:Rat}
theorem root_le (ha:0<=a1) (hb:0<=b2) (h1:a1*a1<=x) (h2:x<=b2*b2):a1<=b2:=by
 refine Rat.not_lt.1 fun g => ?_
 have m1:=Rat.mul_lt_mul_of_pos_left g (show 0<a1 by grind)
 have m2:=Rat.mul_le_mul_of_nonneg_left (Rat.le_of_lt g) hb
 grind
theorem rt_common (A:RtP a1 a2) (B:RtP b1 b2) : ∃r:Rat,0<r/\r<=251/100/\a1<=r/\r<=a2/\b1<=r/\r<=b2:=by
 obtain⟨u,w⟩:=sq_two
 have c0:(0:Rat)<=251/100:=by decide +kernel
 have A2:0<=a2:=Rat.le_trans A.nn A.le
 have B2:0<=b2:=Rat.le_trans B.nn B.le
 have pos : ∀t:Rat,0<=t->2*(SQ*SQ)<=t*t->0<t:=by
  intro t t0 tt
  rcases Rat.le_iff_lt_or_eq.1 t0 with g|g
  ·exact g
  ·subst g
   grind
 have pa:=pos a2 A2 A.high
 have pb:=pos b2 B2 B.high
 have pc:(0:Rat)<251/100:=by decide +kernel
 have k1:=root_le A.nn c0 A.low u
 have k2:=root_le B.nn c0 B.low u
 have k3:=root_le A.nn B2 A.low B.high
 have k4:=root_le B.nn A2 B.low A.high
 have k5:=A.le
 have k6:=B.le
 generalize (251/100:Rat)=c at *
 by_cases g1:a2<=b2
 ·by_cases g2:a2<=c
  ·exact⟨a2,pa,g2,k5,Rat.le_refl,k4,g1⟩
  ·exact⟨c,pc,Rat.le_refl,k1,by grind,k2,by grind⟩
 ·by_cases g2:b2<=c
  ·exact⟨b2,pb,g2,k3,by grind,k6,Rat.le_refl⟩
  ·exact⟨c,pc,Rat.le_refl,k1,by grind,k2,by grind⟩
theorem rt_self (A:RtP a1 a2) : ∃r:Rat,0<r/\r<=251/100/\a1<=r/\r<=a2:=by
 obtain⟨r,h0,h1,h2,h3,-⟩:=rt_common A A
 exact⟨r,h0,h1,h2,h3⟩
theorem third_le {r:Rat} (h0:0<r) (h1:r<=251/100):1/3<=1/r:=by
 refine le_by h0 ?_
 rw[Rat.div_mul_cancel (by grind)]
 have e:(251/100:Rat)*(1/3)<=1:=by decide +kernel
 have m:=Rat.mul_le_mul_of_nonneg_right h1 (show (0:Rat)<=1/3 by decide +kernel)
 generalize (1/3:Rat)=t at *
 generalize (251/100:Rat)=c at *
 grind
abbrev gG:Rat:=121694457621910022543683507716096
theorem grow_num {d r:Rat} (hd:0<=d) (h0:0<r) (h1:r<=251/100):d<=d/8*(1/Ex.t2 102)*(1/r)*gG:=by
 have e:1/8*(1/Ex.t2 102)*(1/3)*gG=1:=by decide +kernel
 have e8:d/8=d*(1/8):=by rw[Rat.div_def,Rat.div_def,Rat.one_mul]
 have t:=third_le h0 h1
 have p:0<=d*(1/8)*(1/Ex.t2 102):=Rat.mul_nonneg (Rat.mul_nonneg hd (by decide +kernel)) (by decide +kernel)
 have m:=Rat.mul_le_mul_of_nonneg_left t p
 have m2:=Rat.mul_le_mul_of_nonneg_right m (show (0:Rat)<=gG by decide +kernel)
 rw[e8]
 have e2:d*(1/8)*(1/Ex.t2 102)*(1/3)*gG=d*(1/8*(1/Ex.t2 102)*(1/3)*gG):=by
  generalize (1/8:Rat)=q8
  generalize (1/3:Rat)=q3
  generalize 1/Ex.t2 102=qt
  generalize gG=qg
  grind
 rw[e2,e,Rat.mul_one]at m2
 exact m2
theorem bell_grows (hx:0<x) (hxy:x<=y) (hy:y<=8) (A:LoP x l) (B:HiP y h):y-x<=(h-l)*gG:=by
 obtain⟨a1,a2,RA,A⟩:=A
 obtain⟨b1,b2,RB,B⟩:=B
 obtain⟨r,h0,h1,k1,k2,k3,k4⟩:=rt_common RA RB
 obtain⟨s1,A⟩:=A r k1 k2
 obtain⟨s2,B⟩:=B r k3 k4
 have g:=arV_grows hx hxy hy h0 A B
 have n:=grow_num (show 0<=y-x by grind) h0 h1
 have m:=Rat.mul_le_mul_of_nonneg_right (show (y-x)/8*(1/Ex.t2 102)*(1/r)<=h-l by grind) (show (0:Rat)<=gG by decide +kernel)
 exact Rat.le_trans n m
theorem arV_n0 {z r:Rat} {L:Nat} (h:0<z) (hr:0<=r) (hL:1<=L):0<=arV z (z*z) (z*z/2) r L:=by
 have zz:=Rat.mul_pos h h
 have q:0<z*z/2:=by have e:=Rat.div_mul_cancel (a:=z*z) (b:=2) (by decide);generalize z*z/2=w at *;grind
 have R0:0<=1/r:=by
  rw[Rat.div_def,Rat.one_mul]
  by_cases e:r=0
  ·rw[e];decide +kernel
  ·exact Rat.le_of_lt (Rat.inv_pos.2 (by grind))
 exact Rat.mul_nonneg (Rat.mul_nonneg (Rat.mul_nonneg (Rat.le_of_lt h) (sk_nn (by omega) (Rat.le_of_lt zz) L)) (ev_le1 (z := -(z*z/2)) (by grind) hL).2) R0
theorem bell_above (hy0:0<y) (hy:y<=8) (B:HiP y h):y<=h*(2*gG):=by
 obtain⟨b1,b2,RB,B⟩:=B
 obtain⟨r,h0,h1,k3,k4⟩:=rt_self RB
 obtain⟨s2,B⟩:=B r k3 k4
 have y2:y/2+y/2=y:=by
  have:=Rat.div_mul_cancel (a:=y) (b:=2) (by decide)
  grind
 generalize hx:y/2=x at *
 have x0:0<x:=by grind
 have g:=arV_grows (l:=0) (s1:=1) x0 (show x<=y by grind) hy h0 (fun L hL=>arV_n0 x0 (Rat.le_of_lt h0) hL) B
 have n:=grow_num (show 0<=y-x by grind) h0 h1
 have m:=Rat.mul_le_mul_of_nonneg_right (show (y-x)/8*(1/Ex.t2 102)*(1/r)<=h by grind) (show (0:Rat)<=gG by decide +kernel)
 have k:=Rat.le_trans n m
 generalize gG=G at *
 grind
def LoN (z l:Rat):Prop:=(z=0/\l=1/2)\/(0<z/\LoP z (l-1/2))\/(z<0/\HiP (-z) (1/2-l))
def HiN (z h:Rat):Prop:=(z=0/\h=1/2)\/(0<z/\HiP z (h-1/2))\/(z<0/\LoP (-z) (1/2-h))
theorem share_grows (hx : -8<=x) (hxy:x<=y) (hy:y<=8) (A:LoN x l) (B:HiN y h):y-x<=(h-l)*(2*gG):=by
 have G0:(0:Rat)<=gG:=by decide +kernel
 generalize hh:(1/2:Rat)=f at *
 unfold LoN at A
 unfold HiN at B
 rw[hh]at A B
 have n1 : ∀ {x y l h:Rat},0<x->x<=y->y<=8->LoP x l->HiP y h->y-x<=(h-l)*gG:=fun h1 h2 h3 A B=>bell_grows h1 h2 h3 A B
 have n2 : ∀ {y h:Rat},0<y->y<=8->HiP y h->y<=h*(2*gG):=fun h1 h2 A=>bell_above h1 h2 A
 generalize gG=G at *
 rcases A with⟨e,A⟩|⟨e,A⟩|⟨e,A⟩<;>rcases B with⟨e',B⟩|⟨e',B⟩|⟨e',B⟩
 ·grind
 ·have:=n2 e' hy B
  grind
 ·grind
 ·grind
 ·have g:=n1 e hxy hy A B
  have:0<=(h-l)*G:=by grind
  grind
 ·grind
 ·have:=n2 (show 0 < -x by grind) (by grind) A
  grind
 ·have a:=n2 (show 0 < -x by grind) (by grind) A
  have b:=n2 e' hy B
  grind
 ·have g:=n1 (show 0 < -y by grind) (show -y <= -x by grind) (by grind) B A
  have:0<=(h-l)*G:=by grind
  grind
end
end Go.Proofs.YtenjdajophfpcaaGreat
namespace Go.Proofs.YtenjdajophfpcaaGreat
open Go.Ev
def Ds (c:Rat) (w J:Nat) (x:Rat):Prop := ∃y,Dy J y/\x=c+p2 w*y
section
variable {c x y t:Rat} {w J s:Nat}
end
structure SrT (Lo Hi:Tells) (q c:Rat) (w:Nat) (lo0 hi0:Rat) (k:Nat) (lo hi:Rat):Prop where
 low:lo=lo0\/(lo0<lo /\ ∃h,Hi lo h/\h<q)
 high:hi=hi0\/(hi<hi0 /\ ∃l,Lo hi l/\q<l)
 lt:lo<hi
 dlo:Ds c w (18+w+k) lo
 dhi:Ds c w (18+w+k) hi
 w:(hi-lo)*((4^k:Nat):Rat)<=128*((3^k:Nat):Rat)
section
variable {Lo Hi:Tells} {q c lo0 hi0 lo hi lo' hi':Rat} {w k:Nat}
end
end Go.Proofs.YtenjdajophfpcaaGreat
namespace Go.Proofs.YtenjdajophfpcaaGreat
open Go.Ev
section
variable {k n m:Int} {sa sb:Bool} {na da nb db:List Nat} {Lo Hi:Tells}
end
end Go.Proofs.YtenjdajophfpcaaGreat
namespace Go.Proofs.YtenjdajophfpcaaGreat
open Go.Ev
section
variable {k n m:Int} {sa sb:Bool} {na da nb db:List Nat} {Lo Hi:Tells}
end
end Go.Proofs.YtenjdajophfpcaaGreat
namespace Go.Proofs.YtenjdajophfpcaaGreat
open Go.Ev
section
variable {k n m:Int} {sa sb:Bool} {na da nb db:List Nat} {a b:Rat} {M:Nat}
theorem cdf_held {v:SV} {x l h:Rat} {L P Q:Nat} (hA:RatA (ratV sa na da) a M) (hB:RatA (ratV sb nb db) b M) (hM:1<=M) (hM2:M<=1000) (hc:chkD k n m a b=0) (hx:RatA v x L) (hP:P<=1000000) (hQ:Q=if P<=200 then P else 200)
  (f:Go.Ev.Fn CX 138 [distV k n m sa na da sb nb db,v,.int .i64 (Q:Int)] (.tup [ballR l h,.bool true])) :
  Go.Ev.Fn CX 85 [distV k n m sa na da sb nb db,v,.int .i64 (P:Int)] (.tup [ballR l h,.int .i64 0]):=by
 have c:=dist_Check (k:=k) (n:=n) (m:=m) hA hB hM (by omega)
 rw[hc]at c
 have x1:(if (0:Int)>(P:Int) then (0:Int) else (P:Int))=(P:Int):=if_neg (by omega)
 have x2:(if (200:Int)<(P:Int) then (200:Int) else (P:Int))=(Q:Int):=by
  subst hQ
  by_cases g:P<=200
  ·rw[if_neg (by omega),if_pos g]
  ·rw[if_pos (by omega),if_neg g];rfl
 clear hA hB
 obtain⟨s,nn,dd,rfl,-⟩:=hx
 refine fni Tryz.f85 ?_;unfold Tryz.f85;simp only[Option.get!_some]
 repeat (first|simp only[go_sem,x1,x2,Bool.not_true]|simp (disch:=first|exact omg|fail) only[AX,x1,x2,Bool.not_true]|refine wki ?_|refine vf_of (by first|exact c|exact f) ?_)
end
end Go.Proofs.YtenjdajophfpcaaGreat
namespace Go.Proofs.YtenjdajophfpcaaGreat
open Go.Ev
def wideD (k:Int) (a b:Rat):Bool:=if k=1 then decide (1048576<b) else if k=2\/k=3 then decide (a<mkRat 1 (2^20)) else false
theorem bit20_sz:szR (mkRat 1 (2^20)) 1:=⟨lim_len_lt (by decide +kernel),lim_len_lt (by decide +kernel)⟩
section
variable {k n m:Int} {sa sb:Bool} {na da nb db:List Nat} {a b:Rat} {x l h:Rat} {v:SV} {L:Nat} {p:Int}
theorem quant_isWide (hA:RatA (ratV sa na da) a 2) (hB:RatA (ratV sb nb db) b 2):Go.Ev.Fn CX 32 [distV k n m sa na da sb nb db] (.bool (wideD k a b)):=by
 have i:=rat_Int 1048576 (by omega)
 have c:=rat_Cmp hB (RatA_rv (int_szR (n:=1048576) (by omega))) (by omega) (by omega) (by omega)
 have e:decide (cmpR b ((1048576:Int):Rat)>0)=decide (1048576<b):=cmpR_gt
 have bt:=q_bit 20 (by omega)
 have c2:=rat_Cmp hA (RatA_rv bit20_sz) (by omega) (by omega) (by omega)
 have e2:decide (cmpR a (mkRat 1 (2^20))<0)=decide (a<mkRat 1 (2^20)):=cmpR_lt
 generalize cmpR b ((1048576:Int):Rat)=y1 at *
 generalize hy:mkRat 1 (2^20)=y2 at *
 generalize cmpR a y2=y3 at *
 unfold wideD
 rw[hy]
 clear hA hB hy
 by_cases k1:k=1
 ·subst k1
  rw[if_pos rfl]
  refine fni Tryz.f32 ?_;unfold Tryz.f32;simp only[Option.get!_some]
  repeat (first|simp only[go_sem,e]|simp (disch:=first|exact omg|fail) only[AX,e]|refine wki ?_|refine vpd 3 [] ?_|refine vpd 6 [] ?_|refine vf_of (by first|exact i|exact c) ?_)
 by_cases k2:k=2
 ·subst k2
  rw[if_neg (by omega),if_pos (by omega)]
  refine fni Tryz.f32 ?_;unfold Tryz.f32;simp only[Option.get!_some]
  repeat (first|simp only[go_sem,e2]|simp (disch:=first|exact omg|fail) only[AX,e2]|refine wki ?_|refine vpd 3 [] ?_|refine vpd 6 [] ?_|refine vf_of (by first|exact bt|exact c2) ?_)
 by_cases k3:k=3
 ·subst k3
  rw[if_neg (by omega),if_pos (by omega)]
  refine fni Tryz.f32 ?_;unfold Tryz.f32;simp only[Option.get!_some]
  repeat (first|simp only[go_sem,e2]|simp (disch:=first|exact omg|fail) only[AX,e2]|refine wki ?_|refine vpd 3 [] ?_|refine vpd 6 [] ?_|refine vf_of (by first|exact bt|exact c2) ?_)
 rw[if_neg k1,if_neg (by omega)]
 refine fni Tryz.f32 ?_;unfold Tryz.f32;simp only[Option.get!_some]
 repeat (first|simp only[go_sem]|simp (disch:=first|exact omg|fail) only[AX]|refine wki ?_|refine vpd 3 [] ?_|refine vpd 6 [] ?_)
theorem st_normal (hA:RatA (ratV sa na da) a 2) (hB:RatA (ratV sb nb db) b 2):Go.Ev.Fn CX 33 [distV 1 n m sa na da sb nb db] (.tup [rv (a-8*b),rv (a+8*b)]):=by
 have i:=rat_Int 8 (by omega)
 have z8:=int_szR (n:=8) (by omega)
 have zm:=szR_mul z8 (szR_of hB (by omega)) (by omega)
 have mu:=rat_Mul (RatA_rv z8) hB (by omega) (by omega) (by omega)
 have sb':=rat_Sub hA (RatA_rv zm) (by omega) (by omega) (by omega)
 have ad:=rat_Add hA (RatA_rv zm) (by omega) (by omega) (by omega)
 rw[show ((8:Int):Rat)=8 from rfl]at i mu sb' ad
 generalize (8:Rat)*b=y at *
 clear hA hB z8 zm
 generalize a-y=u at *
 generalize a+y=w at *
 refine fni Tryz.f33 ?_;unfold Tryz.f33;simp only[Option.get!_some]
 repeat (first|simp only[go_sem]|simp (disch:=first|exact omg|fail) only[AX]|refine wki ?_|refine vpd 3 [] ?_|refine vpd 4 [] ?_|refine vpd 7 [] ?_|refine vf_of (by first|exact i|exact mu|exact sb'|exact ad) ?_)
theorem st_rate (hk:k=2\/k=3) (hA:RatA (ratV sa na da) a 2):Go.Ev.Fn CX 33 [distV k n m sa na da sb nb db] (.tup [rv 0,rv (64/a)]):=by
 have i0:=rat_Int 0 (by omega)
 have i:=rat_Int 64 (by omega)
 have ov:=q_over (RatA_rv (int_szR (n:=64) (by omega))) hA (by omega) (by omega) (by omega)
 rw[show ((64:Int):Rat)=64 from rfl]at i ov
 rw[show ((0:Int):Rat)=0 from rfl]at i0
 generalize (64:Rat)/a=w at *
 clear hA
 rcases hk with rfl|rfl
 ·refine fni Tryz.f33 ?_;unfold Tryz.f33;simp only[Option.get!_some]
  repeat (first|simp only[go_sem]|simp (disch:=first|exact omg|fail) only[AX]|refine wki ?_|refine vpd 3 [] ?_|refine vpd 4 [] ?_|refine vpd 7 [] ?_|refine vf_of (by first|exact i0|exact i|exact ov) ?_)
 ·refine fni Tryz.f33 ?_;unfold Tryz.f33;simp only[Option.get!_some]
  repeat (first|simp only[go_sem]|simp (disch:=first|exact omg|fail) only[AX]|refine wki ?_|refine vpd 3 [] ?_|refine vpd 4 [] ?_|refine vpd 7 [] ?_|refine vf_of (by first|exact i0|exact i|exact ov) ?_)
theorem st_fixed {lo hi:Int} (hk:(k=4/\lo=0/\hi=128)\/(k=5/\lo = -64/\hi=64)\/(k=6/\lo=0/\hi=64)\/(k=7/\lo=0/\hi=1)):Go.Ev.Fn CX 33 [distV k n m sa na da sb nb db] (.tup [rv (lo:Rat),rv (hi:Rat)]):=by
 have i:=rat_Int lo (by omega)
 have j:=rat_Int hi (by omega)
 generalize (lo:Rat)=u at *
 generalize (hi:Rat)=w at *
 rcases hk with⟨rfl,rfl,rfl⟩|⟨rfl,rfl,rfl⟩|⟨rfl,rfl,rfl⟩|⟨rfl,rfl,rfl⟩
 ·refine fni Tryz.f33 ?_;unfold Tryz.f33;simp only[Option.get!_some]
  repeat (first|simp only[go_sem]|simp (disch:=first|exact omg|fail) only[AX]|refine wki ?_|refine vpd 3 [] ?_|refine vpd 4 [] ?_|refine vpd 7 [] ?_|refine vf_of (by first|exact i|exact j) ?_)
 ·refine fni Tryz.f33 ?_;unfold Tryz.f33;simp only[Option.get!_some]
  repeat (first|simp only[go_sem]|simp (disch:=first|exact omg|fail) only[AX]|refine wki ?_|refine vpd 3 [] ?_|refine vpd 4 [] ?_|refine vpd 7 [] ?_|refine vf_of (by first|exact i|exact j) ?_)
 ·refine fni Tryz.f33 ?_;unfold Tryz.f33;simp only[Option.get!_some]
  repeat (first|simp only[go_sem]|simp (disch:=first|exact omg|fail) only[AX]|refine wki ?_|refine vpd 3 [] ?_|refine vpd 4 [] ?_|refine vpd 7 [] ?_|refine vf_of (by first|exact i|exact j) ?_)
 ·refine fni Tryz.f33 ?_;unfold Tryz.f33;simp only[Option.get!_some]
  repeat (first|simp only[go_sem]|simp (disch:=first|exact omg|fail) only[AX]|refine wki ?_|refine vpd 3 [] ?_|refine vpd 4 [] ?_|refine vpd 7 [] ?_|refine vf_of (by first|exact i|exact j) ?_)
theorem chance_zero (hk:k=2\/k=3\/k=4\/k=6\/k=7):Go.Ev.Fn CX 138 [distV k n m sa na da sb nb db,rv 0,.int .i64 p] (.tup [ballR 0 0,.bool true]):=by
 have hx:RatA (rv 0) 0 1:=RatA_rv (szR_zero (by omega))
 have bl:=dist_below hx (by omega) (by omega) 0 (by omega)
 have ab:=dist_above hx (by omega) (by omega) 0 (by omega)
 have i0:=rat_Int 0 (by omega)
 have o:=ball_Of hx (by omega)
 rw[show ((0:Int):Rat)=0 from rfl]at bl ab i0
 rw[decide_eq_false (by decide)]at bl ab
 have k1 : ¬k=1:=by omega
 have k5 : ¬k=5:=by omega
 have k8 : ¬k=8:=by omega
 have k9 : ¬k=9:=by omega
 clear hk
 refine fni Tryz.f138 ?_;unfold Tryz.f138;simp only[Option.get!_some]
 repeat (first|simp only[go_sem,Bool.not_false]|simp (disch:=first|exact omg|fail) only[AX,Bool.not_false]|refine wki ?_|refine vpd 3 [] ?_|refine vpd 11 [] ?_|refine vpd 13 [] ?_|refine vpd 15 [] ?_|refine vpd 17 [] ?_|refine vpd 18 [] ?_|refine vpd 24 [] ?_|refine vpd 26 [] ?_|refine vf_of (by first|exact bl|exact ab|exact i0|exact o) ?_)
theorem fam_mk {Lo Hi:Tells} {c lo0 hi0:Rat} {W:Nat} (hA:RatA (ratV sa na da) a 2) (hB:RatA (ratV sb nb db) b 2) (hc:chkD k n m a b=0) (hk:k≠8/\k≠9) (hw:wideD k a b=false)
  (st:Go.Ev.Fn CX 33 [distV k n m sa na da sb nb db] (.tup [rv lo0,rv hi0])) (W0:0<W) (hW:W<18446744073709551616) (zc:szR c 10) (hl:c<=lo0) (hh:hi0<=c+134217728) (lt:lo0<hi0) (dl:Dz c W 22 lo0) (dh:Dz c W 22 hi0)
  (ch : ∀x,(∃J,J<=140/\Dz c W J x)->szR x 20->lo0<=x->x<=hi0 -> ∀Q:Nat,(Q=32\/Q=64\/Q=128\/Q=200) -> ∃l h:Rat,Go.Ev.Fn CX 138 [distV k n m sa na da sb nb db,rv x,.int .i64 (Q:Int)] (.tup [ballR l h,.bool true])/\szR l 500/\szR h 500/\(h-l)*p2 Q<=1/\Lo x l/\Hi x h) :
  Fam (p2 200) (distV k n m sa na da sb nb db) Lo Hi c W lo0 hi0:=by
 have ck:=dist_Check (k:=k) (n:=n) (m:=m) hA hB (by omega) (by omega)
 rw[hc]at ck
 have ct:=dist_Counts (k:=k) (n:=n) (m:=m) hA hB (by omega) (by omega)
 rw[show cntD k n m a b=false by unfold cntD;rw[show (k==8)=false from beq_eq_false_iff_ne.2 hk.1,show (k==9)=false from beq_eq_false_iff_ne.2 hk.2];rfl]at ct
 have iw:=quant_isWide (k:=k) (n:=n) (m:=m) hA hB
 rw[hw]at iw
 refine⟨ck,ct,iw,st,W0,hW,zc,hl,hh,lt,dl,dh,?_⟩
 rintro x ⟨J,hJ,hx⟩ x0 x1 P hP
 have zx:szR x 20:=srg_sz (q:=0) hx hJ W0 hW zc hl hh x0 x1
 obtain⟨l,h,f,z1,z2,w,A,B⟩:=ch x ⟨J,hJ,hx⟩ zx x0 x1 (if P<=200 then P else 200) (by rcases hP with rfl|rfl|rfl|rfl<;>simp)
 refine⟨l,h,cdf_held hA hB (by omega) (by omega) hc (RatA_rv zx) (by omega) rfl f,z1,z2,fun e => ?_,A,B⟩
 subst e
 exact w
end
end Go.Proofs.YtenjdajophfpcaaGreat
namespace Go.Proofs.YtenjdajophfpcaaGreat
open Go.Ev
section
variable {n m:Nat} {kn km:Int} {sa sb:Bool} {na da nb db:List Nat} {a b:Rat} {x l h:Rat} {v:SV} {L:Nat} {p:Int}
theorem chance_mid (hx:RatA v x L) (hL1:1<=L) (hL:L<=80) (hx0:0<x) (hx1:x<1) (f:Go.Ev.Fn CX 54 [.int .i64 kn,.int .i64 km,v,.int .i64 p] (.tup [ballR l h,.bool true])) :
  Go.Ev.Fn CX 138 [distV 7 kn km sa na da sb nb db,v,.int .i64 p] (.tup [ballR l h,.bool true]):=by
 have bl:=dist_below hx hL1 (by omega) 0 (by omega)
 have ab:=dist_above hx hL1 (by omega) 0 (by omega)
 have bl1:=dist_below hx hL1 (by omega) 1 (by omega)
 rw[show ((0:Int):Rat)=0 from rfl]at bl ab
 rw[show ((1:Int):Rat)=1 from rfl]at bl1
 rw[decide_eq_false (by grind)]at bl
 rw[decide_eq_true hx0]at ab
 rw[decide_eq_true hx1]at bl1
 clear hx0 hx1
 obtain⟨s,nn,dd,rfl,-⟩:=hx
 refine fni Tryz.f138 ?_;unfold Tryz.f138;simp only[Option.get!_some]
 repeat (first|simp only[go_sem,Bool.not_true]|simp (disch:=first|exact omg|fail) only[AX,Bool.not_true]|refine wki ?_|refine vpd 3 [] ?_|refine vpd 11 [] ?_|refine vpd 13 [] ?_|refine vpd 15 [] ?_|refine vpd 17 [] ?_|refine vpd 18 [] ?_|refine vpd 24 [] ?_|refine vpd 26 [] ?_|refine vf_of (by first|exact bl|exact ab|exact bl1|exact f) ?_)
theorem chance_end:Go.Ev.Fn CX 138 [distV 7 kn km sa na da sb nb db,rv 1,.int .i64 p] (.tup [ballR 1 1,.bool true]):=by
 have hx:RatA (rv 1) 1 1:=RatA_rv one_q
 have bl:=dist_below hx (by omega) (by omega) 0 (by omega)
 have ab:=dist_above hx (by omega) (by omega) 0 (by omega)
 have bl1:=dist_below hx (by omega) (by omega) 1 (by omega)
 have o:=dist_one1
 rw[show ((0:Int):Rat)=0 from rfl]at bl ab
 rw[show ((1:Int):Rat)=1 from rfl]at bl1
 rw[decide_eq_false (by decide)]at bl bl1
 rw[decide_eq_true (by decide)]at ab
 refine fni Tryz.f138 ?_;unfold Tryz.f138;simp only[Option.get!_some]
 repeat (first|simp only[go_sem,Bool.not_true,Bool.not_false]|simp (disch:=first|exact omg|fail) only[AX,Bool.not_true,Bool.not_false]|refine wki ?_|refine vpd 3 [] ?_|refine vpd 11 [] ?_|refine vpd 13 [] ?_|refine vpd 15 [] ?_|refine vpd 17 [] ?_|refine vpd 18 [] ?_|refine vpd 24 [] ?_|refine vpd 26 [] ?_|refine vf_of (by first|exact bl|exact ab|exact bl1|exact o) ?_)
theorem incb_D {y:Rat} {Q:Nat} (zy:szR y 50) (hn:1<=n/\n<=16) (hm:1<=m/\m<=16) (hQ:Q<=200) (y0:0<y) (y1:y<1) :
  ∃l h:Rat,Go.Ev.Fn CX 54 [.int .i64 (n:Int),.int .i64 (m:Int),rv y,.int .i64 (Q:Int)] (.tup [ballR l h,.bool true])/\szR l 200/\szR h 200/\l<=h/\(h-l)*p2 Q<=1/\(LoS n m y l/\Dya l)/\HiS n m y h/\Dya h:=by
 obtain⟨l,h,f,z1,z2,le,w,g⟩:=incb_ballX (RatA_rv zy) (by omega) (by omega) hn.1 (by omega) hm.1 (by omega) hQ y0 y1
 obtain⟨A,B⟩:=ball_LoHi g
 obtain⟨C,D⟩:=ball_dya hQ g
 exact⟨l,h,f,z1,z2,le,w,⟨A,C⟩,B,D⟩
theorem none_wide {q:Rat} {Q:Nat}:(q-q)*p2 Q<=1:=by
 rw[Rat.sub_self,Rat.zero_mul]
 decide
theorem fam_beta (hA:RatA (ratV sa na da) a 2) (hB:RatA (ratV sb nb db) b 2) (hc:chkD 7 (n:Int) (m:Int) a b=0) (hn:1<=n/\n<=16) (hm:1<=m/\m<=16) :
  Fam (p2 200) (distV 7 (n:Int) (m:Int) sa na da sb nb db) (LoB n m) (HiB n m) 0 1 0 1:=by
 refine fam_mk hA hB hc ⟨by omega,by omega⟩ rfl (st_fixed (lo:=0) (hi:=1) (by omega)) (by omega) (by omega) (szR_zero (by omega)) Rat.le_refl (by decide +kernel) (by decide +kernel) ⟨0,by decide +kernel⟩ ⟨4194304,by decide +kernel⟩ ?_
 rintro x-zx x0 x1 Q hQ
 by_cases e:x=0
 ·subst e
  exact⟨0,0,chance_zero (by omega),szR_zero (by omega),szR_zero (by omega),none_wide,.inl ⟨Rat.le_refl,rfl⟩,.inl ⟨Rat.le_refl,rfl⟩⟩
 by_cases e1:x=1
 ·subst e1
  exact⟨1,1,chance_end,szR_mono one_q (by omega),szR_mono one_q (by omega),none_wide,.inr (.inr Rat.le_refl),.inr (.inr ⟨Rat.le_refl,rfl⟩)⟩
 have y0:0<x:=by grind
 have y1:x<1:=by grind
 obtain⟨l,h,f,z1,z2,le,w,A,B⟩:=incb_D (Q:=Q) (szR_mono zx (by omega)) hn hm (by omega) y0 y1
 exact⟨l,h,chance_mid (RatA_rv zx) (by omega) (by omega) y0 y1 f,szR_mono z1 (by omega),szR_mono z2 (by omega),w,.inr (.inl ⟨y0,y1,A⟩),.inr (.inl ⟨y0,y1,B⟩)⟩
theorem fam_fisher (hA:RatA (ratV sa na da) a 2) (hB:RatA (ratV sb nb db) b 2) (hc:chkD 6 (n:Int) (m:Int) a b=0) (hn:1<=n/\n<=16) (hm:1<=m/\m<=16) :
  Fam (p2 200) (distV 6 (n:Int) (m:Int) sa na da sb nb db) (LoF n m) (HiF n m) 0 1 0 64:=by
 refine fam_mk hA hB hc ⟨by omega,by omega⟩ rfl (st_fixed (lo:=0) (hi:=64) (by omega)) (by omega) (by omega) (szR_zero (by omega)) Rat.le_refl (by decide +kernel) (by decide +kernel) ⟨0,by decide +kernel⟩ ⟨268435456,by decide +kernel⟩ ?_
 rintro x-zx x0 x1 Q hQ
 by_cases e:x=0
 ·subst e
  exact⟨0,0,chance_zero (by omega),szR_zero (by omega),szR_zero (by omega),none_wide,.inl ⟨Rat.le_refl,rfl⟩,.inl ⟨Rat.le_refl,rfl⟩⟩
 have y0:0<x:=by grind
 obtain⟨u0,u1,-⟩:=fis_y hn.1 hm.1 y0
 obtain⟨l,h,f,z1,z2,le,w,A,B⟩:=incb_D (Q:=Q) (szR_mono (fisY_sz (n:=(n:Int)) (m:=(m:Int)) (by omega) (by omega) zx (by omega)) (by omega)) hn hm (by omega) u0 u1
 exact⟨l,h,chance_fisher (by omega) (by omega) (RatA_rv zx) (by omega) (by omega) y0 f,szR_mono z1 (by omega),szR_mono z2 (by omega),w,.inr ⟨y0,A⟩,.inr ⟨y0,B⟩⟩
theorem fam_student (hA:RatA (ratV sa na da) a 2) (hB:RatA (ratV sb nb db) b 2) (hc:chkD 5 (n:Int) km a b=0) (hn:1<=n/\n<=16) :
  Fam (p2 200) (distV 5 (n:Int) km sa na da sb nb db) (LoV n) (HiV n) (-64) 1 (-64) 64:=by
 refine fam_mk hA hB hc ⟨by omega,by omega⟩ rfl (st_fixed (lo := -64) (hi:=64) (by omega)) (by omega) (by omega) ⟨lim_len_lt (by decide +kernel),lim_len_lt (by decide +kernel)⟩ Rat.le_refl (by decide +kernel) (by decide +kernel) ⟨0,by decide +kernel⟩ ⟨536870912,by decide +kernel⟩ ?_
 rintro x-zx x0 x1 Q hQ
 have hf2:(1/2:Rat)+1/2=1:=by decide +kernel
 by_cases e:x=0
 ·subst e
  have y1:stuY (n:Int) 0=1:=by
   unfold stuY
   rw[Rat.intCast_natCast,show (n:Rat)+0*0=(n:Rat) by grind]
   have N1:(1:Rat)<=(n:Rat):=by exact_mod_cast hn.1
   generalize (n:Rat)=N at *
   have:=Rat.div_mul_cancel (a:=N) (b:=N) (by grind)
   generalize N/N=q at *
   have e:(q-1)*N=0:=by grind
   rcases Rat.mul_eq_zero.1 e with g|g<;>grind
  have f:=incb_I_ends (a:=(n:Int)) (b:=1) (pI:=(Q:Int)) (RatA_rv one_len) (by omega) (by omega) (by omega) (by omega) (.inr rfl)
  rw[<- y1]at f
  have s:=dist_student (n:=(n:Int)) (p:=(Q:Int)) (by omega) (RatA_rv zx) (by omega) (by omega) (by rw[y1]at f ⊢;exact f) (szR_mono one_len (by omega)) (szR_mono one_len (by omega)) Rat.le_refl
  have eq:stuB 0 1 1=(1/2,1/2):=by
   unfold stuB
   rw[if_neg (by decide),Rat.one_mul]
   generalize (1/2:Rat)=c at *
   rw[show 1-c=c by grind]
  rw[eq]at s
  exact⟨1/2,1/2,chance_student (RatA_rv zx) s ⟨_,_,rfl⟩,szR_mono hfQ_len (by omega),szR_mono hfQ_len (by omega),none_wide,.inl ⟨rfl,rfl⟩,.inl ⟨rfl,rfl⟩⟩
 ·obtain⟨y0,y1,-⟩:=stu_y hn.1 e
  obtain⟨l,h,f,z1,z2,le,w,⟨A,dl⟩,B,dh⟩:=incb_D (m:=1) (Q:=Q) (szR_mono (stuY_sz (n:=(n:Int)) (by omega) zx (by omega)) (by omega)) hn (by omega) (by omega) y0 y1
  have s:=dist_student (n:=(n:Int)) (p:=(Q:Int)) (by omega) (RatA_rv zx) (by omega) (by omega) f z1 z2 le
  have c:=chance_student (m:=km) (sa:=sa) (na:=na) (da:=da) (sb:=sb) (nb:=nb) (db:=db) (RatA_rv zx) s ⟨_,_,rfl⟩
  have zl:=szR_mul z1 hfQ_len (by omega)
  have zh:=szR_mul z2 hfQ_len (by omega)
  have c0:(0:Rat)<=1/2:=by decide +kernel
  have W:=p2_pos Q
  have w2:(h*(1/2)-l*(1/2))*p2 Q<=1:=by
   have w0:0<=(h-l)*p2 Q:=Rat.mul_nonneg (by grind) (Rat.le_of_lt W)
   generalize (1/2:Rat)=t at *
   have:(h*t-l*t)*p2 Q=(h-l)*p2 Q*t:=by grind
   rw[this]
   generalize (h-l)*p2 Q=u at *
   have:=Rat.mul_le_mul_of_nonneg_right w c0
   grind
  unfold stuB at c
  by_cases g:x<0
  ·rw[if_pos g]at c
   exact⟨_,_,c,szR_mono zl (by omega),szR_mono zh (by omega),w2,.inr (.inl ⟨g,l,A,dl,rfl⟩),.inr (.inl ⟨g,h,B,dh,rfl⟩)⟩
  ·rw[if_neg g]at c
   refine⟨_,_,c,szR_mono (szR_sub one_len zh (by omega)) (by omega),szR_mono (szR_sub one_len zl (by omega)) (by omega),?_,.inr (.inr ⟨by grind,h,B,dh,rfl⟩),.inr (.inr ⟨by grind,l,A,dl,rfl⟩)⟩
   generalize l*(1/2)=u at *
   generalize h*(1/2)=v at *
   rw[show 1-u-(1-v)=v-u by grind]
   exact w2
end
end Go.Proofs.YtenjdajophfpcaaGreat
