/- Part 7 of the proof: the evaluator, contracts of functions and their plain laws (joined by program). No condition. -/
import Derived.Test.YtfknkoeagjonbaaGreatPart6
set_option linter.unusedVariables false
set_option linter.unusedSimpArgs false
set_option maxRecDepth 100000
namespace Go.Proofs.YtfknkoeagjonbaaGreat
open Go.Ev
abbrev ivN (a b:Nat):SV := .agg [.bool false,natV (lim a),.bool false,natV (lim b)]
abbrev intN (a:Nat):SV := .agg [.bool false,natV (lim a)]
theorem intN_eq (n:Nat):intV (n:Int)=intN n:=iv_eq (xK n) (decide_eq_false (by omega))
theorem ivN_eq (m n:Nat):ivV (m:Int) (n:Int)=ivN m n:=by
 show SV.agg [.bool (decide ((m:Int)<0)),natV (lim (m:Int).natAbs),.bool (decide ((n:Int)<0)),natV (lim (n:Int).natAbs)]=_;rw[xK,xK,decide_eq_false (by omega),decide_eq_false (by omega)]
theorem cdv_le {a b c:Nat} (hb:0<b) (h:a<=c*b):cdv a b<=c:=by
 unfold cdv;rw[yR hb];omega
theorem div_le_cdv {a b d:Nat} (hd:0<d) (h:a<=b):a/d<=cdv b d:=by
 unfold cdv;exact xg (by omega)
theorem cdZ_nat {n d:Nat} (hd:0<d):cdZ (n:Int) d=(cdv n d:Int):=by
 unfold cdZ cdv;rw[fall_eq (a := -(n:Int)),yb,xK];have hm:=ym n d;have hl:=yG n hd;by_cases h0:n%d=0
 ·rw[if_neg (fun h=>h.2 h0)];have e:(n+d-1)/d=n/d:=by
   rw[show n+d-1=(d-1)+d*(n/d) by omega,wu _ _ hd,yo (by omega),yf]
  rw[e];by_cases hn:n=0
  ·subst hn;simp[sgn]
  ·rw[decide_eq_true (by omega)];show -(-((n/d:Nat):Int))=_;omega
 ·have hn:n≠0:=by rintro rfl;simp at h0
  rw[if_pos ⟨by omega,h0⟩];have e:(n+d-1)/d=n/d+1:=by
   rw[show n+d-1=(n%d-1)+d*(n/d+1) by rw[xZ];omega,wu _ _ hd,yo (by omega),yf]
  rw[e];omega
theorem loQ_nat {a b c d:Nat} (h1:a<=b) (h2:c<=d):loQ a b c d=((a*c:Nat):Int):=by
 have e1:a*c<=a*d:=xF _ h2;have e2:a*c<=b*c:=xB _ h1;have e3:a*c<=b*d:=xJ h1 h2;unfold loQ loP mnZ;rw[<- xw,<- xw,<- xw,<- xw];rw[if_neg (show ¬((a*d:Nat):Int)<((a*c:Nat):Int) by omega),if_neg (show ¬((b*c:Nat):Int)<((a*c:Nat):Int) by omega),if_neg (by omega)];rfl
theorem hiQ_nat {a b c d:Nat} (h1:a<=b) (h2:c<=d):hiQ a b c d=((b*d:Nat):Int):=by
 have e1:a*c<=a*d:=xF _ h2;have e2:a*c<=b*c:=xB _ h1;have e3:b*c<=b*d:=xF _ h2;have e4:a*d<=b*d:=xB _ h1;unfold hiQ hiP mxZ;rw[<- xw,<- xw,<- xw,<- xw];repeat' split
 all_goals omega
theorem ref4_ProdN {a b c d w:Nat} (h1:a<=b) (h2:c<=d) (hb:(lim b).length<=10000:=by omega) (hd:(lim d).length<=10000:=by omega) (hw:w<=4096:=by omega) (h0:0<w:=by omega) :
  Go.Ev.Fn CX 190 [ivN a b,ivN c d,.int .i64 (w:Int)] (ivN (a*c/2^w) (cdv (b*d) (2^w))):=by
 have la:=lim_len_mono h1;have lc:=lim_len_mono h2;have h:=ref4_Prod (a:=(a:Int)) (b:=(b:Int)) (c:=(c:Int)) (d:=(d:Int)) (w:=w) (by rw[xK];omega) (by rw[xK];omega) (by rw[xK];omega) (by rw[xK];omega) hw h0;rw[loQ_nat h1 h2,hiQ_nat h1 h2,cdZ_nat (xM (by omega)),<- wc,ivN_eq,ivN_eq,ivN_eq]at h;exact h
theorem ref4_ByN {a b n:Nat} (ha:(lim a).length<=100000:=by omega) (hb:(lim b).length<=100000:=by omega) (h0:0<n:=by omega) (hn:n<9223372036854775808:=by omega):Go.Ev.Fn CX 259 [ivN a b,.int .i64 (n:Int)] (ivN (a/n) (cdv b n)):=by
 have h:=ref4_By (a:=(a:Int)) (b:=(b:Int)) (by rw[xK];omega) (by rw[xK];omega) n h0 hn;rw[cdZ_nat h0,<- wc,ivN_eq,ivN_eq]at h;exact h
theorem ref4_MinusN {x y:Int} {c d:Nat} (hx:(lim x.natAbs).length<=100000:=by omega) (hy:(lim y.natAbs).length<=100000:=by omega) (hc:(lim c).length<=100000:=by omega) (hd:(lim d).length<=100000:=by omega):Go.Ev.Fn CX 122 [ivV x y,ivN c d] (ivV (x-d) (y-c)):=by
 have h:=ref4_Minus (c:=(c:Int)) (d:=(d:Int)) hx hy (by rw[xK];omega) (by rw[xK];omega);rw[ivN_eq]at h;exact h
theorem ref4_SumN {x y:Int} {c d:Nat} (hx:(lim x.natAbs).length<=100000:=by omega) (hy:(lim y.natAbs).length<=100000:=by omega) (hc:(lim c).length<=100000:=by omega) (hd:(lim d).length<=100000:=by omega):Go.Ev.Fn CX 143 [ivV x y,ivN c d] (ivV (x+c) (y+d)):=by
 have h:=ref4_Sum (c:=(c:Int)) (d:=(d:Int)) hx hy (by rw[xK];omega) (by rw[xK];omega);rw[ivN_eq]at h;exact h
theorem ref4_MostN {a b:Nat} (h1:a<=b) (hb:(lim b).length<=100000:=by omega):Go.Ev.Fn CX 260 [ivN a b] (intN b):=by
 have la:=lim_len_mono h1;have h:=ref4_Most (a:=(a:Int)) (b:=(b:Int)) (by rw[xK];omega) (by rw[xK];omega);rw[xK,xK,Nat.max_eq_right h1,ivN_eq,intN_eq]at h;exact h
theorem ref4_CmpN {a b:Nat} (ha:(lim a).length<=100000:=by omega) (hb:(lim b).length<=100000:=by omega):Go.Ev.Fn CX 252 [intN a,intN b] (.int .i64 (cmpZ a b)):=by
 have h:=ref4_Cmp (a:Int) (b:Int) (by rw[xK];omega) (by rw[xK];omega);rw[intN_eq,intN_eq]at h;exact h
section
variable {w s1 s2:Nat}
set_option maxHeartbeats 1000000 in
theorem ref8_small {v:SV} {q:Rat} {d A B:Nat} (hv:RatA v q 2) (hq:q.num=1) (hd:q.den=d) (hdd:0<d) (hw:w<=900) (hw0:0<w) (hs:smF d w=some (A,B)) :
  Go.Ev.Fn CX 256 [v,.int .i64 (w:Int)] (ivN A B):=by
 have nm:=ref4_Num hv (w:=w) (by omega) (by omega) (by omega);rw[hq,hd,Int.one_mul,cdZ_nat hdd,<- wc,ivN_eq]at nm;unfold smF at hs;rw[pin_eq,pin_eq,pin_eq,pin_eq]at hs;have hP:0<2^w:=xM (by omega);have y2T:cdv (2^w) d<=2^w:=cdv_le hdd (yg _ hdd);have y12:2^w/d<=cdv (2^w) d:=by
  unfold cdv;exact xg (by omega)
 generalize 2^w/d=y1 at *
 generalize cdv (2^w) d=y2 at *
 have ly2:=lim_len_p2 y2T;have ps:=ref4_ProdN (a:=y1) (b:=y2) (c:=y1) (d:=y2) (w:=w) y12 y12 (by omega) (by omega) (by omega) hw0;have s2T:cdv (y2*y2) (2^w)<=2^w:=cdv_le hP (xJ y2T y2T);have s12:y1*y1/2^w<=cdv (y2*y2) (2^w):=by
  unfold cdv;refine xg ?_;have:=xJ y12 y12;omega
 generalize y1*y1/2^w=s1 at *
 generalize cdv (y2*y2) (2^w)=s2 at *
 have ls2:=lim_len_p2 s2T;split at hs
 ·rename_i A1 A2 B1 B2 hgo;by_cases hfin:B2+4<=A1/\B1<=A2
  ·rw[if_pos hfin]at hs;obtain⟨rfl,rfl⟩:A1-B2-4=A/\A2-B1+4=B:=by simpa using hs
   clear hs;have w2:=ref4_Whole 2;rw[show (2:Int)=((2:Nat):Int) from rfl,intN_eq]at w2;have l2:(lim 2).length<=1:=lim_len_one (by decide);obtain⟨s0,n0,d0,rfl,-⟩:=hv;refine fni Tryz.f256 ?_;unfold Tryz.f256;repeat (first|simp only[go_sem]|simp (disch:=first|exact omg|fail) only[AX]|refine wki ?_|refine vpd 3 [] ?_|refine vfa ?_)
   refine vp_loop_inv (fun s=>s.tmp 1 = .sv (.int .i64 (w:Int))/\s.tmp 4 = .ptr 4 0 0/\s.obj 4 0=some [.bool false,.sl 0 [],.bool false,.sl 0 []]/\s.tmp 6 = .ptr 6 0 0/\s.obj 6 0=some [.bool false,natV (lim s1),.bool false,natV (lim s2)]/\s.tmp 7 = .ptr 7 0 0/\s.tmp 8 = .ptr 8 0 0 /\
     ∃ (f i t1 t2 a1 a2 b1 b2:Nat) (x y:Int),s.tmp 9 = .sv (.int .i64 (i:Int))/\f+i=1001/\1<=i/\smGo w s1 s2 f i (decide (i%2=1)) t1 t2 a1 a2 b1 b2=some (A1,A2,B1,B2) /\
      s.obj 8 0=some [.bool false,natV (lim t1),.bool false,natV (lim t2)]/\s.obj 7 0=some [.bool (decide (x<0)),natV (lim x.natAbs),.bool (decide (y<0)),natV (lim y.natAbs)] /\
      x=(a1:Int)-b2/\y=(a2:Int)-b1/\t1<=t2/\t2<=2^w/\a1<=i*2^w/\a2<=i*2^w/\b1<=i*2^w/\b2<=i*2^w)
    (fun s=>match s.tmp 9 with | .sv (.int _ i)=>1002-i.toNat|_=>0) ⟨rfl,rfl,rfl,rfl,rfl,rfl,rfl,1000,1,y1,y2,y1,y2,0,0,(y1:Int),(y2:Int),rfl,rfl,by omega,hgo,rfl,?_,by omega,by omega,y12,y2T,by omega,by omega,by omega,by omega⟩ ?_
   ·rw[show decide ((y1:Int)<0)=false from decide_eq_false (by omega),show decide ((y2:Int)<0)=false from decide_eq_false (by omega),xK,xK];rfl
   rintro s ⟨i1,i4,o4,i6,o6,i7,i8,f,i,t1,t2,a1,a2,b1,b2,x,y,i9,hfi,hi,hg,o8,o7,hx,hy,g1,g2,g3,g4,g5,g6⟩
   cases f with
   |zero=>simp only[smGo]at hg;cases hg
   |succ f=>
    have lt2:=lim_len_p2 g2;have pp:=ref4_ProdN (a:=t1) (b:=t2) (c:=s1) (d:=s2) (w:=w) g1 s12 (by omega) (by omega) (by omega) hw0;have u2t:cdv (t2*s2) (2^w)<=t2:=cdv_le hP (xF _ s2T);have u12:t1*s1/2^w<=cdv (t2*s2) (2^w):=by
     unfold cdv;refine xg ?_;have:=xJ g1 s12;omega
    have hbig:i*2^w<=2^(w+10):=by
     rw[xN,xV (2^w)];exact xB _ (by omega)
    have hpl:(i+1)*2^w=i*2^w+2^w:=by rw[xY,xe]
    have hi2:2^w<=i*2^w:=zL _ (by omega);have big2:i*2^w+i*2^w<=2^(w+11):=by rw[show w+11=w+10+1 by omega,xW];omega
    have nz:2*i+1≠0:=by omega
    have by1:=ref4_ByN (a:=t1*s1/2^w) (b:=cdv (t2*s2) (2^w)) (n:=2*i+1) (xG (lim_len_mono (xG u12 u2t)) (by omega)) (xG (lim_len_mono u2t) (by omega));have x2u:cdv (cdv (t2*s2) (2^w)) (2*i+1)<=cdv (t2*s2) (2^w):=cdv_le (by omega) (yg _ (by omega));have x12:t1*s1/2^w/(2*i+1)<=cdv (cdv (t2*s2) (2^w)) (2*i+1):=div_le_cdv (by omega) u12;have mo:=ref4_MostN (a:=t1*s1/2^w) (b:=cdv (t2*s2) (2^w)) u12 (xG (lim_len_mono u2t) (by omega));have cc:=ref4_CmpN (a:=cdv (t2*s2) (2^w)) (b:=2) (xG (lim_len_mono u2t) (by omega))
    have ec:decide (cmpZ ((cdv (t2*s2) (2^w):Nat):Int) ((2:Nat):Int)<=0)=decide (cdv (t2*s2) (2^w)<=2):=by rw[cmpZ_le];exact decide_eq_decide.2 (by omega)
    have tm:(i:Int).tmod 2=((i%2:Nat):Int):=_root_.id rfl;simp only[smGo,pin_eq]at hg;generalize cmpZ ((cdv (t2*s2) (2^w):Nat):Int) ((2:Nat):Int)=z at *
    generalize t1*s1/2^w=u1 at *
    generalize cdv (t2*s2) (2^w)=u2 at *
    generalize u1/(2*i+1)=x1 at *
    generalize cdv u2 (2*i+1)=x2 at *
    have lu2:=lim_len_p2 (xG u2t g2);have lx2:=lim_len_mono x2u;have lx1:=lim_len_mono x12;have lx:=lim_len_p2 (n:=x.natAbs) (w:=w+10);have ly:=lim_len_p2 (n:=y.natAbs) (w:=w+10);rw[show ((2*i+1:Nat):Int)=2*(i:Int)+1 by omega]at by1;rcases wB i with hpar|hpar
    ·rw[hpar]at tm;rw[hpar,show decide ((0:Nat)=1)=false from rfl]at hg;replace hg:(if u2<=2 then some (a1+x1,a2+x2,b1,b2) else smGo w s1 s2 f (i+1) true u1 u2 (a1+x1) (a2+x2) b1 b2)=some (A1,A2,B1,B2):=hg;have sm:=ref4_SumN (x:=x) (y:=y) (c:=x1) (d:=x2);have lX:=lim_len_p2 (n:=(x+x1).natAbs) (w:=w+11);have lY:=lim_len_p2 (n:=(y+x2).natAbs) (w:=w+11);by_cases hu:u2<=2
     ·rw[decide_eq_true hu]at ec;rw[if_pos hu]at hg;have wd:=ref4_Wide (a:=x+x1) (b:=y+x2) (by omega) (by omega) 4 (by omega);simp only[Option.some.injEq,Prod.mk.injEq]at hg;rw[show x+x1-4=((A1-B2-4:Nat):Int) by omega,show y+x2+4=((A2-B1+4:Nat):Int) by omega,ivN_eq]at wd;generalize x+x1=X at *
      generalize y+x2=Y at *
      clear hg hx hy;repeat (first|simp only[go_sem,i1,i4,o4,i6,o6,i7,i8,i9,o8,o7,tm,ec]|simp (disch:=first|exact omg|fail) only[AX,i1,i4,o4,i6,o6,i7,i8,i9,o8,o7,tm,ec]|refine wki ?_|refine vpd 3 [] ?_|refine vf_of (by first|exact pp|exact by1|exact sm|exact mo|exact w2|exact cc|exact wd) ?_)
     ·rw[decide_eq_false hu]at ec;rw[if_neg hu]at hg;have hpar':decide ((i+1)%2=1)=true:=decide_eq_true (by omega);rw[<- hpar']at hg;generalize hX:x+x1=X at *
      generalize hY:y+x2=Y at *
      repeat (first|simp only[go_sem,i1,i4,o4,i6,o6,i7,i8,i9,o8,o7,tm,ec]|simp (disch:=first|exact omg|fail) only[AX,i1,i4,o4,i6,o6,i7,i8,i9,o8,o7,tm,ec]|refine wki ?_|refine vpd 3 [] ?_|refine vf_of (by first|exact pp|exact by1|exact sm|exact mo|exact w2|exact cc) ?_)
      exact⟨⟨f,i+1,u1,u2,a1+x1,a2+x2,b1,b2,X,Y,rfl,by omega,by omega,hg,rfl,rfl,by omega,by omega,by omega,by omega,by omega,by omega,by omega,by omega⟩,by omega⟩
    ·rw[hpar]at tm;rw[hpar,show decide ((1:Nat)=1)=true from rfl]at hg;replace hg:(if u2<=2 then some (a1,a2,b1+x1,b2+x2) else smGo w s1 s2 f (i+1) false u1 u2 a1 a2 (b1+x1) (b2+x2))=some (A1,A2,B1,B2):=hg;have sm:=ref4_MinusN (x:=x) (y:=y) (c:=x1) (d:=x2);have lX:=lim_len_p2 (n:=(x-x2).natAbs) (w:=w+11);have lY:=lim_len_p2 (n:=(y-x1).natAbs) (w:=w+11);by_cases hu:u2<=2
     ·rw[decide_eq_true hu]at ec;rw[if_pos hu]at hg;have wd:=ref4_Wide (a:=x-x2) (b:=y-x1) (by omega) (by omega) 4 (by omega);simp only[Option.some.injEq,Prod.mk.injEq]at hg;rw[show x-x2-4=((A1-B2-4:Nat):Int) by omega,show y-x1+4=((A2-B1+4:Nat):Int) by omega,ivN_eq]at wd;generalize x-x2=X at *
      generalize y-x1=Y at *
      clear hg hx hy;repeat (first|simp only[go_sem,i1,i4,o4,i6,o6,i7,i8,i9,o8,o7,tm,ec]|simp (disch:=first|exact omg|fail) only[AX,i1,i4,o4,i6,o6,i7,i8,i9,o8,o7,tm,ec]|refine wki ?_|refine vpd 3 [] ?_|refine vf_of (by first|exact pp|exact by1|exact sm|exact mo|exact w2|exact cc|exact wd) ?_)
     ·rw[decide_eq_false hu]at ec;rw[if_neg hu]at hg;have hpar':decide ((i+1)%2=1)=false:=decide_eq_false (by omega);rw[<- hpar']at hg;generalize hX:x-x2=X at *
      generalize hY:y-x1=Y at *
      repeat (first|simp only[go_sem,i1,i4,o4,i6,o6,i7,i8,i9,o8,o7,tm,ec]|simp (disch:=first|exact omg|fail) only[AX,i1,i4,o4,i6,o6,i7,i8,i9,o8,o7,tm,ec]|refine wki ?_|refine vpd 3 [] ?_|refine vf_of (by first|exact pp|exact by1|exact sm|exact mo|exact w2|exact cc) ?_)
      exact⟨⟨f,i+1,u1,u2,a1,a2,b1+x1,b2+x2,X,Y,rfl,by omega,by omega,hg,rfl,rfl,by omega,by omega,by omega,by omega,by omega,by omega,by omega,by omega⟩,by omega⟩
  ·rw[if_neg hfin]at hs;cases hs
 ·cases hs
end
theorem ref8_part {n:Nat} (hn:n<4294967296:=by omega):Go.Ev.Fn CX 257 [.int .u32 (n:Int)] (rv (mkRat 1 n)):=by
 have o:=ref2_Of false [1] [n] (by simp[okL]) (by simp[okL];exact hn) (by simp) (by simp);rw[show wth [1]=1 from rfl,show wth [n]=n by simp[wth]]at o;have o':Go.Ev.Fn CX 39 [.bool false,.sl 1 [.int .u32 1],.sl 1 [.int .u32 (n:Int)]] (rv (mkRat 1 n)):=o;clear o;generalize mkRat 1 n=q at *
 refine fni Tryz.f257 ?_;unfold Tryz.f257;repeat (first|simp only[go_sem]|simp (disch:=first|exact omg|fail) only[AX]|refine wki ?_|refine vfa ?_)
theorem ref4_OftenN {a b n:Nat} (ha:(lim a).length<=100000:=by omega) (hb:(lim b).length<=100000:=by omega) (hn:n<4294967296:=by omega):Go.Ev.Fn CX 258 [ivN a b,.int .i64 (n:Int)] (ivN (a*n) (b*n)):=by
 have h:=ref4_Often (a:=(a:Int)) (b:=(b:Int)) (by rw[xK];omega) (by rw[xK];omega) (n:Int) (by omega);rw[<- xw,<- xw,ivN_eq,ivN_eq]at h;exact h
theorem ref4_BackN {a b n:Nat} (ha:(lim a).length<=100000:=by omega) (hb:(lim b).length<=100000:=by omega) (hn:n<=4096:=by omega) (h0:0<n:=by omega):Go.Ev.Fn CX 194 [ivN a b,.int .i64 (n:Int)] (ivN (a/2^n) (cdv b (2^n))):=by
 have h:=ref4_Back (a:=(a:Int)) (b:=(b:Int)) (by rw[xK];omega) (by rw[xK];omega) n hn h0;rw[cdZ_nat (xM (by omega)),<- wc,ivN_eq,ivN_eq]at h;exact h
theorem smGo_bd {w s1 s2 T:Nat} (hs1:s1<=2^w) (hs:s2<=2^w) : ∀ (f i:Nat) (odd:Bool) (t1 t2 a1 a2 b1 b2:Nat) {A1 A2 B1 B2:Nat},smGo w s1 s2 f i odd t1 t2 a1 a2 b1 b2=some (A1,A2,B1,B2)->t1<=T->t2<=T->A1<=a1+f*T/\A2<=a2+f*T:=by
 intro f;induction f with
 |zero=>intro i odd t1 t2 a1 a2 b1 b2 A1 A2 B1 B2 h;simp only[smGo]at h;cases h
 |succ f ih=>
  intro i odd t1 t2 a1 a2 b1 b2 A1 A2 B1 B2 h ht1 ht;have hP:0<2^w:=xM (by omega);have u1t:t1*s1/2^w<=t1:=(yR hP).2 (by have:=xF t1 hs1;omega);have x1u:=xt (t1*s1/2^w) (2*i+1);have u2t:cdv (t2*s2) (2^w)<=t2:=cdv_le hP (xF _ hs);have x2u:cdv (cdv (t2*s2) (2^w)) (2*i+1)<=cdv (t2*s2) (2^w):=cdv_le (by omega) (yg _ (by omega));simp only[smGo,pin_eq]at h;generalize cdv (t2*s2) (2^w)=u2 at *
  generalize cdv u2 (2*i+1)=x2 at *
  generalize t1*s1/2^w=u1 at *
  generalize u1/(2*i+1)=x1 at *
  rw[xY,xe];cases odd with
  |true=>
   replace h:(if u2<=2 then some (a1,a2,b1+x1,b2+x2) else smGo w s1 s2 f (i+1) false u1 u2 a1 a2 (b1+x1) (b2+x2))=some (A1,A2,B1,B2):=h;split at h
   ·simp only[Option.some.injEq,Prod.mk.injEq]at h;omega
   ·have:=ih _ _ _ _ _ _ _ _ h (by omega) (by omega);omega
  |false=>
   replace h:(if u2<=2 then some (a1+x1,a2+x2,b1,b2) else smGo w s1 s2 f (i+1) true u1 u2 (a1+x1) (a2+x2) b1 b2)=some (A1,A2,B1,B2):=h;split at h
   ·simp only[Option.some.injEq,Prod.mk.injEq]at h;omega
   ·have:=ih _ _ _ _ _ _ _ _ h (by omega) (by omega);omega
theorem smF_bd {d w A B:Nat} (hd:0<d) (hw:w<=900) (h:smF d w=some (A,B)):(lim A).length<=50/\(lim B).length<=50:=by
 unfold smF at h;rw[pin_eq,pin_eq,pin_eq,pin_eq]at h;have hP:0<2^w:=xM (by omega);have y2T:cdv (2^w) d<=2^w:=cdv_le hd (yg _ hd);have s2T:cdv (cdv (2^w) d*cdv (2^w) d) (2^w)<=2^w:=cdv_le hP (xJ y2T y2T);split at h
 ·rename_i A1 A2 B1 B2 hgo;have y1T:2^w/d<=2^w:=xt _ _;have s1T:2^w/d*(2^w/d)/2^w<=2^w:=(yR hP).2 (by have:=xJ y1T y1T;omega);have hb:=smGo_bd s1T s2T _ _ _ _ _ _ _ _ _ hgo y1T y2T;split at h
  ·simp only[Option.some.injEq,Prod.mk.injEq]at h;have hbig:2^w*2048=2^(w+11):=by rw[xN]
   have l1:=lim_len_p2 (n:=B-4) (w:=w+11);have l2:(lim B).length<=41:=xG (lim_len_mono (show B<=(B-4)+4 by omega)) (lim_len_add (L:=40) l1 (xG (lim_len_one (by decide)) (by omega)));exact⟨xG (lim_len_p2 (n:=A) (w:=w+11)) (by omega),by omega⟩
  ·cases h
 ·cases h
theorem ref8_PiIv {w lo hi:Nat} (hw:w<=800) (h:piIv w=some (lo,hi)):Go.Ev.Fn CX 193 [.int .i64 (w:Int)] (ivN lo hi):=by
 unfold piIv at h;split at h
 ·rename_i a1 a2 b1 b2 h1 h2;split at h
  ·rename_i hc;obtain⟨rfl,rfl⟩:(a1*16-b2*4)/2^10=lo/\cdv (a2*16-b1*4) (2^10)=hi:=by simpa using h
   clear h;have p5:=ref8_part (n:=5);have p239:=ref8_part (n:=239);have z5:szR (mkRat 1 5) 2:=⟨lim_len_lt (by decide +kernel),lim_len_lt (by decide +kernel)⟩
   have z239:szR (mkRat 1 239) 2:=⟨lim_len_lt (by decide +kernel),lim_len_lt (by decide +kernel)⟩
   have s5:=ref8_small (d:=5) (RatA_rv z5) (by decide +kernel) (by decide +kernel) (by omega) (by omega) (by omega) h1;have s239:=ref8_small (d:=239) (RatA_rv z239) (by decide +kernel) (by decide +kernel) (by omega) (by omega) (by omega) h2;obtain⟨g1,g2⟩:=smF_bd (by omega) (by omega) h1;obtain⟨g3,g4⟩:=smF_bd (by omega) (by omega) h2;have o1:=ref4_OftenN (a:=a1) (b:=a2) (n:=16);have o2:=ref4_OftenN (a:=b1) (b:=b2) (n:=4);have l16:(lim 16).length<=1:=lim_len_one (by decide);have l4:(lim 4).length<=1:=lim_len_one (by decide);have e1:=lim_len_mul (a:=a1) (b:=16);have e2:=lim_len_mul (a:=a2) (b:=16)
   have e3:=lim_len_mul (a:=b1) (b:=4);have e4:=lim_len_mul (a:=b2) (b:=4);have m:=ref4_MinusN (x:=((a1*16:Nat):Int)) (y:=((a2*16:Nat):Int)) (c:=b1*4) (d:=b2*4) (by rw[xK];omega) (by rw[xK];omega);rw[<- Int.ofNat_sub hc.1,<- Int.ofNat_sub hc.2,ivN_eq,ivN_eq]at m;have l5:=lim_len_mono (zY (a1*16) (b2*4));have l6:=lim_len_mono (zY (a2*16) (b1*4));have bk:=ref4_BackN (a:=a1*16-b2*4) (b:=a2*16-b1*4) (n:=10);generalize (a1*16-b2*4)/2^10=x at *
   generalize cdv (a2*16-b1*4) (2^10)=y at *
   generalize a1*16-b2*4=x1 at *
   generalize a2*16-b1*4=x2 at *
   generalize a1*16=x3 at *
   generalize a2*16=x4 at *
   generalize b1*4=x5 at *
   generalize b2*4=x6 at *
   generalize mkRat 1 5=q5 at *
   generalize mkRat 1 239=q239 at *
   rw[show ((w+10:Nat):Int)=(w:Int)+10 by omega]at s5 s239;refine fni Tryz.f193 ?_;unfold Tryz.f193;repeat (first|simp only[go_sem]|simp (disch:=first|exact omg|fail) only[AX]|refine wki ?_|refine vpd 2 [] ?_|refine vfa ?_)
  ·cases h
 ·cases h
end Go.Proofs.YtfknkoeagjonbaaGreat
namespace Go.Proofs.YtfknkoeagjonbaaGreat
open Go.Ev
theorem cdv_ge (a:Nat) {d:Nat} (hd:0<d):a<=cdv a d*d:=by
 unfold cdv;have h1:=ym (a+d-1) d;have h2:=yG (a+d-1) hd;rw[xV]at h1;omega
theorem cdv_geR (a:Nat) {d:Nat} (hd:0<d):(a:Rat)<=((cdv a d:Nat):Rat)*(d:Rat):=by
 have:=cdv_ge a hd;exact_mod_cast this
section
variable {w a b c d:Nat} {q r:Rat}
theorem one_szR':szR 1 1:=⟨lim_len_lt (by decide +kernel),lim_len_lt (by decide +kernel)⟩
theorem enc_prodN (h1:Enc w a b q) (h2:Enc w c d r):Enc w (a*c/2^w) (cdv (b*d) (2^w)) (q*r):=by
 have P:=p2_pos w;refine⟨(enc_mul h1 h2).1,le_by P ?_⟩;have g:=cdv_geR (b*d) (show 0<2^w from xM (by omega));have c1:((b*d:Nat):Rat)=(b:Rat)*(d:Rat):=by exact_mod_cast rfl
 have m:=mul_le h1.2 h2.2 (nat_nonneg b) (xL (enc_nonneg h2) (xX P));rw[c1]at g;have e:q*r*p2 w*p2 w=q*p2 w*(r*p2 w):=by grind
 rw[e];exact xO m g
theorem enc_byN {n m:Nat} (hm:0<m) (h:Enc w a b q):Enc w (a*n/m) (cdv (b*n) m) (q*(n:Rat)/(m:Rat)):=by
 have M:(0:Rat)<(m:Rat):=by exact_mod_cast hm
 refine⟨(enc_times hm h).1,le_by M ?_⟩;have g:=cdv_geR (b*n) hm;have c1:((b*n:Nat):Rat)=(b:Rat)*(n:Rat):=by exact_mod_cast rfl
 rw[c1]at g;have e:=yD (a:=q*(n:Rat)) (b:=(m:Rat)) (by grind);have m1:=xA h.2 (nat_nonneg n);generalize q*(n:Rat)/(m:Rat)=z at *
 have e2:z*p2 w*(m:Rat)=q*p2 w*(n:Rat):=by grind
 rw[e2];exact xO m1 g
def upN (q:Rat) (w:Nat):Nat:=cdv (q.num.natAbs*2^w) q.den
theorem un_up (w:Nat):unN q w<=upN q w:=div_le_cdv q.den_pos (xU _)
theorem up_unR (h0:0<=q):q*p2 w<=((upN q w:Nat):Rat):=by
 have D:(0:Rat)<(q.den:Rat):=by exact_mod_cast q.den_pos
 have g:=cdv_geR (q.num.natAbs*2^w) q.den_pos;have e:((q.num.natAbs*2^w:Nat):Rat)=q*p2 w*(q.den:Rat):=by
  have c1:((q.num.natAbs*2^w:Nat):Rat)=((q.num.natAbs:Nat):Rat)*p2 w:=by exact_mod_cast rfl
  have h:=num_den q;have h2:((q.num.natAbs:Nat):Rat)=(q.num:Rat):=by
   have:(q.num.natAbs:Int)=q.num:=wb (zP.2 h0);rw[<- this];rfl
  rw[c1,h2,<- h];grind
 rw[e]at g;exact le_by D g
theorem num_enc (h0:0<=q) (w:Nat):Enc w (unN q w) (upN q w) q:=⟨(unN_le h0 w).1,up_unR h0⟩
theorem num_abs (h0:0<=q):((q.num.natAbs:Nat):Int)=q.num:=wb (zP.2 h0)
theorem upN_le {n m:Nat} (h0:0<=q) (h:q*(m:Rat)<=(n:Rat)) (hm:n*2^w<=c*m:=by omega) (hm0:0<m:=by omega):upN q w<=c:=by
 refine cdv_le q.den_pos ?_;have D:(0:Rat)<(q.den:Rat):=by exact_mod_cast q.den_pos
 have h2:((q.num.natAbs:Nat):Rat)=q*(q.den:Rat):=by
  rw[num_den q,<- num_abs h0];rfl
 have h3:((q.num.natAbs*m:Nat):Rat)<=((n*q.den:Nat):Rat):=by
  have c1:((q.num.natAbs*m:Nat):Rat)=((q.num.natAbs:Nat):Rat)*(m:Rat):=by exact_mod_cast rfl
  have c2:((n*q.den:Nat):Rat)=(n:Rat)*(q.den:Rat):=by exact_mod_cast rfl
  rw[c1,c2,h2];have:=xA h (xX D);grind
 have h4:q.num.natAbs*m<=n*q.den:=by exact_mod_cast h3
 have h5:=xB (2^w) h4;have h6:=xB q.den hm;refine yw (c:=m) ?_ hm0;have e1:q.num.natAbs*2^w*m=q.num.natAbs*m*2^w:=by grind
 have e2:n*q.den*2^w=n*2^w*q.den:=by grind
 have e3:c*q.den*m=c*m*q.den:=by grind
 rw[e1,e3];rw[e2]at h5;exact xG h5 h6
theorem upN_one (h0:0<=q) (h1:q<=1):upN q w<=2^w:=
 upN_le (n:=1) (m:=1) h0 (by
  have:((1:Nat):Rat)=1:=rfl;rw[this];grind)
theorem upN_half (h0:0<=q) (h1:q+q<=1) (hw:0<w:=by omega):2*upN q w<=2^w:=by
 have e:2^w=2*2^(w-1):=by rw[<- Nat.pow_succ',show (w-1).succ=w by omega]
 have:=upN_le (q:=q) (w:=w) (c:=2^(w-1)) (n:=1) (m:=2) h0 (by
  have a1:((1:Nat):Rat)=1:=rfl;have a2:((2:Nat):Rat)=2:=rfl;rw[a1,a2];grind)
 omega
theorem ref4_NumN {v:SV} {L:Nat} (hv:RatA v q L) (hL1:1<=L) (hL:L<=100000) (hw:w<=4096) (h0:0<=q):Go.Ev.Fn CX 121 [v,.int .i64 (w:Int)] (ivN (unN q w) (upN q w)):=by
 have h:=ref4_Num hv hL1 hL hw;rw[<- num_abs h0,<- xw,cdZ_nat q.den_pos,<- wc,ivN_eq]at h;exact h
theorem ref4_SqrtN (ha:(lim a).length<=60:=by omega) (hb:(lim b).length<=60:=by omega) (hw:w<=1000:=by omega):Go.Ev.Fn CX 255 [ivN a b,.int .i64 (w:Int)] (ivN (rtN (a*2^w)) (rtN (b*2^w)+1)):=by
 have h:=ref4_Sqrt ha hb hw;rw[ivN_eq,ivN_eq]at h;exact h
theorem rtN_mono {m n:Nat} (h:m<=n):rtN m<=rtN n:=by
 have h1:=rtN_le m;have h2:=lt_rtN n;rcases xk (rtN n) (rtN m) with g|g
 ·have:=xJ (show rtN n+1<=rtN m by omega) (show rtN n+1<=rtN m by omega);omega
 ·exact g
theorem sqrt_len (hb:b<=2^w):rtN (b*2^w)<=2^w:=by
 have h:=rtN_mono (xB (2^w) hb);rw[<- rtN_eq (a:=2^w*2^w) (r:=2^w) (xU _) (Nat.mul_lt_mul'' (by omega) (by omega))]at h;exact h
theorem sqrt_pts (h0:0<=q) (e:Enc w a b q) : ∃s1 s2:Rat,0<=s1/\s1*s1<=q/\0<=s2/\q<=s2*s2 /\ ∀s,s1<=s->s<=s2->Enc w (rtN (a*2^w)) (rtN (b*2^w)+1) s:=by
 have P:=p2_pos w;have PP:0<p2 w*p2 w:=ya P P;have m1:=mk_p2n (rtN (a*2^w)) w;have m2:=mk_p2n (rtN (b*2^w)+1) w;have l1:=nat_le_rat (rtN_le (a*2^w));have l2:=nat_le_rat (wR (lt_rtN (b*2^w)));have c1 : ∀m n:Nat,((m*n:Nat):Rat)=(m:Rat)*(n:Rat):=by intro m n;exact_mod_cast rfl
 rw[c1,c1]at l1 l2;change _<=_*p2 w at l1
 change _*p2 w<=_ at l2
 obtain⟨e1,e2⟩:=e;have f1:=xA e1 (xX P);have f2:=xA e2 (xX P);have fin : ∀s:Rat,((rtN (a*2^w):Nat):Rat)<=s*p2 w->s*p2 w<=((rtN (b*2^w)+1:Nat):Rat)->Enc w (rtN (a*2^w)) (rtN (b*2^w)+1) s:=fun s h1 h2=>⟨h1,h2⟩
 have n1:=nat_nonneg (rtN (a*2^w));have n2:=nat_nonneg (rtN (b*2^w)+1);generalize ((rtN (a*2^w):Nat):Rat)=x at *
 generalize ((rtN (b*2^w)+1:Nat):Rat)=y at *
 generalize mkRat ((rtN (a*2^w):Nat):Int) (2^w)=s1 at *
 generalize mkRat ((rtN (b*2^w)+1:Nat):Int) (2^w)=s2 at *
 refine⟨s1,s2,le_by P (by rw[m1,yM];exact n1),le_by PP ?_,le_by P (by rw[m2,yM];exact n2),le_by PP ?_,?_⟩
 ·have:s1*s1*(p2 w*p2 w)=s1*p2 w*(s1*p2 w):=by grind
  rw[this,m1];grind
 ·have:s2*s2*(p2 w*p2 w)=s2*p2 w*(s2*p2 w):=by grind
  rw[this,m2];grind
 ·intro s h1 h2;have k1:=xA h1 (xX P);have k2:=xA h2 (xX P);exact fin s (by rw[<- m1];exact k1) (by rw[<- m2];exact k2)
end
def pwI (w y1 y2:Nat):Nat->Nat->Nat->Nat×Nat
 |0,r1,r2=>(r1,r2)
 |j+1,r1,r2=>pwI w y1 y2 j (r1*y1/2^w) (cdv (r2*y2) (2^w))
theorem pwI_ok {w y1 y2 T:Nat} (h12:y1<=y2) (hy:y2<=2^w) : ∀ (j r1 r2:Nat),r1<=r2->r2<=T->(pwI w y1 y2 j r1 r2).1<=(pwI w y1 y2 j r1 r2).2/\(pwI w y1 y2 j r1 r2).2<=T
 |0,_,_,h1,h2=>⟨h1,h2⟩
 |j+1,r1,r2,h1,h2=>by
  have P:0<2^w:=xM (by omega);exact pwI_ok h12 hy j _ _ (div_le_cdv P (xJ h1 h12)) (xG (cdv_le P (xF _ hy)) h2)
theorem pwI_enc {w y1 y2:Nat} {q:Rat} (hq:Enc w y1 y2 q) : ∀ (j r1 r2:Nat) (s:Rat),Enc w r1 r2 s->Enc w (pwI w y1 y2 j r1 r2).1 (pwI w y1 y2 j r1 r2).2 (s*pwR q j)
 |0,_,_,s,h=>by
  show Enc _ _ _ (s*1);rw[yr];exact h
 |j+1,r1,r2,s,h=>by
  have:=pwI_enc hq j _ _ _ (enc_prodN h hq);have e:s*q*pwR q j=s*pwR q (j+1):=by
   show _=s*(pwR q j*q)
   grind
  rw[e]at this;exact this
section
variable {v:SV} {q:Rat} {w L n:Nat}
set_option maxHeartbeats 1000000 in
theorem ref12_power (hv:RatA v q L) (hL1:1<=L) (hL:L<=300) (h0:0<=q) (h1:q<=1) (hn:n<=30:=by omega) (hw:w<=900:=by omega) (hw0:0<w:=by omega) :
  ∃X1 X2:Nat,∃s1 s2:Rat,Go.Ev.Fn CX 191 [v,.int .i64 (n:Int),.int .i64 (w:Int)] (ivN X1 X2)/\X1<=X2/\X2<=2^w+1/\0<=s1/\s1*s1<=q/\0<=s2/\q<=s2*s2 /\
   ∀s,s1<=s->s<=s2->Enc w X1 X2 (pwR q (n/2)*(if n%2=1 then s else 1)):=by
 have nb:=ref4_NumN (w:=w) hv hL1 (by omega) (by omega) h0;have n1:=ref4_NumN (w:=w) (RatA_rv (one_szR')) (by omega) (by omega) (by omega) (show (0:Rat)<=1 by decide);have u1:unN 1 w=2^w:=by show 1*2^w/1=_;rw[xe,wI]
 have u2:upN 1 w=2^w:=by show cdv (1*2^w) 1=_;unfold cdv;rw[xe,wI];omega
 rw[u1,u2]at n1;have i1:=ref2_Int 1;rw[show ((1:Int):Rat)=1 from rfl]at i1;have en:=num_enc h0 w;have y12:=un_up (q:=q) w;have yT:=upN_one (w:=w) h0 h1;obtain⟨s1,s2,p1,p3,p2',p4,p5⟩:=sqrt_pts h0 en;have sq:=sqrt_len yT;have sm:rtN (unN q w*2^w)<=rtN (upN q w*2^w):=rtN_mono (xB _ y12);have one:Enc w (2^w) (2^w) 1:=by
  refine⟨by rw[yK];exact xi,by rw[yK];exact xi⟩
 obtain⟨r1,r2,hr12,hrT,henc,hwalk⟩ : ∃r1 r2:Nat,r1<=r2/\r2<=2^w+1/\(∀s,s1<=s->s<=s2->Enc w r1 r2 (if n%2=1 then s else 1))/\((n%2=1/\r1=rtN (unN q w*2^w)/\r2=rtN (upN q w*2^w)+1)\/(n%2=0/\r1=2^w/\r2=2^w)):=by
  by_cases h:n%2=1
  ·exact⟨_,_,by omega,by omega,fun s a b=>by rw[if_pos h];exact p5 s a b,.inl ⟨h,rfl,rfl⟩⟩
  ·exact⟨_,_,xU _,by omega,fun s a b=>by rw[if_neg h];exact one,.inr ⟨by omega,rfl,rfl⟩⟩
 obtain⟨k1,k2⟩:=pwI_ok (T:=2^w+1) y12 yT (n/2) r1 r2 hr12 hrT;refine⟨_,_,s1,s2,?_,k1,k2,p1,p3,p2',p4,fun s a b=>by rw[wM];exact pwI_enc en (n/2) _ _ _ (henc s a b)⟩;have hp1:2^w+1<=2^(w+1):=by rw[xW];have:0<2^w:=xM (by omega);omega
 have ly2:=lim_len_p2 yT;have ly1:=lim_len_mono y12;have sqf:=ref4_SqrtN (a:=unN q w) (b:=upN q w) (w:=w);have hX : ∃X,pwI w (unN q w) (upN q w) (n/2) r1 r2=X:=⟨_,rfl⟩
 obtain⟨⟨X1,X2⟩,hX⟩:=hX;rw[hX];clear henc en one p1 p3 p2' p4 p5 u1 u2 sm sq k1 k2;generalize unN q w=y1 at *
 generalize upN q w=y2 at *
 have tm:(n:Int).tmod 2=((n%2:Nat):Int):=_root_.id rfl;rcases hwalk with⟨hod,rfl,rfl⟩|⟨hod,rfl,rfl⟩
 all_goals rw[hod]at tm
 all_goals obtain⟨s0,n0,d0,rfl,-⟩:=hv
 ·refine fni Tryz.f191 ?_;unfold Tryz.f191;repeat (first|simp only[go_sem,tm]|simp (disch:=first|exact omg|fail) only[AX,tm]|refine wki ?_|refine vfa ?_)
  refine vp_loop_inv (fun s=>s.tmp 1 = .sv (.int .i64 (n:Int))/\s.tmp 2 = .sv (.int .i64 (w:Int))/\s.tmp 6 = .ptr 6 0 0/\s.obj 6 0=some [.bool false,.sl 0 [],.bool false,.sl 0 []]/\s.tmp 7 = .ptr 7 0 0/\s.obj 7 0=some [.bool false,natV (lim y1),.bool false,natV (lim y2)]/\s.tmp 8 = .ptr 8 0 0 /\
    ∃j r1 r2:Nat,s.tmp 9 = .sv (.int .i64 ((2*(n/2-j)+2:Nat):Int))/\j<=n/2/\pwI w y1 y2 j r1 r2=(X1,X2)/\s.obj 8 0=some [.bool false,natV (lim r1),.bool false,natV (lim r2)]/\r1<=r2/\r2<=2^w+1)
   (fun s=>match s.tmp 9 with | .sv (.int _ i)=>n+3-i.toNat|_=>0) ⟨rfl,rfl,rfl,rfl,rfl,rfl,rfl,n/2,_,_,by rw[Nat.sub_self];rfl,xU _,hX,rfl,hr12,hrT⟩ ?_
  rintro s ⟨i1,i2,i6,o6,i7,o7,i8,j,r1,r2,i9,hj,hpw,o8,g1,g2⟩
  cases j with
  |zero=>
   simp only[pwI,Prod.mk.injEq]at hpw;obtain⟨rfl,rfl⟩:=hpw;rw[show 2*(n/2-0)+2=n+2-n%2 by omega,hod]at i9;obtain⟨m,hm⟩ : ∃m:Nat,m=n+2-1:=⟨_,rfl⟩
   rw[<- hm]at i9;have hmn : ¬m<=n:=by omega
   have hdec:decide ((m:Int)<=(n:Int))=false:=decide_eq_false (by omega);repeat (first|simp only[go_sem,i1,i2,i6,o6,i7,o7,i8,i9,o8,hdec]|simp (disch:=first|exact omg|fail) only[AX,i1,i2,i6,o6,i7,o7,i8,i9,o8,hdec]|refine wki ?_)
  |succ j=>
   have lr2:=lim_len_p2 (xG g2 hp1);have pr:=ref4_ProdN (a:=r1) (b:=r2) (c:=y1) (d:=y2) (w:=w) g1 y12 (by omega) (by omega) (by omega) hw0;rw[pwI]at hpw;obtain⟨m,hm⟩ : ∃m:Nat,m=2*(n/2-(j+1))+2:=⟨_,rfl⟩
   rw[<- hm]at i9;have hmn:m<=n:=by omega
   have hdec:decide ((m:Int)<=(n:Int))=true:=decide_eq_true (by omega);have P:0<2^w:=xM (by omega);have u12:r1*y1/2^w<=cdv (r2*y2) (2^w):=div_le_cdv P (xJ g1 y12);have u2:cdv (r2*y2) (2^w)<=2^w+1:=xG (cdv_le P (xF _ yT)) g2;generalize r1*y1/2^w=u at *
   generalize cdv (r2*y2) (2^w)=u' at *
   clear sqf;repeat (first|simp only[go_sem,i1,i2,i6,o6,i7,o7,i8,i9,o8,hdec]|simp (disch:=first|exact omg|fail) only[AX,i1,i2,i6,o6,i7,o7,i8,i9,o8,hdec]|refine wki ?_|refine vfa ?_)
   exact⟨⟨j,u,u',by congr 3;omega,by omega,hpw,rfl,u12,u2⟩,by omega⟩
 ·refine fni Tryz.f191 ?_;unfold Tryz.f191;repeat (first|simp only[go_sem,tm]|simp (disch:=first|exact omg|fail) only[AX,tm]|refine wki ?_|refine vfa ?_)
  refine vp_loop_inv (fun s=>s.tmp 1 = .sv (.int .i64 (n:Int))/\s.tmp 2 = .sv (.int .i64 (w:Int))/\s.tmp 6 = .ptr 6 0 0/\s.obj 6 0=some [.bool false,.sl 0 [],.bool false,.sl 0 []]/\s.tmp 7 = .ptr 7 0 0/\s.obj 7 0=some [.bool false,natV (lim y1),.bool false,natV (lim y2)]/\s.tmp 8 = .ptr 8 0 0 /\
    ∃j r1 r2:Nat,s.tmp 9 = .sv (.int .i64 ((2*(n/2-j)+2:Nat):Int))/\j<=n/2/\pwI w y1 y2 j r1 r2=(X1,X2)/\s.obj 8 0=some [.bool false,natV (lim r1),.bool false,natV (lim r2)]/\r1<=r2/\r2<=2^w+1)
   (fun s=>match s.tmp 9 with | .sv (.int _ i)=>n+3-i.toNat|_=>0) ⟨rfl,rfl,rfl,rfl,rfl,rfl,rfl,n/2,_,_,by rw[Nat.sub_self];rfl,xU _,hX,rfl,hr12,hrT⟩ ?_
  rintro s ⟨i1,i2,i6,o6,i7,o7,i8,j,r1,r2,i9,hj,hpw,o8,g1,g2⟩
  cases j with
  |zero=>
   simp only[pwI,Prod.mk.injEq]at hpw;obtain⟨rfl,rfl⟩:=hpw;rw[show 2*(n/2-0)+2=n+2-n%2 by omega,hod]at i9;obtain⟨m,hm⟩ : ∃m:Nat,m=n+2-0:=⟨_,rfl⟩
   rw[<- hm]at i9;have hmn : ¬m<=n:=by omega
   have hdec:decide ((m:Int)<=(n:Int))=false:=decide_eq_false (by omega);repeat (first|simp only[go_sem,i1,i2,i6,o6,i7,o7,i8,i9,o8,hdec]|simp (disch:=first|exact omg|fail) only[AX,i1,i2,i6,o6,i7,o7,i8,i9,o8,hdec]|refine wki ?_)
  |succ j=>
   have lr2:=lim_len_p2 (xG g2 hp1);have pr:=ref4_ProdN (a:=r1) (b:=r2) (c:=y1) (d:=y2) (w:=w) g1 y12 (by omega) (by omega) (by omega) hw0;rw[pwI]at hpw;obtain⟨m,hm⟩ : ∃m:Nat,m=2*(n/2-(j+1))+2:=⟨_,rfl⟩
   rw[<- hm]at i9;have hmn:m<=n:=by omega
   have hdec:decide ((m:Int)<=(n:Int))=true:=decide_eq_true (by omega);have P:0<2^w:=xM (by omega);have u12:r1*y1/2^w<=cdv (r2*y2) (2^w):=div_le_cdv P (xJ g1 y12);have u2:cdv (r2*y2) (2^w)<=2^w+1:=xG (cdv_le P (xF _ yT)) g2;generalize r1*y1/2^w=u at *
   generalize cdv (r2*y2) (2^w)=u' at *
   clear sqf;repeat (first|simp only[go_sem,i1,i2,i6,o6,i7,o7,i8,i9,o8,hdec]|simp (disch:=first|exact omg|fail) only[AX,i1,i2,i6,o6,i7,o7,i8,i9,o8,hdec]|refine wki ?_|refine vfa ?_)
   exact⟨⟨j,u,u',by congr 3;omega,by omega,hpw,rfl,u12,u2⟩,by omega⟩
end
end Go.Proofs.YtfknkoeagjonbaaGreat
namespace Go.Proofs.YtfknkoeagjonbaaGreat
open Go.Ev
def refGo (w y1 y2 a b:Nat) (x:Rat):Nat->Nat->Nat->Nat->Nat->Nat->Option (Nat×Nat×Nat)
 |0,_,_,_,_,_=>none
 |f+1,k,t1,t2,s1,s2=>
  if cdv (cdv (t2*y2) (2^w)*(a+b+2*k)) (a+2+2*k)<=8/\x*(((4*(a+b+2*k+2):Nat):Int):Rat)<=(((3*(a+4+2*k):Nat):Int):Rat) then
   some (s1+t1*y1/2^w*(a+b+2*k)/(a+2+2*k),s2+cdv (cdv (t2*y2) (2^w)*(a+b+2*k)) (a+2+2*k),k+1)
  else refGo w y1 y2 a b x f (k+1) (t1*y1/2^w*(a+b+2*k)/(a+2+2*k)) (cdv (cdv (t2*y2) (2^w)*(a+b+2*k)) (a+2+2*k))
   (s1+t1*y1/2^w*(a+b+2*k)/(a+2+2*k)) (s2+cdv (cdv (t2*y2) (2^w)*(a+b+2*k)) (a+2+2*k))
section
variable {w y1 y2 a b:Nat} {x:Rat}
theorem refGo_enc (hx:Enc w y1 y2 x) : ∀ (f k t1 t2 s1 s2:Nat) {A B K:Nat},refGo w y1 y2 a b x f k t1 t2 s1 s2=some (A,B,K)->Enc w t1 t2 (rR x a b k)->Enc w s1 s2 (sR x a b k) ->
  (A:Rat)<=sR x a b K*p2 w/\sR x a b K*p2 w<=(B:Rat)/\rR x a b K*p2 w<=8/\x*(((4*(a+b+2*K):Nat):Int):Rat)<=(((3*(a+2+2*K):Nat):Int):Rat):=by
 intro f;induction f with
 |zero=>intro k t1 t2 s1 s2 A B K h;simp only[refGo]at h;cases h
 |succ f ih=>
  intro k t1 t2 s1 s2 A B K h ht hs;have e1:=enc_prodN ht hx;have e2:=enc_byN (n:=a+b+2*k) (m:=a+2+2*k) (by omega) e1;have e3:Enc w _ _ (rR x a b (k+1)):=e2;have e4:Enc w _ _ (sR x a b (k+1)):=enc_add hs e3;rw[refGo]at h;by_cases c:cdv (cdv (t2*y2) (2^w)*(a+b+2*k)) (a+2+2*k)<=8/\x*(((4*(a+b+2*k+2):Nat):Int):Rat)<=(((3*(a+4+2*k):Nat):Int):Rat)
  ·rw[if_pos c]at h;simp only[Option.some.injEq,Prod.mk.injEq]at h;obtain⟨rfl,rfl,rfl⟩:=h;refine⟨e4.1,e4.2,?_,?_⟩
   ·refine xO e3.2 ?_;have:=nat_le_rat c.1;exact this
   ·rw[show a+b+2*(k+1)=a+b+2*k+2 by omega,show a+2+2*(k+1)=a+4+2*k by omega];exact c.2
  ·rw[if_neg c]at h;exact ih _ _ _ _ _ h e3 e4
theorem step_half {t:Nat} (hy:2*y2<=2^w):2*cdv (t*y2) (2^w)<=t+1:=by
 have P:0<2^w:=xM (by omega);have h:cdv (t*y2) (2^w)<=(t+1)/2:=by
  refine cdv_le P ?_;have h1:t*(2*y2)<=t*2^w:=xF _ hy;have h2:t*2^w<=2*((t+1)/2)*2^w:=xB _ (by omega);have e1:t*(2*y2)=2*(t*y2):=by grind
  have e2:2*((t+1)/2)*2^w=2*((t+1)/2*2^w):=by rw[xP]
  omega
 omega
theorem step_late {s n m:Nat} (hm:0<m:=by omega) (h:2*n<=3*m:=by omega):2*cdv (s*n) m<=3*s+1:=by
 have h:cdv (s*n) m<=(3*s+1)/2:=by
  refine cdv_le hm ?_;have h1:s*(2*n)<=s*(3*m):=xF _ h;have h2:3*s*m<=2*((3*s+1)/2)*m:=xB _ (by omega);have e1:s*(2*n)=2*(s*n):=by grind
  have e2:s*(3*m)=3*s*m:=by grind
  have e3:2*((3*s+1)/2)*m=2*((3*s+1)/2*m):=by rw[xP]
  omega
 omega
theorem step_early {s n m:Nat} (hm:0<m:=by omega) (h:3*n<=23*m:=by omega):3*cdv (s*n) m<=23*s+2:=by
 have h:cdv (s*n) m<=(23*s+2)/3:=by
  refine cdv_le hm ?_;have h1:s*(3*n)<=s*(23*m):=xF _ h;have h2:23*s*m<=3*((23*s+2)/3)*m:=xB _ (by omega);have e1:s*(3*n)=3*(s*n):=by grind
  have e2:s*(23*m)=23*s*m:=by grind
  have e3:3*((23*s+2)/3)*m=3*((23*s+2)/3*m):=by rw[xP]
  omega
 omega
def okR (w b k t1 t2 s1 s2:Nat):Prop:=t1<=t2/\t2+8<=4^min k b*(2^w+8)/\2^w<=s1/\s1<=s2/\s2<=(k+1)*(4^b*(2^w+8))
theorem okR_step {k t1 t2 s1 s2:Nat} (hP:16<=2^w) (h12:y1<=y2) (hy:2*y2<=2^w) (ha:1<=a) (hb:b<=22) (h:okR w b k t1 t2 s1 s2) :
  okR w b (k+1) (t1*y1/2^w*(a+b+2*k)/(a+2+2*k)) (cdv (cdv (t2*y2) (2^w)*(a+b+2*k)) (a+2+2*k)) (s1+t1*y1/2^w*(a+b+2*k)/(a+2+2*k)) (s2+cdv (cdv (t2*y2) (2^w)*(a+b+2*k)) (a+2+2*k)):=by
 obtain⟨g1,g2,g3,g4,g5⟩:=h;have P:0<2^w:=xM (by omega);have v12:t1*y1/2^w<=cdv (t2*y2) (2^w):=div_le_cdv P (xJ g1 h12);have u12:t1*y1/2^w*(a+b+2*k)/(a+2+2*k)<=cdv (cdv (t2*y2) (2^w)*(a+b+2*k)) (a+2+2*k):=div_le_cdv (by omega) (xB _ v12);have sh:=step_half (t:=t2) hy;generalize cdv (t2*y2) (2^w)=s at *
 have key:cdv (s*(a+b+2*k)) (a+2+2*k)+8<=4^min (k+1) b*(2^w+8):=by
  by_cases hk:b<=k
  ·rw[Nat.min_eq_right (show b<=k+1 by omega)];rw[Nat.min_eq_right hk]at g2;have:=step_late (s:=s) (n:=a+b+2*k) (m:=a+2+2*k);have h16:16<=4^b*(2^w+8)\/t2+8<16:=by omega
   by_cases ht:8<=t2
   ·omega
   ·have h1:1<=4^b:=xM (by omega);have h9:2^w+8<=4^b*(2^w+8):=zL _ h1;omega
  ·rw[yO (show k+1<=b by omega),xW,xV (4^k) 4,xP];rw[yO (show k<=b by omega)]at g2;have:=step_early (s:=s) (n:=a+b+2*k) (m:=a+2+2*k);omega
 have top:4^min (k+1) b*(2^w+8)<=4^b*(2^w+8):=xB _ (xE (by omega) (Nat.min_le_right _ _));refine⟨u12,key,xG g3 (wZ _ _),by omega,?_⟩;have e:(k+1+1)*(4^b*(2^w+8))=(k+1)*(4^b*(2^w+8))+4^b*(2^w+8):=by rw[xY (k+1) 1,xe]
 omega
theorem stop_late (h0:0<=x) (h1:x+x<=1) {k:Nat} (hk:b<=k):x*(((4*(a+b+2*k+2):Nat):Int):Rat)<=(((3*(a+4+2*k):Nat):Int):Rat):=by
 have c1:(((4*(a+b+2*k+2):Nat):Int):Rat)=2*((2*(a+b+2*k+2):Nat):Rat):=by
  have c0:(((4*(a+b+2*k+2):Nat):Int):Rat)=((4*(a+b+2*k+2):Nat):Rat):=rfl;rw[c0,show 4*(a+b+2*k+2)=2*(2*(a+b+2*k+2)) by omega];exact_mod_cast rfl
 have c2:(((3*(a+4+2*k):Nat):Int):Rat)=((3*(a+4+2*k):Nat):Rat):=rfl;have h2:((2*(a+b+2*k+2):Nat):Rat)<=((3*(a+4+2*k):Nat):Rat):=nat_le_rat;have n0:=nat_nonneg (2*(a+b+2*k+2));rw[c1,c2];generalize ((2*(a+b+2*k+2):Nat):Rat)=n at *
 generalize ((3*(a+4+2*k):Nat):Rat)=m at *
 have:=xA h1 n0;grind
theorem ref_late (h0:0<=x) (h1:x+x<=1) (hy:2*y2<=2^w) : ∀ (f k t1 t2 s1 s2:Nat),b<=k->3^f*(t2-8)<4^f -> ∃A B K,refGo w y1 y2 a b x (f+1) k t1 t2 s1 s2=some (A,B,K):=by
 intro f;induction f with
 |zero=>
  intro k t1 t2 s1 s2 hk h;have sh:=step_half (t:=t2) hy;have:=step_late (s:=cdv (t2*y2) (2^w)) (n:=a+b+2*k) (m:=a+2+2*k);rw[refGo,if_pos ⟨by simp at h;omega,stop_late h0 h1 hk⟩];exact⟨_,_,_,rfl⟩
 |succ f ih=>
  intro k t1 t2 s1 s2 hk h;have sh:=step_half (t:=t2) hy;have st:=step_late (s:=cdv (t2*y2) (2^w)) (n:=a+b+2*k) (m:=a+2+2*k);rw[refGo];by_cases c:cdv (cdv (t2*y2) (2^w)*(a+b+2*k)) (a+2+2*k)<=8
  ·rw[if_pos ⟨c,stop_late h0 h1 hk⟩];exact⟨_,_,_,rfl⟩
  ·rw[if_neg (fun g=>c g.1)];refine ih _ _ _ _ _ (by omega) ?_;generalize cdv (cdv (t2*y2) (2^w)*(a+b+2*k)) (a+2+2*k)=u at *
   have d:4*(u-8)<=3*(t2-8):=by omega
   have d2:=xF (3^f) d;rw[xW,xW]at h;have e1:3^f*(4*(u-8))=4*(3^f*(u-8)):=by grind
   have e2:3^f*(3*(t2-8))=3^f*3*(t2-8):=by grind
   omega
theorem ref_early (hP:16<=2^w) (h0:0<=x) (h1:x+x<=1) (h12:y1<=y2) (hy:2*y2<=2^w) (ha:1<=a) (hb:b<=22) {F:Nat} (hF:3^F*(4^b*(2^w+8))<4^F) :
  ∀ (j k t1 t2 s1 s2:Nat),k+j=b->okR w b k t1 t2 s1 s2 -> ∃A B K,refGo w y1 y2 a b x (j+(F+1)) k t1 t2 s1 s2=some (A,B,K):=by
 intro j;induction j with
 |zero=>
  intro k t1 t2 s1 s2 hk h;rw[yf];refine ref_late h0 h1 hy F k t1 t2 s1 s2 (by omega) (yX (xF _ ?_) hF);have:=h.2.1;rw[Nat.min_eq_right (by omega)]at this;omega
 |succ j ih=>
  intro k t1 t2 s1 s2 hk h;rw[show j+1+(F+1)=(j+(F+1))+1 by omega,refGo];by_cases c:cdv (cdv (t2*y2) (2^w)*(a+b+2*k)) (a+2+2*k)<=8/\x*(((4*(a+b+2*k+2):Nat):Int):Rat)<=(((3*(a+4+2*k):Nat):Int):Rat)
  ·rw[if_pos c];exact⟨_,_,_,rfl⟩
  ·rw[if_neg c];exact ih _ _ _ _ _ (by omega) (okR_step hP h12 hy ha hb h)
theorem refGo_ok (hP:16<=2^w) (h12:y1<=y2) (hy:2*y2<=2^w) (ha:1<=a) (hb:b<=22) : ∀ (f k t1 t2 s1 s2:Nat) {A B K:Nat},refGo w y1 y2 a b x f k t1 t2 s1 s2=some (A,B,K)->okR w b k t1 t2 s1 s2->K<=k+f/\2^w<=A/\A<=B/\B<=(K+1)*(4^b*(2^w+8)):=by
 intro f;induction f with
 |zero=>intro k t1 t2 s1 s2 A B K h;simp only[refGo]at h;cases h
 |succ f ih=>
  intro k t1 t2 s1 s2 A B K h ho;have st:=okR_step hP h12 hy ha hb ho;rw[refGo]at h;by_cases c:cdv (cdv (t2*y2) (2^w)*(a+b+2*k)) (a+2+2*k)<=8/\x*(((4*(a+b+2*k+2):Nat):Int):Rat)<=(((3*(a+4+2*k):Nat):Int):Rat)
  ·rw[if_pos c]at h;simp only[Option.some.injEq,Prod.mk.injEq]at h;obtain⟨rfl,rfl,rfl⟩:=h;exact⟨by omega,st.2.2.1,st.2.2.2.1,st.2.2.2.2⟩
  ·rw[if_neg c]at h;have:=ih _ _ _ _ _ h st;exact⟨by omega,this.2⟩
theorem ref4_SumNN {a b c d:Nat} (ha:(lim a).length<=100000:=by omega) (hb:(lim b).length<=100000:=by omega) (hc:(lim c).length<=100000:=by omega) (hd:(lim d).length<=100000:=by omega):Go.Ev.Fn CX 143 [ivN a b,ivN c d] (ivN (a+c) (b+d)):=by
 have h:=ref4_SumN (x:=(a:Int)) (y:=(b:Int)) (c:=c) (d:=d) (by rw[xK];omega) (by rw[xK];omega) hc hd;rw[<- Int.natCast_add,<- Int.natCast_add,ivN_eq,ivN_eq]at h;exact h
theorem ref4_WideN {a b n:Nat} (ha:(lim a).length<=100000) (hb:(lim b).length<=100000) (h:n<=a) (hn:n<4294967296:=by omega):Go.Ev.Fn CX 262 [ivN a b,.int .i64 (n:Int)] (ivN (a-n) (b+n)):=by
 have w:=ref4_Wide (a:=(a:Int)) (b:=(b:Int)) (by rw[xK];omega) (by rw[xK];omega) (n:Int) (by omega);rw[show (a:Int)-(n:Int)=((a-n:Nat):Int) by omega,<- Int.natCast_add,ivN_eq,ivN_eq]at w;exact w
theorem ref4_MostN8 {b:Nat} (hb:(lim b).length<=100000:=by omega):Go.Ev.Fn CX 252 [intN b,intN 8] (.int .i64 (cmpZ b 8)):=ref4_CmpN hb (by have:(lim 8).length<=1:=lim_len_one (by decide);omega)
set_option maxHeartbeats 1000000 in
theorem ref12_row {v:SV} {L:Nat} (hv:RatA v x L) (hL1:1<=L) (hL:L<=300) (ha:1<=a) (ha2:a<=22) (hb:1<=b) (hb2:b<=22) (h0:0<=x) (h1:x+x<=1) (hw0:60<=w:=by omega) (hw:w<=500:=by omega) :
  ∃A B K:Nat,Go.Ev.Fn CX 195 [.int .i64 (a:Int),.int .i64 (b:Int),v,.int .i64 (w:Int)] (ivN A B)/\A<=B/\B<=2^(w+64) /\
   (A:Rat)<=sR x a b K*p2 w/\(sR x a b K+3*rR x a b K)*p2 w<=(B:Rat)/\x*(((4*(a+b+2*K):Nat):Int):Rat)<=(((3*(a+2+2*K):Nat):Int):Rat):=by
 have nb:=ref4_NumN (w:=w) hv hL1 (by omega) (by omega) h0;have n1:=ref4_NumN (w:=w) (RatA_rv (one_szR')) (by omega) (by omega) (by omega) (show (0:Rat)<=1 by decide);have u1:unN 1 w=2^w:=by show 1*2^w/1=_;rw[xe,wI]
 have u2:upN 1 w=2^w:=by show cdv (1*2^w) 1=_;unfold cdv;rw[xe,wI];omega
 rw[u1,u2]at n1;have i1:=ref2_Int 1;rw[show ((1:Int):Rat)=1 from rfl]at i1;have en:=num_enc h0 w;have y12:=un_up (q:=x) w;have yT:=upN_one (w:=w) h0 (show x<=1 by grind);have yH:=upN_half (w:=w) h0 h1;have hP:2^60<=2^w:=xE (n:=2) (by omega) hw0;have hP16:16<=2^w:=by omega
 have ok:okR w b 0 (2^w) (2^w) (2^w) (2^w):=by
  unfold okR;rw[Nat.zero_min,yk,xe,yf,xe];have h1:1<=4^b:=xM (by omega);have h9:2^w+8<=4^b*(2^w+8):=zL _ h1;exact⟨by omega,by omega,by omega,by omega,by omega⟩
 have h40:4^b*(2^w+8)<=2^(w+45):=by
  have a1:4^b<=4^22:=xE (by omega) hb2;have a2:2^(w+45)=4^22*(2^w*2):=by rw[show w+45=44+(w+1) by omega,xN 2 44,xN 2 w 1]
  rw[a2];exact xJ a1 (by omega)
 have hF:3^1400*(4^b*(2^w+8))<4^1400:=by
  obtain⟨E,hE⟩ : ∃E:Nat,E=545:=⟨_,rfl⟩
  have h49:4^b*(2^w+8)<=2^E:=xG h40 (xE (by omega) (by omega));obtain⟨N4,hN4⟩ : ∃N,N=4^1400:=⟨_,rfl⟩
  obtain⟨N3,hN3⟩ : ∃N,N=3^1400:=⟨_,rfl⟩
  rw[<- hN4,<- hN3];have hk:N3*2^E<N4:=by rw[hN3,hN4,hE];decide +kernel
  exact yX (xF _ h49) hk
 obtain⟨A,B,K,hg⟩:=ref_early (x:=x) (a:=a) (F:=1400) hP16 h0 h1 y12 yH ha hb2 hF b 0 (2^w) (2^w) (2^w) (2^w) (by omega) ok;obtain⟨k0,k1,k2,k3⟩:=refGo_ok hP16 y12 yH ha hb2 _ _ _ _ _ _ hg ok;have one:Enc w (2^w) (2^w) 1:=⟨by rw[yK];exact xi,by rw[yK];exact xi⟩
 obtain⟨e1,e2,e3,e4⟩:=refGo_enc en _ 0 _ _ _ _ hg one one;have hK:(K+1)*(4^b*(2^w+8))<=2^(w+56):=by
  have:2^(w+56)=2048*2^(w+45):=by rw[show w+56=11+(w+45) by omega,xN 2 11]
  rw[this];exact xJ (by omega) h40
 have hB:B+64<=2^(w+64):=by
  have:2^(w+64)=256*2^(w+56):=by rw[show w+64=8+(w+56) by omega,xN 2 8]
  have:1<=2^(w+56):=xM (by omega);omega
 clear hF;have hP64:64<=2^w:=by omega
 refine⟨A-64,B+64,K,?_,by omega,hB,?_,?_,e4⟩;rotate_left
 ·have:((A-64:Nat):Rat)<=(A:Rat):=nat_le_rat;exact xO this e1
 ·have:((B+64:Nat):Rat)=(B:Rat)+64:=by exact_mod_cast rfl
  rw[this];grind
 have lens:=fun (k t1 t2 s1 s2:Nat) (hk:k<=1500) (h:okR w b k t1 t2 s1 s2)=>(show (lim t1).length<=40/\(lim t2).length<=40/\(lim s1).length<=40/\(lim s2).length<=40 from by
  obtain⟨q1,q2,q3,q4,q5⟩:=h;have top:4^min k b*(2^w+8)<=4^b*(2^w+8):=xB _ (xE (by omega) (Nat.min_le_right _ _));have b1:(k+1)*(4^b*(2^w+8))<=2048*2^(w+45):=xJ (by omega) h40;have b2:2048*2^(w+45)=2^(w+56):=by rw[show w+56=11+(w+45) by omega,xN 2 11]
  have b3:2^(w+45)<=2^(w+56):=xE (by omega) (by omega);exact⟨lim_len_p2 (w:=w+56),lim_len_p2 (w:=w+56),lim_len_p2 (w:=w+56),lim_len_p2 (w:=w+56)⟩)
 have step:=fun (k t1 t2 s1 s2:Nat) (h:okR w b k t1 t2 s1 s2)=>okR_step (a:=a) hP16 y12 yH ha hb2 h
 have ly2:=lim_len_p2 yT;have w8:=ref4_Whole 8;rw[show (8:Int)=((8:Nat):Int) from rfl,intN_eq]at w8;have zx:=szR_of hv hL1;clear u1 u2 en yH hP one e1 e2 e3 e4 h40 hK hB;generalize unN x w=y1 at *
 generalize upN x w=y2 at *
 obtain⟨s0,n0,d0,rfl,hv2⟩:=hv;refine fni Tryz.f195 ?_;unfold Tryz.f195;repeat (first|simp only[go_sem]|simp (disch:=first|exact omg|fail) only[AX]|refine wki ?_|refine vpd 3 [] ?_|refine vpd 8 [] ?_|refine vpd 9 [] ?_|refine vfa ?_)
 refine vp_loop_inv (fun s=>s.tmp 0 = .sv (.int .i64 (a:Int))/\s.tmp 1 = .sv (.int .i64 (b:Int))/\s.tmp 3 = .sv (.int .i64 (w:Int))/\s.tmp 6 = .ptr 6 0 0/\s.obj 6 0=some [.bool s0,natV n0,natV d0]/\s.tmp 8 = .ptr 8 0 0/\s.obj 8 0=some [.bool false,.sl 0 [],.bool false,.sl 0 []] /\
   s.tmp 9 = .ptr 9 0 0/\s.obj 9 0=some [.bool false,natV (lim y1),.bool false,natV (lim y2)]/\s.tmp 11 = .ptr 11 0 0/\s.tmp 12 = .ptr 12 0 0 /\
   ∃f k t1 t2 s1 s2:Nat,s.tmp 13 = .sv (.int .i64 (k:Int))/\f+k=b+1401/\refGo w y1 y2 a b x f k t1 t2 s1 s2=some (A,B,K)/\s.obj 11 0=some [.bool false,natV (lim s1),.bool false,natV (lim s2)]/\s.obj 12 0=some [.bool false,natV (lim t1),.bool false,natV (lim t2)]/\okR w b k t1 t2 s1 s2)
  (fun s=>match s.tmp 13 with | .sv (.int _ i)=>b+1402-i.toNat|_=>0) ⟨rfl,rfl,rfl,rfl,rfl,rfl,rfl,rfl,rfl,rfl,rfl,_,0,_,_,_,_,rfl,by omega,hg,rfl,rfl,ok⟩ ?_
 rintro s ⟨i0,i1,i3,i6,o6,i8,o8,i9,o9,i11,i12,f,k,t1,t2,s1,s2,i13,hfk,hgo,o11,o12,hok⟩
 obtain⟨lt1,lt2,la1,la2⟩:=lens k t1 t2 s1 s2 (by omega) hok;have st:=step k t1 t2 s1 s2 hok;cases f with
 |zero=>simp only[refGo]at hgo;cases hgo
 |succ f=>
  obtain⟨lu1,lu2,lb1,lb2⟩:=lens (k+1) _ _ _ _ (by omega) st;have pr:=ref4_ProdN (a:=t1) (b:=t2) (c:=y1) (d:=y2) (w:=w) hok.1 y12;have P:0<2^w:=xM (by omega);have v12:t1*y1/2^w<=cdv (t2*y2) (2^w):=div_le_cdv P (xJ hok.1 y12);have v2:cdv (t2*y2) (2^w)<=t2:=cdv_le P (xF _ yT);have lv2:=lim_len_mono v2;have lv1:=lim_len_mono v12;have lq1:(lim (a+b+2*k)).length<=1:=lim_len_one;have z1:=lim_len_mul (a:=t1*y1/2^w) (b:=a+b+2*k);have z2:=lim_len_mul (a:=cdv (t2*y2) (2^w)) (b:=a+b+2*k);have of:=ref4_OftenN (a:=t1*y1/2^w) (b:=cdv (t2*y2) (2^w)) (n:=a+b+2*k)
  have by1:=ref4_ByN (a:=t1*y1/2^w*(a+b+2*k)) (b:=cdv (t2*y2) (2^w)*(a+b+2*k)) (n:=a+2+2*k);have u12:=st.1;rw[refGo]at hgo;generalize t1*y1/2^w=v1 at *
  generalize cdv (t2*y2) (2^w)=v2' at *
  generalize v1*(a+b+2*k)/(a+2+2*k)=u1 at *
  generalize cdv (v2'*(a+b+2*k)) (a+2+2*k)=u2 at *
  have sm:=ref4_SumNN (a:=s1) (b:=s2) (c:=u1) (d:=u2);have mo:=ref4_MostN (a:=u1) (b:=u2) u12;have cc:=ref4_MostN8 (b:=u2);have ec:decide (cmpZ ((u2:Nat):Int) ((8:Nat):Int)<=0)=decide (u2<=8):=by rw[cmpZ_le];exact decide_eq_decide.2 (by omega)
  generalize cmpZ ((u2:Nat):Int) ((8:Nat):Int)=z at *
  have j1:=ref2_Int ((4*(a+b+2*k+2):Nat):Int);have mu:=ref2_Mul (show RatA (ratV s0 n0 d0) x L from⟨s0,n0,d0,rfl,hv2⟩) (RatA_rv (int_szR (n:=((4*(a+b+2*k+2):Nat):Int))));have zm:=szR_mul zx (int_szR (n:=((4*(a+b+2*k+2):Nat):Int)));have j2:=ref2_Int ((3*(a+4+2*k):Nat):Int);have cm:=ref2_Cmp (RatA_rv zm) (RatA_rv (int_szR (n:=((3*(a+4+2*k):Nat):Int))));have ex:decide (cmpR (x*(((4*(a+b+2*k+2):Nat):Int):Rat)) (((3*(a+4+2*k):Nat):Int):Rat)<=0)=decide (x*(((4*(a+b+2*k+2):Nat):Int):Rat)<=(((3*(a+4+2*k):Nat):Int):Rat)):=cmpR_le
  generalize cmpR (x*(((4*(a+b+2*k+2):Nat):Int):Rat)) (((3*(a+4+2*k):Nat):Int):Rat)=zc at *
  generalize hX1:x*(((4*(a+b+2*k+2):Nat):Int):Rat)=X1 at *
  generalize hX2:((4*(a+b+2*k+2):Nat):Int)=N1 at *
  generalize hX3:((3*(a+4+2*k):Nat):Int)=N2 at *
  have wd:=ref4_WideN (a:=s1+u1) (b:=s2+u2) (n:=64) (by omega) (by omega) (by have:=st.2.2.1;omega);generalize hR1:(N1:Rat)=N1R at *
  generalize hR2:(N2:Rat)=N2R at *
  rw[<- hX2,show ((4*(a+b+2*k+2):Nat):Int)=4*((a:Int)+(b:Int)+2*(k:Int)+2) by omega]at j1;rw[<- hX3,show ((3*(a+4+2*k):Nat):Int)=3*((a:Int)+4+2*(k:Int)) by omega]at j2;clear lens step hg hX1 hX2 hX3 hR1 hR2 v12 u12 z1 z2;rw[show ((a+b+2*k:Nat):Int)=(a:Int)+(b:Int)+2*(k:Int) by omega]at of;rw[show ((a+2+2*k:Nat):Int)=(a:Int)+2+2*(k:Int) by omega]at by1;by_cases hu:u2<=8
  ·rw[decide_eq_true hu]at ec;by_cases hx:X1<=N2R
   ·rw[decide_eq_true hx]at ex;rw[if_pos ⟨hu,hx⟩]at hgo;simp only[Option.some.injEq,Prod.mk.injEq]at hgo;obtain⟨rfl,rfl,rfl⟩:=hgo;repeat (first|simp only[go_sem,i0,i1,i3,i6,o6,i8,o8,i9,o9,i11,i12,i13,o11,o12,ec,ex]|simp (disch:=first|exact omg|fail) only[AX,i0,i1,i3,i6,o6,i8,o8,i9,o9,i11,i12,i13,o11,o12,ec,ex]|refine wki ?_|refine vpd 3 [] ?_|refine vpd 8 [] ?_|refine vpd 9 [] ?_|refine vf_of (by first|exact pr|exact of|exact by1|exact sm|exact j1|exact mu|exact mo|exact w8|exact cc|exact j2|exact cm|exact wd) ?_)
   ·rw[decide_eq_false hx]at ex;rw[if_neg (fun h=>hx h.2)]at hgo;repeat (first|simp only[go_sem,i0,i1,i3,i6,o6,i8,o8,i9,o9,i11,i12,i13,o11,o12,ec,ex]|simp (disch:=first|exact omg|fail) only[AX,i0,i1,i3,i6,o6,i8,o8,i9,o9,i11,i12,i13,o11,o12,ec,ex]|refine wki ?_|refine vpd 3 [] ?_|refine vpd 8 [] ?_|refine vpd 9 [] ?_|refine vf_of (by first|exact pr|exact of|exact by1|exact sm|exact j1|exact mu|exact mo|exact w8|exact cc|exact j2|exact cm) ?_)
    exact⟨⟨f,k+1,u1,u2,s1+u1,s2+u2,rfl,by omega,hgo,rfl,rfl,st⟩,by omega⟩
  ·rw[decide_eq_false hu]at ec;rw[if_neg (fun h=>hu h.1)]at hgo;repeat (first|simp only[go_sem,i0,i1,i3,i6,o6,i8,o8,i9,o9,i11,i12,i13,o11,o12,ec]|simp (disch:=first|exact omg|fail) only[AX,i0,i1,i3,i6,o6,i8,o8,i9,o9,i11,i12,i13,o11,o12,ec]|refine wki ?_|refine vpd 3 [] ?_|refine vpd 8 [] ?_|refine vpd 9 [] ?_|refine vf_of (by first|exact pr|exact of|exact by1|exact sm|exact j1|exact mu|exact mo|exact w8|exact cc) ?_)
   exact⟨⟨f,k+1,u1,u2,s1+u1,s2+u2,rfl,by omega,hgo,rfl,rfl,st⟩,by omega⟩
end
end Go.Proofs.YtfknkoeagjonbaaGreat
namespace Go.Proofs.YtfknkoeagjonbaaGreat
open Go.Ev
theorem ref9_product (a b c:Nat) (to:Int) (ha:1<=a:=by omega) (hb:1<=b:=by omega) (h1:c=0\/((a+(c-1)*b:Nat):Int)<=to:=by omega) (h2:to<((a+c*b:Nat):Int):=by omega) (hto:to<=1073741824:=by omega) (hto0 : -9223372036854775808<=to:=by omega) (hc:c<=1048576:=by omega) (hab:a<=1073741824:=by omega) (hbb:b<=1073741824:=by omega) :
  Go.Ev.Fn CX 298 [.int .i64 (a:Int),.int .i64 to,.int .i64 (b:Int)] (natV (lim (prodN a b c))):=by
 have hle : ∀i,i<c->((a+i*b:Nat):Int)<=to:=by
  intro i hi;rcases h1 with h|h
  ·omega
  ·have:i*b<=(c-1)*b:=xB _ (by omega);omega
 have hlen : ∀i,i<=c->(lim (prodN a b i)).length<=i+1:=fun i hi=>prodN_len fun j hj=>by have:=hle j (by omega);omega
 refine fni Tryz.f298 ?_;unfold Tryz.f298;repeat (first|simp only[go_sem]|simp (disch:=first|exact omg|fail) only[AX]|refine wki ?_)
 refine vp_loop_inv (fun s=>s.tmp 1 = .sv (.int .i64 to)/\s.tmp 2 = .sv (.int .i64 (b:Int)) /\ ∃i:Nat,s.tmp 8 = .sv (.int .i64 ((a+i*b:Nat):Int))/\RowL s 7 9 (prodN a b i)/\i<=c)
  (fun s=>match s.tmp 8 with | .sv (.int _ n)=>(to+1-n).toNat|_=>0) ⟨rfl,rfl,0,by rw[zM,yJ];rfl,.inr ⟨rfl,rfl,rfl⟩,by omega⟩ ?_
 rintro s ⟨i1,i2,i,i8,hR,hi⟩
 by_cases hend:i=c
 ·subst hend;have hlt : ¬((a+i*b:Nat):Int)<=to:=by omega
  rcases hR with i7|⟨hv,i7,iO⟩
  ·repeat (first|simp only[go_sem,i1,i2,i8,i7]|simp (disch:=first|exact omg|fail) only[AX,i1,i2,i8,i7]|refine wki ?_)
  ·rw[hv,lim_one];repeat (first|simp only[go_sem,i1,i2,i8,i7]|simp (disch:=first|exact omg|fail) only[AX,i1,i2,i8,i7]|refine wki ?_)
   exact ro_ref (cs:=[.int .u32 1]) (by decide) iO rfl
 ·have h3:=hle i (by omega);have hl:=hlen i hi;have oN:=ref1_Of (a+i*b);have hl2:=lim_len_one (a:=a+i*b);have hn:a+(i+1)*b=a+i*b+b:=by rw[xY,xe,zX]
  have hnew:prodN a b (i+1)=prodN a b i*(a+i*b):=rfl;generalize hv:a+i*b=v at *
  have hM:=ref1_MulL (N:=prodN a b i) (D:=v);rcases hR with i7|⟨hv1,i7,iO⟩
  ·repeat (first|simp only[go_sem,i1,i2,i8,i7]|simp (disch:=first|exact omg|fail) only[AX,i1,i2,i8,i7]|refine wki ?_)
   repeat (first|simp only[go_sem,i1,i2,i8,i7]|simp (disch:=first|exact omg|fail) only[AX,i1,i2,i8,i7]|refine wki ?_|refine vfa ?_)
   refine⟨⟨i+1,by rw[hn],.inl (by rw[hnew];rfl),by omega⟩,by omega⟩
  ·rw[hv1,lim_one]at hM;repeat (first|simp only[go_sem,i1,i2,i8,i7,iO,N0]|simp (disch:=first|exact omg|fail) only[AX,i1,i2,i8,i7,iO,N0]|refine wki ?_|refine vfa ?_)
   refine⟨⟨i+1,by rw[hn],.inl (by rw[hnew,hv1];rfl),by omega⟩,by omega⟩
def capN (n:Int):Nat:=(if 512<n then 512 else n).toNat
theorem fac_len {k:Nat} (h:k<=1048576:=by omega):(lim (facN k)).length<=k+1:=prodN_len fun i hi=>by omega
theorem ref9_Factorial (n:Int) (hn : -9223372036854775808<=n:=by omega):Go.Ev.Fn CX 297 [.int .i64 n] (rv (facN (capN n):Rat)):=by
 have hcap:capN n<=512:=by unfold capN;split<;>omega
 have hr:=ref9_product 1 1 (capN n) (if 512<n then 512 else n) (by omega) (by omega) (by unfold capN;split<;>omega) (by unfold capN;split<;>omega) (by split<;>omega) (by split<;>omega);have hl:=fac_len (k:=capN n);have hOf:=ref2_OfL (s:=false) (n:=facN (capN n)) (d:=1) (by omega) (by have:=lim_len1;omega);rw[show mkRat (sgn false (facN (capN n))) 1=(facN (capN n):Rat) from Rat.mkRat_one _,lim_one]at hOf;refine fni Tryz.f297 ?_;unfold Tryz.f297;repeat (first|simp only[go_sem]|simp (disch:=first|exact omg|fail) only[AX]|refine wki ?_|refine vfa ?_)
theorem prod_odd {n:Nat} (h:n%2=1):prodN 1 2 ((n-1)/2)=prodN 3 2 ((n-3)/2):=by
 rcases xk n 3 with h1|h1
 ·obtain rfl:n=1:=by omega
  rfl
 ·obtain⟨k,hk⟩ : ∃k,(n-1)/2=k+1:=⟨(n-3)/2,by omega⟩
  rw[hk,prodN_front,xe,show (n-3)/2=k by omega]
theorem ref9_Half (n:Nat) (h1:1<=n:=by omega) (h:n<=512:=by omega):Go.Ev.Fn CX 250 [.int .i64 (n:Int)] (.tup [rv (gam2 n),.int .i64 (n%2:Nat),.bool true]):=by
 have hu:(n:Int).tmod 2=((n%2:Nat):Int):=rfl;have hd:((n:Int)).tdiv 2=((n/2:Nat):Int):=rfl;by_cases h0:n%2=0
 ·have hF:=ref9_Factorial ((n/2-1:Nat):Int);rw[show capN ((n/2-1:Nat):Int)=n/2-1 by unfold capN;rw[if_neg (by omega)];omega,<- facN_two,show n/2-1-1=n/2-2 by omega]at hF;rw[show gam2 n=((prodN 2 1 (n/2-2):Nat):Rat) from if_pos h0,h0];rw[h0]at hu;refine fni Tryz.f250 ?_;unfold Tryz.f250;repeat (first|simp only[go_sem,hu,hd]|simp (disch:=first|exact omg|fail) only[AX,hu,hd]|refine wki ?_|refine vfa ?_)
  rfl
 ·have hr:=ref9_product 1 2 ((n-1)/2) ((n:Int)-2);have hl:=prodN_len (a:=3) (b:=2) (c:=(n-3)/2) (fun i hi=>by omega);have h01:n%2=1:=by omega
  rw[prod_odd h01]at hr;have hS:=ref1_shift_up [1] (n/2) (by simp[okL]) (by simp) ((n/2:Nat):Int) rfl;rw[show wth [1]=1 from rfl,xe]at hS;have hp:=pow_len (n/2);have hOf:=ref2_OfL (s:=false) (n:=prodN 3 2 ((n-3)/2)) (d:=2^(n/2));rw[show gam2 n=mkRat (prodN 3 2 ((n-3)/2):Nat) (2^(n/2)) from if_neg h0,h01];rw[h01]at hu;refine fni Tryz.f250 ?_;unfold Tryz.f250;repeat (first|simp only[go_sem,hu,hd]|simp (disch:=first|exact omg|fail) only[AX,hu,hd]|refine wki ?_|refine vfa ?_)
  exact⟨rfl,rfl⟩
theorem ref9_Beta (a b:Nat) (ha:1<=a) (ha2:a<=256) (hb:1<=b) (hb2:b<=256:=by omega):Go.Ev.Fn CX 189 [.int .i64 (a:Int),.int .i64 (b:Int)] (.tup [rv (beta2 a b),.int .i64 (a%2*(b%2):Nat),.bool true]):=by
 have g1:=ref9_Half a ha;have g2:=ref9_Half b hb;have g3:=ref9_Half (a+b);have z1:=gam2_size (n:=a);have z2:=gam2_size (n:=b);have z3:=gam2_size (n:=a+b);have m1:=ref2_Mul (RatA_rv z1) (RatA_rv z2);have d1:=ref2_Div (RatA_rv (szR_mul z1 z2)) (RatA_rv z3);rw[decide_eq_true (gam2_pos (n:=a+b)),show gam2 a*gam2 b/gam2 (a+b)=beta2 a b from rfl]at d1;have e1:((a%2+b%2:Nat):Int).tdiv 2=((a%2*(b%2):Nat):Int):=by
  rw[show ((a%2+b%2:Nat):Int).tdiv 2=(((a%2+b%2)/2:Nat):Int) from rfl];rcases wB a with ha|ha<;>rcases wB b with hb|hb<;>rw[ha,hb]
 have hk:a%2*(b%2)<=1:=by
  rcases wB a with ha|ha<;>rcases wB b with hb|hb<;>rw[ha,hb]<;>decide
 generalize hx:a%2*(b%2)=x at *
 refine fni Tryz.f189 ?_;unfold Tryz.f189;repeat (first|simp only[go_sem,e1]|simp (disch:=first|exact omg|fail) only[AX,e1]|refine wki ?_|refine vpd 6 [] ?_|refine vfa ?_)
end Go.Proofs.YtfknkoeagjonbaaGreat
namespace Go.Proofs.YtfknkoeagjonbaaGreat
open Go.Ev
def ivOk3 (w:Nat):Bool:=match piIv w with
 |some (lo,hi)=>Nat.ble (2^w) lo&&Nat.ble hi (2^(w+3))
 |none=>false
theorem iv_ok3:allFrom ivOk3 201 340=true:=by kernel_rfl
theorem ref8_Pi2 {w:Nat} (h1:340<=w) (h2:w<=540:=by omega) : ∃lo hi:Nat,Go.Ev.Fn CX 193 [.int .i64 (w:Int)] (ivN lo hi)/\Enc w lo hi PI0/\2^w<=lo/\lo<=hi/\(lim hi).length<=1000:=by
 have h:=allFrom_at iv_ok2 w (by omega) (by omega);have h3:=allFrom_at iv_ok3 w h1 (by omega);unfold ivOk2 at h;unfold ivOk3 at h3;split at h
 ·rename_i lo hi hpi;rw[hpi]at h3;rw[xj]at h;have k1:=yC h.1;have k2:=yC h.2;have h4:(Nat.ble (2^w) lo&&Nat.ble hi (2^(w+3)))=true:=h3;rw[xj]at h4;have k3:2^w<=lo:=yC h4.1;have k4:=lim_len_p2 (yC h4.2);refine⟨lo,hi,ref8_PiIv (by omega) hpi,⟨pi_lo (by omega) k1,pi_hi (by omega) k2⟩,k3,yw (xG k1 k2) (xM (by omega)),by omega⟩
 ·cases h
theorem ref4_InvN {a b w:Nat} (ha:0<a) (hab:a<=b) (hb:(lim b).length<=100000:=by omega) (hw:w<=2000:=by omega):Go.Ev.Fn CX 192 [ivN a b,.int .i64 (w:Int)] (ivN (2^(2*w)/b) (cdv (2^(2*w)) a)):=by
 have p:=ref4_pow2 (n:=2*w);have l:=lim_len_shl (a:=1) (n:=2*w);have l1:=lim_len1;rw[xe]at l;have f1:=ref4_Fall ((2^(2*w):Nat):Int) b (by omega) (by rw[xK];omega);have f2:=ref4_Rise ((2^(2*w):Nat):Int) a (by omega) (by rw[xK];omega) (xG (lim_len_mono hab) (by omega));rw[cdZ_nat ha,intN_eq,intN_eq]at f2;rw[<- wc,intN_eq,intN_eq]at f1;rw[show ((2*w:Nat):Int)=2*(w:Int) by omega]at p;generalize 2^(2*w)/b=x at *
 generalize cdv (2^(2*w)) a=y at *
 generalize 2^(2*w)=P at *
 refine fni Tryz.f192 ?_;unfold Tryz.f192;repeat (first|simp only[go_sem]|simp (disch:=first|exact omg|fail) only[AX]|refine wki ?_|refine vpd 2 [13,18] ?_|refine vfa ?_)
theorem enc_invN {a b w:Nat} {q:Rat} (ha:0<a) (h:Enc w a b q):Enc w (2^(2*w)/b) (cdv (2^(2*w)) a) (1/q):=by
 obtain⟨⟨k1,-⟩,q0⟩:=enc_inv ha h;refine⟨k1,?_⟩;have aR:(0:Rat)<(a:Rat):=by exact_mod_cast ha
 have P:=p2_pos w;have g:=cdv_geR (2^(2*w)) ha;have e0:((2^(2*w):Nat):Rat)=p2 w*p2 w:=by rw[<- p2_plus,show w+w=2*w by omega]
 rw[e0]at g;have iq:1/q*q=1:=yD (by grind);have i0:0<=1/q:=by
  rcases zV (a:=0) (b:=1/q) with k|k
  ·exact k
  ·have:=xA k (show 0<=q by grind);grind
 generalize 1/q=i at *
 refine le_by aR ?_;have k1:=xI h.1 (show 0<=i*p2 w from xL i0 (by grind));have k2:i*p2 w*(q*p2 w)=p2 w*p2 w:=by
  have:i*p2 w*(q*p2 w)=i*q*(p2 w*p2 w):=by grind
  rw[this,iq,yK]
 grind
theorem sR_top2 {x:Rat} {a b K:Nat} (h0:0<=x) (h1:x+x<=1) (hK:x*(((4*(a+b+2*K):Nat):Int):Rat)<=(((3*(a+2+2*K):Nat):Int):Rat)) (j:Nat) :
  sR x a b (K+j)+3*rR x a b (K+j)<=sR x a b K+3*rR x a b K/\x*(((4*(a+b+2*(K+j)):Nat):Int):Rat)<=(((3*(a+2+2*(K+j)):Nat):Int):Rat):=by
 induction j with
 |zero=>exact⟨xi,hK⟩
 |succ j ih=>
  obtain⟨i1,i2⟩:=ih;have M:(0:Rat)<((a+2+2*(K+j):Nat):Rat):=by exact_mod_cast (show 0<a+2+2*(K+j) by omega)
  have e:=rR_step (x:=x) (a:=a) (b:=b) (K+j);have r0:=rR_nn (a:=a) (b:=b) h0 (K+j);have c1:(((4*(a+b+2*(K+j)):Nat):Int):Rat)=4*((a+b+2*(K+j):Nat):Rat):=by
   have:(((4*(a+b+2*(K+j)):Nat):Int):Rat)=((4*(a+b+2*(K+j)):Nat):Rat):=rfl;rw[this];exact_mod_cast rfl
  have c2:(((3*(a+2+2*(K+j)):Nat):Int):Rat)=3*((a+2+2*(K+j):Nat):Rat):=by
   have:(((3*(a+2+2*(K+j)):Nat):Int):Rat)=((3*(a+2+2*(K+j)):Nat):Rat):=rfl;rw[this];exact_mod_cast rfl
  have c3:(((4*(a+b+2*(K+(j+1))):Nat):Int):Rat)=4*((a+b+2*(K+j):Nat):Rat)+8:=by
   have:(((4*(a+b+2*(K+(j+1))):Nat):Int):Rat)=((4*(a+b+2*(K+j))+8:Nat):Rat):=by congr 2
   rw[this];exact_mod_cast rfl
  have c4:(((3*(a+2+2*(K+(j+1))):Nat):Int):Rat)=3*((a+2+2*(K+j):Nat):Rat)+6:=by
   have:(((3*(a+2+2*(K+(j+1))):Nat):Int):Rat)=((3*(a+2+2*(K+j))+6:Nat):Rat):=by congr 2
   rw[this];exact_mod_cast rfl
  rw[c1,c2]at i2;refine⟨?_,by rw[c3,c4];grind⟩;refine xO ?_ i1;show sR x a b (K+j)+rR x a b (K+j+1)+3*rR x a b (K+j+1)<=_;have key:4*rR x a b (K+j+1)<=3*rR x a b (K+j):=by
   clear i1 c1 c2 c3 c4 hK;generalize ((a+2+2*(K+j):Nat):Rat)=m at *
   generalize ((a+b+2*(K+j):Nat):Rat)=n at *
   generalize rR x a b (K+j+1)=r' at *
   generalize rR x a b (K+j)=r at *
   refine le_by M ?_;have k1:=xI i2 r0;have e1:4*r'*m=r*(x*(4*n)):=by
    have:4*r'*m=4*(r'*m):=by grind
    rw[this,e];grind
   rw[e1];have e2:3*r*m=r*(3*m):=by grind
   rw[e2];exact k1
  grind
theorem quo_is {r:Rat} {a:Nat} (h:0<r.num.natAbs*a) (hr:0<=r):2/(r*((a:Int):Rat))=((r.den*2:Nat):Rat)/((r.num.natAbs*a:Nat):Rat):=by
 have N:(0:Rat)<((r.num.natAbs*a:Nat):Rat):=by exact_mod_cast h
 have D:(0:Rat)<(r.den:Rat):=by exact_mod_cast r.den_pos
 have h2:((r.num.natAbs:Nat):Rat)=r*(r.den:Rat):=by
  rw[num_den r,<- num_abs hr];rfl
 have c1:((r.num.natAbs*a:Nat):Rat)=r*(r.den:Rat)*(a:Rat):=by rw[<- h2];exact_mod_cast rfl
 have c2:((r.den*2:Nat):Rat)=(r.den:Rat)*2:=by exact_mod_cast rfl
 have ca:(((a:Int)):Rat)=(a:Rat):=rfl;rw[c1]at N;rw[c1,c2,ca];generalize (r.den:Rat)=d at *
 generalize (a:Rat)=x at *
 have nz:r*x≠0:=by
  intro e;have:r*d*x=r*x*d:=by grind
  rw[this,e]at N;grind
 have e1:=yD (a:=2) (b:=r*x) nz;have e2:=yD (a:=d*2) (b:=r*d*x) (by grind);generalize 2/(r*x)=u at *
 generalize d*2/(r*d*x)=v at *
 have e3:(u-v)*(r*d*x)=0:=by grind
 rcases Rat.mul_eq_zero.1 e3 with g|g
 ·grind
 ·grind
end Go.Proofs.YtfknkoeagjonbaaGreat
namespace Go.Proofs.YtfknkoeagjonbaaGreat
open Go.Ev
theorem cdv_self (a:Nat) {d:Nat} (hd:0<d):cdv a d<=a:=cdv_le hd (yg _ hd)
theorem prod_le {b d w x y:Nat} (h1:b<=2^x) (h2:d<=2^(w+y)):cdv (b*d) (2^w)<=2^(x+y):=by
 refine cdv_le (xM (by omega)) ?_;have:=xJ h1 h2;rw[<- xN]at this;rw[<- xN,show x+y+w=x+(w+y) by omega];exact this
theorem gam2_nn (n:Nat):0<=gam2 n:=by
 unfold gam2;split
 ·exact nat_nonneg _
 ·have P:=p2_pos (n/2);exact le_by P (by rw[mk_p2n,yM];exact nat_nonneg _)
theorem beta2_nn (a b:Nat):0<=beta2 a b:=by
 unfold beta2;have h:=gam2_nn (a+b);have h2:0<gam2 (a+b):=by have:=gam2_pos (n:=a+b);grind
 rw[xv];exact xL (xL (gam2_nn a) (gam2_nn b)) (by have:=wi.2 h2;grind)
theorem enc_backN {w A B n:Nat} {q:Rat} (h:Enc (w+n) A B q):Enc w (A/2^n) (cdv B (2^n)) q:=by
 have P:=p2_pos n;have f:=floor_le (a:=A) (d:=2^n);have g:=cdv_geR B (show 0<2^n from xM (by omega));obtain⟨h1,h2⟩:=h;rw[p2_plus]at h1 h2;refine⟨le_by P ?_,le_by P ?_⟩
 ·have e:q*p2 w*p2 n=q*(p2 w*p2 n):=by grind
  rw[e];exact xO f h1
 ·have e:q*p2 w*p2 n=q*(p2 w*p2 n):=by grind
  rw[e];exact xO h2 g
section
variable {v:SV} {x:Rat} {w L a b:Nat}
set_option maxHeartbeats 2000000 in
theorem ref12_core (hv:RatA v x L) (hL1:1<=L) (hL:L<=260) (ha:1<=a) (ha2:a<=22) (hb:1<=b) (hb2:b<=22) (h0:0<=x) (h1:x+x<=1) (hw0:40<=w) (hw:w<=200) :
  ∃A B K:Nat,∃p1 p2' q1 q2:Rat,Go.Ev.Fn CX 120 [.int .i64 (a:Int),.int .i64 (b:Int),v,.int .i64 (w:Int)] (ivN A B)/\A<=B/\B<=2^(w+400) /\
   0<=p1/\p1*p1<=x/\0<=p2'/\x<=p2'*p2'/\0<=q1/\q1*q1<=1-x/\0<=q2/\1-x<=q2*q2 /\
   ∀sx sy,p1<=sx->sx<=p2'->q1<=sy->sy<=q2 -> ∀M,K<=M->Enc w A B (fstR a b x sx sy*sR x a b M):=by
 obtain⟨W,hW,hw1,hw2,hwi⟩ : ∃W:Nat,(∀Q:Nat->Prop,Q W->Q (w+300))/\340<=W/\W<=500/\(w:Int)+300=(W:Int):=⟨w+300,fun Q h=>h,by omega,by omega,rfl⟩
 have zx:=szR_of hv hL1;have zy:=szR_sub one_szR' zx;have hP:2^60<=2^W:=xE (n:=2) (by omega) (by omega);obtain⟨X1,X2,p1,p2',fx,x1,x2,a0,a1,a2,a3,ex⟩:=ref12_power (n:=a) (w:=W) hv hL1 (by omega) h0 (show x<=1 by clear hW;grind);obtain⟨Y1,Y2,q1,q2,fy,y1,y2,b0,b1,b2,b3,ey⟩:=ref12_power (n:=b) (w:=W) (RatA_rv zy) (by omega) (by omega) (show 0<=1-x by clear fx ex;grind) (show 1-x<=1 by clear fx ex;grind);obtain⟨A0,B0,K,fr,r1,r2,r3,r4,r5⟩:=ref12_row (w:=W) hv hL1 (by omega) ha ha2 hb hb2 h0 h1;have er : ∀M,K<=M->Enc W A0 B0 (sR x a b M):=by
  intro M hM;have P:=p2_pos W;obtain⟨j,rfl⟩:=wX hM;refine⟨xO r3 (xA (sR_up h0 hM) (xX P)),xO (xA ?_ (xX P)) r4⟩;have:=(sR_top2 h0 h1 r5 j).1;have n:=rR_nn (a:=a) (b:=b) h0 (K+j);grind
 have hp1:2^(W+1)=2*2^W:=by rw[xW,xV]
 have X2':X2<=2^(W+1):=by omega
 have Y2':Y2<=2^(W+1):=by omega
 have lX2:=lim_len_p2 X2';have lY2:=lim_len_p2 Y2';have pr1:=ref4_ProdN (a:=X1) (b:=X2) (c:=Y1) (d:=Y2) (w:=W) x1 y1;have P0:0<2^W:=xM (by omega);have m12:X1*Y1/2^W<=cdv (X2*Y2) (2^W):=div_le_cdv P0 (xJ x1 y1);have mT:cdv (X2*Y2) (2^W)<=2^(W+1+1):=prod_le (y:=1) X2' Y2';have em:=fun sx sy (u1:p1<=sx) (u2:sx<=p2') (v1:q1<=sy) (v2:sy<=q2)=>enc_prodN (ex sx u1 u2) (ey sy v1 v2)
 generalize X1*Y1/2^W=M1 at *
 generalize cdv (X2*Y2) (2^W)=M2 at *
 have lM2:=lim_len_p2 mT;have be:=ref9_Beta a b ha (by omega) hb;obtain⟨c1,c2⟩:=bet_ok ha hb ha2 hb2;have zb:=beta2_size (a:=a) (b:=b);have bnn:0<=beta2 a b:=beta2_nn a b;have qi:=quo_is c2 bnn;have i2:=ref2_Int 2;have ia:=ref2_Int (a:Int);have i1:=ref2_Int 1;have mu:=ref2_Mul (RatA_rv zb) (RatA_rv (int_szR (n:=(a:Int))));have zm:=szR_mul zb (int_szR (n:=(a:Int)));have di:=ref2_Div (RatA_rv (int_szR (n:=2))) (RatA_rv zm);have zq:=szR_div (int_szR (n:=2)) zm;have sb:=ref2_Sub (RatA_rv (int_szR (n:=1))) hv (by omega) hL1;rw[show ((1:Int):Rat)=1 from rfl]at i1 sb
 rw[show ((2:Int):Rat)=2 from rfl]at i2 di zq;have qnn:0<=2/(beta2 a b*((a:Int):Rat)):=by
  have N:(0:Rat)<(((beta2 a b).num.natAbs*a:Nat):Rat):=by exact_mod_cast c2
  rw[qi,xv];exact xL (nat_nonneg _) (by have:=wi.2 N;grind)
 have qT:upN (2/(beta2 a b*((a:Int):Rat))) W<=2^(W+20):=by
  refine upN_le (n:=1048576) (m:=1) qnn ?_ (by rw[xN];omega);have N:(0:Rat)<(((beta2 a b).num.natAbs*a:Nat):Rat):=by exact_mod_cast c2
  refine le_by N ?_;rw[qi];have e1:=yD (a:=(((beta2 a b).den*2:Nat):Rat)) (b:=(((beta2 a b).num.natAbs*a:Nat):Rat)) (by grind);have e2:=nat_le_rat c1;have e3:((1048576*((beta2 a b).num.natAbs*a):Nat):Rat)=((1048576:Nat):Rat)*(((beta2 a b).num.natAbs*a:Nat):Rat):=by exact_mod_cast rfl
  rw[e3,<- e1]at e2;have one:((1:Nat):Rat)=1:=rfl;rw[one,yr];exact e2
 have nq:=ref4_NumN (w:=W) (RatA_rv zq) (by omega) (by omega) (by omega) qnn;have eq:=num_enc qnn W;have q12:=un_up (q:=2/(beta2 a b*((a:Int):Rat))) W;have lq:=lim_len_p2 qT;have pr2:=ref4_ProdN (a:=M1) (b:=M2) (c:=unN (2/(beta2 a b*((a:Int):Rat))) W) (d:=upN (2/(beta2 a b*((a:Int):Rat))) W) (w:=W) m12 q12;have et:=fun sx sy (u1:p1<=sx) (u2:sx<=p2') (v1:q1<=sy) (v2:sy<=q2)=>enc_prodN (em sx sy u1 u2 v1 v2) eq
 have n12:=div_le_cdv (d:=2^W) P0 (xJ m12 q12);have nT:cdv (M2*upN (2/(beta2 a b*((a:Int):Rat))) W) (2^W)<=2^(W+1+1+20):=prod_le mT qT;have hbe : ∃be2,be2=beta2 a b:=⟨_,rfl⟩
 obtain⟨be2,hbe⟩:=hbe;have fst : ∀sx sy,(if a%2*(b%2)=1 then 1/PI0 else 1)*(pwR x (a/2)*(if a%2=1 then sx else 1)*(pwR (1-x) (b/2)*(if b%2=1 then sy else 1))*(2/(beta2 a b*((a:Int):Rat))))=fstR a b x sx sy:=by
  intro sx sy;rw[qi];unfold fstR;rw[xv,xv];grind
 generalize 2/(beta2 a b*((a:Int):Rat))=Q at *
 generalize M1*unN Q W/2^W=N1 at *
 generalize cdv (M2*upN Q W) (2^W)=N2 at *
 generalize unN Q W=U1 at *
 generalize upN Q W=U2 at *
 have lN2:=lim_len_p2 nT;have nT':=nT;have lB0:=lim_len_p2 r2;rw[hbe.symm]at be mu di;generalize be2*((a:Int):Rat)=mq at *
 clear em qi c1 c2 zb bnn zm zq qnn eq r3 r4 r5 mT nT qT X2' Y2' x2 y2;by_cases hpi:a%2*(b%2)=1
 ·obtain⟨PL,PH,fp,pe,pl,plh,PHl⟩:=ref8_Pi2 (w:=W) hw1;have be':Go.Ev.Fn CX 189 [.int .i64 (a:Int),.int .i64 (b:Int)] (.tup [rv be2,.int .i64 1,.bool true]):=by
   rw[hpi]at be;exact be
  have PL0:0<PL:=by omega
  have pp:2^(2*W)=2^W*2^W:=by rw[<- xN,show 2*W=W+W by omega]
  have ig:=ref4_InvN (a:=PL) (b:=PH) (w:=W) PL0 plh;have ei:=enc_invN PL0 pe;have i12:2^(2*W)/PH<=cdv (2^(2*W)) PL:=xG (Nat.div_le_div_left plh PL0) (div_le_cdv PL0 (xU _));have iT:cdv (2^(2*W)) PL<=2^W:=cdv_le PL0 (by rw[pp];exact xF _ pl);have lI:=lim_len_p2 iT;generalize 2^(2*W)/PH=I1 at *
  generalize cdv (2^(2*W)) PL=I2 at *
  have pr4:=ref4_ProdN (a:=N1) (b:=N2) (c:=I1) (d:=I2) (w:=W) n12 i12;have r12:=div_le_cdv (d:=2^W) P0 (xJ n12 i12);have rT:cdv (N2*I2) (2^W)<=2^(W+1+1+20):=xG (cdv_le P0 (xF _ iT)) nT';have eG:=fun sx sy (u1:p1<=sx) (u2:sx<=p2') (v1:q1<=sy) (v2:sy<=q2)=>enc_prodN (et sx sy u1 u2 v1 v2) ei
  generalize N1*I1/2^W=R1 at *
  generalize cdv (N2*I2) (2^W)=R2 at *
  have lR2:=lim_len_p2 rT;have pr3:=ref4_ProdN (a:=R1) (b:=R2) (c:=A0) (d:=B0) (w:=W) r12 r1;have z12:=div_le_cdv (d:=2^W) P0 (xJ r12 r1);have lz:=lim_len_mul (a:=R2) (b:=B0);have lz2:=lim_len_mono (cdv_self (R2*B0) P0);have eF:=fun sx sy (u1:p1<=sx) (u2:sx<=p2') (v1:q1<=sy) (v2:sy<=q2) M (hM:K<=M)=>enc_prodN (eG sx sy u1 u2 v1 v2) (er M hM)
  have zT:cdv (R2*B0) (2^W)<=2^(W+1+1+20+64):=prod_le rT r2;generalize R1*A0/2^W=Z1 at *
  generalize cdv (R2*B0) (2^W)=Z2 at *
  have bk:=ref4_BackN (a:=Z1) (b:=Z2) (n:=300) (xG (lim_len_mono z12) (by omega));have zT':Z2<=2^(w+400):=xG zT (xE (by omega) (by omega));have oT:cdv Z2 (2^300)<=2^(w+400):=xG (cdv_self Z2 (Nat.two_pow_pos 300)) zT';have o12:=div_le_cdv (d:=2^300) (Nat.two_pow_pos 300) z12;refine⟨_,_,K,p1,p2',q1,q2,?_,o12,oT,a0,a1,a2,a3,b0,b1,b2,b3,?_⟩;rotate_left
  ·intro sx sy u1 u2 v1 v2 M hM;have h:=eF sx sy u1 u2 v1 v2 M hM;have f:=fst sx sy;rw[if_pos hpi,wM (1/PI0)]at f;rw[f]at h;exact enc_backN (w:=w) (n:=300) (hW (fun W=>Enc W Z1 Z2 (fstR a b x sx sy*sR x a b M)) h)
  clear eG eF er et ex ey fst oT zT zT' ei pe a0 a1 a2 a3 b0 b1 b2 b3;generalize 1-x=y at *
  generalize cdv Z2 (2^300)=O2 at *
  generalize Z1/2^300=O1 at *
  obtain⟨s0,n0,d0,rfl,-⟩:=hv;refine fni Tryz.f120 ?_;unfold Tryz.f120;repeat (first|simp only[go_sem,hwi]|simp (disch:=first|exact omg|fail) only[AX,hwi]|refine wki ?_|refine vpd 3 [] ?_|refine vpd 4 [] ?_|refine vpd 5 [] ?_|refine vpd 7 [] ?_|refine vpd 8 [] ?_|refine vfa ?_)
 ·have be':Go.Ev.Fn CX 189 [.int .i64 (a:Int),.int .i64 (b:Int)] (.tup [rv be2,.int .i64 0,.bool true]):=by
   have:a%2*(b%2)=0:=by
    have x1:a%2<=1:=by omega
    have x2:b%2<=1:=by omega
    have:=xJ x1 x2;omega
   rw[this]at be;exact be
  have pr3:=ref4_ProdN (a:=N1) (b:=N2) (c:=A0) (d:=B0) (w:=W) n12 r1;have z12:=div_le_cdv (d:=2^W) P0 (xJ n12 r1);have lz:=lim_len_mul (a:=N2) (b:=B0);have lz2:=lim_len_mono (cdv_self (N2*B0) P0);have eF:=fun sx sy (u1:p1<=sx) (u2:sx<=p2') (v1:q1<=sy) (v2:sy<=q2) M (hM:K<=M)=>enc_prodN (et sx sy u1 u2 v1 v2) (er M hM)
  have zT:cdv (N2*B0) (2^W)<=2^(W+1+1+20+64):=prod_le nT' r2;generalize N1*A0/2^W=Z1 at *
  generalize cdv (N2*B0) (2^W)=Z2 at *
  have bk:=ref4_BackN (a:=Z1) (b:=Z2) (n:=300) (xG (lim_len_mono z12) (by omega));have zT':Z2<=2^(w+400):=xG zT (xE (by omega) (by omega));have oT:cdv Z2 (2^300)<=2^(w+400):=xG (cdv_self Z2 (Nat.two_pow_pos 300)) zT';have o12:=div_le_cdv (d:=2^300) (Nat.two_pow_pos 300) z12;refine⟨_,_,K,p1,p2',q1,q2,?_,o12,oT,a0,a1,a2,a3,b0,b1,b2,b3,?_⟩;rotate_left
  ·intro sx sy u1 u2 v1 v2 M hM;have h:=eF sx sy u1 u2 v1 v2 M hM;have f:=fst sx sy;rw[if_neg hpi,yK]at f;rw[f]at h;exact enc_backN (w:=w) (n:=300) (hW (fun W=>Enc W Z1 Z2 (fstR a b x sx sy*sR x a b M)) h)
  clear eF er et ex ey fst oT zT zT' a0 a1 a2 a3 b0 b1 b2 b3;generalize 1-x=y at *
  generalize cdv Z2 (2^300)=O2 at *
  generalize Z1/2^300=O1 at *
  obtain⟨s0,n0,d0,rfl,-⟩:=hv;refine fni Tryz.f120 ?_;unfold Tryz.f120;repeat (first|simp only[go_sem,hwi]|simp (disch:=first|exact omg|fail) only[AX,hwi]|refine wki ?_|refine vpd 3 [] ?_|refine vpd 4 [] ?_|refine vpd 5 [] ?_|refine vpd 7 [] ?_|refine vpd 8 [] ?_|refine vfa ?_)
end
end Go.Proofs.YtfknkoeagjonbaaGreat
namespace Go.Proofs.YtfknkoeagjonbaaGreat
open Go.Ev
theorem ref10_Hold {p:Nat} (hp:p<=200:=by omega):Go.Ev.Fn CX 118 [.int .i64 (p:Int)] (.int .i64 (p:Int)):=by
 have e1:(if (0:Int)>(p:Int) then (0:Int) else (p:Int))=(p:Int):=if_neg (by omega);have e2:(if (200:Int)<(p:Int) then (200:Int) else (p:Int))=(p:Int):=if_neg (by omega);refine fni Tryz.f118 ?_;unfold Tryz.f118;repeat (first|simp only[go_sem,e1,e2]|simp (disch:=first|exact omg|fail) only[AX,e1,e2]|refine wki ?_)
section
variable {v:SV} {x:Rat} {L a b p:Nat}
theorem half_len:szR (mkRat 1 2) 1:=⟨lim_len_lt (by decide +kernel),lim_len_lt (by decide +kernel)⟩
theorem ref12_I_ends (hv:RatA v x L) (hL1:1<=L) (hL:L<=300) (ha:1<=a) (ha2:a<=256) (hb:1<=b) (hb2:b<=256) (h:x=0\/x=1) {pI:Int}:Go.Ev.Fn CX 62 [.int .i64 (a:Int),.int .i64 (b:Int),v,.int .i64 pI] (.tup [ballR x x,.bool true]):=by
 have zx:=szR_of hv hL1;have i1:=ref2_Int 1;have i0:=ref2_Int 0;have z0:szR ((0:Int):Rat) 2:=int_szR;have z1:szR ((1:Int):Rat) 2:=int_szR;have o:=ref4_Of (RatA_rv z0);have o1:=ref4_Of (RatA_rv z1);have c0:=ref2_Cmp hv (RatA_rv z0) hL1;have c1:=ref2_Cmp hv (RatA_rv z1) hL1;have zr:=ref2_Zero hv hL1;have sm:=ref2_Same hv (RatA_rv z1) hL1;rw[show ((0:Int):Rat)=0 from rfl]at i0 o c0;rw[show ((1:Int):Rat)=1 from rfl]at i1 c1 sm o1;have e0:decide (cmpR x 0<0)=false:=by rw[cmpR_lt];exact decide_eq_false (by rcases h with rfl|rfl<;>decide)
 have e1:decide (cmpR x 1>0)=false:=by rw[cmpR_gt];exact decide_eq_false (by rcases h with rfl|rfl<;>decide)
 generalize cmpR x 0=y0 at *
 generalize cmpR x 1=y1 at *
 obtain⟨s,n,d,rfl,-⟩:=hv;rcases h with rfl|rfl
 ·rw[decide_eq_true rfl]at zr;refine fni Tryz.f62 ?_;unfold Tryz.f62;repeat (first|simp only[go_sem,e0,e1]|simp (disch:=first|exact omg|fail) only[AX,e0,e1]|refine wki ?_|refine vpd 3 [] ?_|refine vpd 10 [59,60] ?_|refine vpd 13 [] ?_|refine vfa ?_)
 ·rw[decide_eq_false (show ¬(1:Rat)=0 by decide)]at zr;rw[decide_eq_true rfl]at sm;refine fni Tryz.f62 ?_;unfold Tryz.f62;repeat (first|simp only[go_sem,e0,e1]|simp (disch:=first|exact omg|fail) only[AX,e0,e1]|refine wki ?_|refine vpd 3 [] ?_|refine vpd 10 [59,60] ?_|refine vpd 13 [] ?_|refine vfa ?_)
theorem ref12_I_lo {A B:Nat} (hv:RatA v x L) (hL1:1<=L) (hL:L<=260) (ha:1<=a) (ha2:a<=22) (hb:1<=b) (hb2:b<=22) (hp:p<=160) (h0:0<x) (h1:x+x<=1)
  (co:Go.Ev.Fn CX 120 [.int .i64 (a:Int),.int .i64 (b:Int),v,.int .i64 ((p+40:Nat):Int)] (ivN A B)) (hA:(lim A).length<=100:=by omega) (hB:(lim B).length<=100:=by omega) :
  Go.Ev.Fn CX 62 [.int .i64 (a:Int),.int .i64 (b:Int),v,.int .i64 ((p:Int)+20)] (.tup [ballR (mkRat (A:Int) (2^(p+40))) (mkRat (B:Int) (2^(p+40))),.bool true]):=by
 have zx:=szR_of hv hL1;have i1:=ref2_Int 1;have i0:=ref2_Int 0;have z0:szR ((0:Int):Rat) 2:=int_szR;have z1:szR ((1:Int):Rat) 2:=int_szR;have o:=ref4_Of (RatA_rv z0);have c0:=ref2_Cmp hv (RatA_rv z0) hL1;have c1:=ref2_Cmp hv (RatA_rv z1) hL1;have zr:=ref2_Zero hv hL1;have sm:=ref2_Same hv (RatA_rv z1) hL1;have ho:=ref10_Hold (p:=p+20);have oh:=ref2_Of false [1] [2] (by simp[okL]) (by simp[okL]) (by simp) (by simp);rw[show wth [1]=1 from rfl,show wth [2]=2 from rfl]at oh;have oh':Go.Ev.Fn CX 39 [.bool false,.sl 1 [.int .u32 1],.sl 1 [.int .u32 2]] (rv (mkRat 1 2)):=oh
 have ch:=ref2_Cmp hv (RatA_rv half_len) hL1;have bl:=ref4_Ball (a:=(A:Int)) (b:=(B:Int)) (by rw[xK];omega) (by rw[xK];omega) (p+40) (by omega);rw[ivN_eq]at bl;rw[show ((0:Int):Rat)=0 from rfl]at i0 o c0;rw[show ((1:Int):Rat)=1 from rfl]at i1 c1 sm;rw[decide_eq_false (by grind)]at zr;rw[decide_eq_false (show ¬x=1 by grind)]at sm;have e0:decide (cmpR x 0<0)=false:=by rw[cmpR_lt];exact decide_eq_false (by grind)
 have e1:decide (cmpR x 1>0)=false:=by rw[cmpR_gt];exact decide_eq_false (by grind)
 have eh:decide (cmpR x (mkRat 1 2)<=0)=true:=by
  rw[cmpR_le];have:mkRat 1 2*2=1:=by decide +kernel
  exact decide_eq_true (by grind)
 have e3:(p:Int)+20+20=(p:Int)+40:=by omega
 rw[show ((p+20:Nat):Int)=(p:Int)+20 from rfl]at ho;rw[show ((p+40:Nat):Int)=(p:Int)+40 from rfl]at co bl;clear h0 h1 oh;generalize mkRat 1 2=hf at *
 generalize cmpR x 0=y0 at *
 generalize cmpR x 1=y1 at *
 generalize cmpR x hf=y2 at *
 generalize mkRat (A:Int) (2^(p+40))=u1 at *
 generalize mkRat (B:Int) (2^(p+40))=u2 at *
 obtain⟨s,n,d,rfl,-⟩:=hv;refine fni Tryz.f62 ?_;unfold Tryz.f62;repeat (first|simp only[go_sem,e0,e1,eh,e3]|simp (disch:=first|exact omg|fail) only[AX,e0,e1,eh,e3]|refine wki ?_|refine vpd 3 [] ?_|refine vpd 10 [59,60] ?_|refine vpd 13 [] ?_|refine vfa ?_)
theorem ref12_I_hi {A B:Nat} (hv:RatA v x L) (hL1:1<=L) (hL:L<=260) (ha:1<=a) (ha2:a<=22) (hb:1<=b) (hb2:b<=22) (hp:p<=160) (h0:1<x+x) (h1:x<1)
  (co:Go.Ev.Fn CX 120 [.int .i64 (b:Int),.int .i64 (a:Int),rv (1-x),.int .i64 ((p+40:Nat):Int)] (ivN A B)) (hA:(lim A).length<=100:=by omega) (hB:(lim B).length<=100:=by omega) :
  Go.Ev.Fn CX 62 [.int .i64 (a:Int),.int .i64 (b:Int),v,.int .i64 ((p:Int)+20)] (.tup [ballR (mkRat (((2^(p+40):Nat):Int)-(B:Int)) (2^(p+40))) (mkRat (((2^(p+40):Nat):Int)-(A:Int)) (2^(p+40))),.bool true]):=by
 have zx:=szR_of hv hL1;have i1:=ref2_Int 1;have i0:=ref2_Int 0;have z0:szR ((0:Int):Rat) 2:=int_szR;have z1:szR ((1:Int):Rat) 2:=int_szR;have o:=ref4_Of (RatA_rv z0);have c0:=ref2_Cmp hv (RatA_rv z0) hL1;have c1:=ref2_Cmp hv (RatA_rv z1) hL1;have zr:=ref2_Zero hv hL1;have sm:=ref2_Same hv (RatA_rv z1) hL1;have ho:=ref10_Hold (p:=p+20);have oh:=ref2_Of false [1] [2] (by simp[okL]) (by simp[okL]) (by simp) (by simp);rw[show wth [1]=1 from rfl,show wth [2]=2 from rfl]at oh;have oh':Go.Ev.Fn CX 39 [.bool false,.sl 1 [.int .u32 1],.sl 1 [.int .u32 2]] (rv (mkRat 1 2)):=oh
 have ch:=ref2_Cmp hv (RatA_rv half_len) hL1;have lP:=lim_len_p2 (n:=2^(p+40)) (xU _);have n1:=ref4_NumN (w:=p+40) (RatA_rv (one_szR')) (by omega) (by omega) (by omega) (show (0:Rat)<=1 by decide);have u1:unN 1 (p+40)=2^(p+40):=by show 1*2^(p+40)/1=_;rw[xe,wI]
 have u2:upN 1 (p+40)=2^(p+40):=by show cdv (1*2^(p+40)) 1=_;unfold cdv;rw[xe,wI];omega
 rw[u1,u2]at n1;have mi:=ref4_MinusN (x:=((2^(p+40):Nat):Int)) (y:=((2^(p+40):Nat):Int)) (c:=A) (d:=B) (by rw[xK];omega) (by rw[xK];omega);rw[ivN_eq]at mi;have sb:=ref2_Sub (RatA_rv z1) hv (by omega) hL1;have la:=lim_len_add (a:=2^(p+40)) (b:=A) (L:=200);have lb:=lim_len_add (a:=2^(p+40)) (b:=B) (L:=200);have bl:=ref4_Ball (a:=((2^(p+40):Nat):Int)-(B:Int)) (b:=((2^(p+40):Nat):Int)-(A:Int)) (xG (lim_len_mono (show _<=2^(p+40)+B by omega)) (by omega)) (xG (lim_len_mono (show _<=2^(p+40)+A by omega)) (by omega)) (p+40) (by omega);rw[show ((0:Int):Rat)=0 from rfl]at i0 o c0
 rw[show ((1:Int):Rat)=1 from rfl]at i1 c1 sm sb;rw[decide_eq_false (by grind)]at zr;rw[decide_eq_false (show ¬x=1 by grind)]at sm;have e0:decide (cmpR x 0<0)=false:=by rw[cmpR_lt];exact decide_eq_false (by grind)
 have e1:decide (cmpR x 1>0)=false:=by rw[cmpR_gt];exact decide_eq_false (by grind)
 have eh:decide (cmpR x (mkRat 1 2)<=0)=false:=by
  rw[cmpR_le];have:mkRat 1 2*2=1:=by decide +kernel
  exact decide_eq_false (by grind)
 have e3:(p:Int)+20+20=(p:Int)+40:=by omega
 rw[show ((p+20:Nat):Int)=(p:Int)+20 from rfl]at ho;rw[show ((p+40:Nat):Int)=(p:Int)+40 from rfl]at co bl n1;clear h0 h1 oh u1 u2 la lb lP;generalize mkRat 1 2=hf at *
 generalize cmpR x 0=y0 at *
 generalize cmpR x 1=y1 at *
 generalize cmpR x hf=y2 at *
 generalize ((2^(p+40):Nat):Int)-(A:Int)=U1 at *
 generalize ((2^(p+40):Nat):Int)-(B:Int)=U2 at *
 generalize mkRat U1 (2^(p+40))=w1 at *
 generalize mkRat U2 (2^(p+40))=w2 at *
 generalize 2^(p+40)=PP at *
 generalize 1-x=xx at *
 obtain⟨s,n,d,rfl,-⟩:=hv;refine fni Tryz.f62 ?_;unfold Tryz.f62;repeat (first|simp only[go_sem,e0,e1,eh,e3]|simp (disch:=first|exact omg|fail) only[AX,e0,e1,eh,e3]|refine wki ?_|refine vpd 3 [] ?_|refine vpd 10 [59,60] ?_|refine vpd 13 [] ?_|refine vfa ?_)
end
end Go.Proofs.YtfknkoeagjonbaaGreat
namespace Go.Proofs.YtfknkoeagjonbaaGreat
open Go.Ev
section
variable {a b w p L:Nat} {x:Rat} {v:SV}
theorem core_sq (hv:RatA v x L) (hL1:1<=L) (hL:L<=260) (ha:1<=a) (ha2:a<=22) (hb:1<=b) (hb2:b<=22) (h0:0<=x) (h1:x+x<=1) (hw0:40<=w:=by omega) (hw:w<=200:=by omega) :
  ∃A B:Nat,Go.Ev.Fn CX 120 [.int .i64 (a:Int),.int .i64 (b:Int),v,.int .i64 (w:Int)] (ivN A B)/\A<=B/\B<=2^(w+400)/\RowS a b w x A B:=by
 obtain⟨A,B,K,p1,p2',q1,q2,f,g1,g2,r1,r3,r2,r4,r5,r7,r6,r8,en⟩:=ref12_core (w:=w) hv hL1 hL ha ha2 hb hb2 h0 h1 hw0 hw;refine⟨A,B,f,g1,g2,K,fun m hm => ?_⟩;have hx1:x<=1:=by clear g2;grind
 have s1:=sq_mon r1 r2 (xO r3 r4);have s2:=sq_mon r5 r6 (xO r7 r8);have e1:=en p1 q1 xi s1 xi s2 m hm;have e2:=en p2' q2 s1 xi s2 xi m hm;have lo:=sh_lo (a:=a) (b:=b) (k:=m) h0 hx1 r3 r7;have hi:=sh_hi (a:=a) (b:=b) (k:=m) h0 hx1 r4 r8;have P:=p2_pos w;have PP:=mul_self_nn (p2 w);have A1:(A:Rat)<=fstR a b x p1 q1*sR x a b m*p2 w:=e1.1;have B1:fstR a b x p2' q2*sR x a b m*p2 w<=(B:Rat):=e2.2;have n1:0<=fstR a b x p1 q1*sR x a b m*p2 w:=xO (nat_nonneg A) A1;have n2:0<=fstR a b x p2' q2*sR x a b m*p2 w:=xO (nat_nonneg A) e2.1;have A2:=mul_both A1 A1 n1 (nat_nonneg A)
 have B2:=mul_both B1 B1 (nat_nonneg B) n2;have lo2:=xA lo PP;have hi2:=xA hi PP;rw[sq_pair]at A2 B2;exact⟨xO A2 lo2,xO hi2 B2⟩
theorem rowS_Lo1 {A B:Nat} (rs:RowS a b w x A B):Lo1 a b x (mkRat (A:Int) (2^w)):=by
 obtain⟨K,hK⟩:=rs;refine .inr ⟨K,fun m hm => ?_⟩;have g:=(hK m hm).1;have P:=p2_pos w;have t:=mk_p2n A w;refine le_by (ya P P) ?_;rw[<- t]at g;generalize mkRat (A:Int) (2^w)=u at *
 generalize p2 w=q at *
 have e:u*u*(q*q)=u*q*(u*q):=by grind
 rw[e];exact g
theorem rowS_Hi1 {A B:Nat} (rs:RowS a b w x A B):Hi1 a b x (mkRat (B:Int) (2^w)):=by
 obtain⟨K,hK⟩:=rs;have P:=p2_pos w;have t:=mk_p2n B w;refine⟨le_by P (by rw[t,yM];exact nat_nonneg _),K,fun m hm => ?_⟩;have g:=(hK m hm).2;refine le_by (ya P P) ?_;rw[<- t]at g;generalize mkRat (B:Int) (2^w)=u at *
 generalize p2 w=q at *
 have e:u*u*(q*q)=u*q*(u*q):=by grind
 rw[e];exact g
theorem one_less (B w:Nat):1-mkRat (((2^w:Nat):Int)-(B:Int)) (2^w)=mkRat (B:Int) (2^w):=by
 have P:=p2_pos w;have m1:=mk_mulP (((2^w:Nat):Int)-(B:Int)) (b:=2^w) (xM (by omega));have m2:=mk_p2n B w;have c:((((2^w:Nat):Int)-(B:Int):Int):Rat)=p2 w-(B:Rat):=by
  rw[Rat.intCast_sub];rfl
 have m1':mkRat (((2^w:Nat):Int)-(B:Int)) (2^w)*p2 w=p2 w-(B:Rat):=by rw[<- c];exact m1
 generalize mkRat (((2^w:Nat):Int)-(B:Int)) (2^w)=u at *
 generalize mkRat (B:Int) (2^w)=z at *
 have k:(1-u)*p2 w=z*p2 w:=by grind
 exact Rat.le_antisymm (le_by P (by rw[k];exact xi)) (le_by P (by rw[k];exact xi))
theorem szR_zi {z:Int} {w e:Nat} (h:z.natAbs<=2^e) (he:e<=1000:=by omega) (hw:w<=1000:=by omega):szR (mkRat z (2^w)) 40:=by
 have e1:=szR_mk (s:=decide (z<0)) (n:=z.natAbs) (d:=2^w) (lim_len_p2 h he) (lim_len_p2 (xU _) hw);rwa [sgn_self]at e1
theorem szR_less {B p:Nat} (h:B<=2^(p+40+400)) (hp:p<=200:=by omega):szR (mkRat (((2^(p+40):Nat):Int)-(B:Int)) (2^(p+40))) 40:=by
 have m:2^(p+40)<=2^(p+40+400):=xE (by omega) (by omega);generalize hE:2^(p+40)=E at *
 have hz:((E:Int)-(B:Int)).natAbs<=2^(p+40+400):=by omega
 rw[<- hE]at hz ⊢;exact szR_zi hz
theorem ref12_ballW (hv:RatA v x L) (hL1:1<=L) (hL:L<=245) (ha:1<=a) (ha2:a<=22) (hb:1<=b) (hb2:b<=22) (hp:p<=160) (h0:0<x) (h1:x<1) :
  ∃l h:Rat,Go.Ev.Fn CX 62 [.int .i64 (a:Int),.int .i64 (b:Int),v,.int .i64 ((p:Int)+20)] (.tup [ballR l h,.bool true])/\szR l 40/\szR h 40/\LoS a b x l/\HiS a b x h:=by
 have zx:=szR_of hv hL1;have one1:szR 1 1:=⟨lim_len_lt (by decide +kernel),lim_len_lt (by decide +kernel)⟩
 by_cases hh:x+x<=1
 ·obtain⟨A,B,f,g1,g2,rs⟩:=core_sq (w:=p+40) hv hL1 (by omega) ha ha2 hb hb2 (xX h0) hh;have lB:=lim_len_p2 g2;have lA:=lim_len_mono g1;exact⟨_,_,ref12_I_lo hv hL1 (by omega) ha ha2 hb hb2 (by omega) h0 hh f,szR_zi (z:=(A:Int)) (xG g1 g2),szR_zi (z:=(B:Int)) g2,.inl ⟨hh,rowS_Lo1 rs⟩,.inl ⟨hh,rowS_Hi1 rs⟩⟩
 ·have zy:=szR_sub one1 zx;have hh':1<x+x:=by grind
  obtain⟨A,B,f,g1,g2,rs⟩:=core_sq (x:=1-x) (w:=p+40) (RatA_rv zy) (by omega) (by omega) hb hb2 ha ha2 (by grind) (by grind);have lB:=lim_len_p2 g2;have lA:=lim_len_mono g1;have gA:=xG g1 g2;exact⟨_,_,ref12_I_hi hv hL1 (by omega) ha ha2 hb hb2 (by omega) hh' h1 f,szR_less g2,szR_less gA,.inr ⟨hh',by rw[one_less];exact rowS_Hi1 rs⟩,.inr ⟨hh',by rw[one_less];exact rowS_Lo1 rs⟩⟩
end
end Go.Proofs.YtfknkoeagjonbaaGreat
namespace Go.Proofs.YtfknkoeagjonbaaGreat
open Go.Ev
def tRow (w Y1 Y2 M:Nat):Nat->Nat->Nat->Nat->Nat->Nat->Option (Nat×Nat)
 |0,_,_,_,_,_=>none
 |f+1,k,t1,t2,a1,a2=>if M<=k/\t2<4 then some (a1,a2+8) else
   tRow w Y1 Y2 M f (k+2) (t1*Y1/2^w*1/k) ((t2*Y2/2^w+1)*1/k+1) (a1+t1*Y1/2^w*1/k) (a2+((t2*Y2/2^w+1)*1/k+1))
def tInv (w k0 i k t1 t2 a1 a2:Nat):Prop:=k=k0+2*i/\t1<=t2/\a1<=a2/\t2<2^(w+9+9*min i 1024)/\a2<(i+2)*2^(w+10000)
theorem tInv_0 {w k0 t1 t2 a1 a2:Nat} (h1:t1<=t2:=by omega) (h2:a1<=a2:=by omega) (h3:t2<2^(w+9):=by omega) (h4:a2<2^(w+10):=by omega):tInv w k0 0 k0 t1 t2 a1 a2:=by
 have:2^(w+10)<=2^(w+10000):=xE (by omega) (by omega);refine⟨by omega,h1,h2,h3,by omega⟩
theorem tStep_le {w Y2 k t2:Nat} (hY:Y2<=2^(w+8)) (hk:1<=k):(t2*Y2/2^w+1)*1/k+1<=t2*256+2/\(2048<=k->(t2*Y2/2^w+1)*1/k+1<=t2/8+2)/\(2048<=k->t2<=4->(t2*Y2/2^w+1)*1/k+1=1):=by
 have P:0<2^w:=xM (by omega);have h1:t2*Y2/2^w<=t2*256:=by
  refine(yR P).2 ?_;have m:=xF t2 hY;have e:t2*2^(w+8)=2^w*(t2*256):=by rw[xN,show (2:Nat)^8=256 from rfl,yn]
  rw[xV (t2*256)];omega
 rw[xu];generalize t2*Y2/2^w=q at *
 have a:=xt (q+1) k;refine⟨by omega,fun g => ?_,fun g g2 => ?_⟩
 ·have b:(q+1)/k<=(q+1)/2048:=Nat.div_le_div_left g (by omega);omega
 ·rw[yo (by omega)]
theorem tInv_step {w Y1 Y2 k0 i k t1 t2 a1 a2:Nat} (hY:Y2<=2^(w+8)) (hY1:Y1<=Y2) (hk0:1<=k0) (h:tInv w k0 i k t1 t2 a1 a2) :
  tInv w k0 (i+1) (k+2) (t1*Y1/2^w*1/k) ((t2*Y2/2^w+1)*1/k+1) (a1+t1*Y1/2^w*1/k) (a2+((t2*Y2/2^w+1)*1/k+1)):=by
 obtain⟨h1,h2,h3,h4,h5⟩:=h;obtain⟨u1,u2,u3⟩:=tStep_le (t2:=t2) hY (show 1<=k by omega);have q0:t1*Y1/2^w*1/k<=(t2*Y2/2^w+1)*1/k+1:=by
  refine yZ (xg (xB 1 ?_));exact yZ (xg (xJ h2 hY1))
 have nt:(t2*Y2/2^w+1)*1/k+1<2^(w+9+9*min (i+1) 1024):=by
  by_cases hi:i<1024
  ·rw[show min (i+1) 1024=min i 1024+1 by omega,show w+9+9*(min i 1024+1)=(w+9+9*min i 1024)+9 by omega,xN _ _ 9,show (2:Nat)^9=512 from rfl];have:2^2<=2^(w+9+9*min i 1024):=xE (by omega) (by omega);omega
  ·rw[show min (i+1) 1024=min i 1024 by omega];have g:=u2 (by omega);have:2^4<=2^(w+9+9*min i 1024):=xE (by omega) (by omega);omega
 have le:2^(w+9+9*min (i+1) 1024)<=2^(w+10000):=xE (by omega) (by omega);generalize t1*Y1/2^w*1/k=x at *
 generalize (t2*Y2/2^w+1)*1/k+1=y at *
 refine⟨by omega,q0,by omega,nt,?_⟩;rw[show i+1+2=(i+2)+1 by omega,xY (i+2) 1,xe];omega
theorem tRow_low {w Y1 Y2 M k0:Nat} (hY:Y2<=2^(w+8)) (hY1:Y1<=Y2) (hk0:1<=k0) (hM:M<=2048) : ∀ (m f i k t1 t2 a1 a2:Nat),tInv w k0 i k t1 t2 a1 a2->2048<=k->t2<=2^(3*m)+3->m+2<=f -> ∃A B,tRow w Y1 Y2 M f k t1 t2 a1 a2=some (A,B)/\A<=B/\B<(i+m+4)*2^(w+10000):=by
 intro m;induction m with
 |zero=>
  intro f i k t1 t2 a1 a2 h hk ht hf;obtain⟨f,rfl⟩ : ∃j,f=j+2:=⟨f-2,by omega⟩
  have P:2^4<=2^(w+10000):=xE (by omega) (by omega);have hh:=h;obtain⟨h1,h2,h3,h4,h5⟩:=hh;rw[tRow];by_cases g:M<=k/\t2<4
  ·rw[if_pos g];refine⟨a1,a2+8,rfl,by omega,?_⟩;rw[show i+0+4=(i+2)+2 by omega,xY (i+2) 2];omega
  ·rw[if_neg g];have st:=tInv_step hY hY1 hk0 h;have t4:t2<=4:=by have:2^(3*0)=1:=rfl;omega
   rw[(tStep_le (t2:=t2) hY (show 1<=k by omega)).2.2 hk t4]at st ⊢;obtain⟨k1,k2,k3,k4,k5⟩:=st;rw[tRow,if_pos (by omega)];refine⟨_,_,rfl,by omega,?_⟩;rw[show i+0+4=(i+1+2)+1 by omega,xY (i+1+2) 1];omega
 |succ m ih=>
  intro f i k t1 t2 a1 a2 h hk ht hf;obtain⟨f,rfl⟩ : ∃j,f=j+1:=⟨f-1,by omega⟩
  have P:2^4<=2^(w+10000):=xE (by omega) (by omega);have hh:=h;obtain⟨h1,h2,h3,h4,h5⟩:=hh;rw[tRow];by_cases g:M<=k/\t2<4
  ·rw[if_pos g];refine⟨a1,a2+8,rfl,by omega,?_⟩;rw[show i+(m+1)+4=(i+2)+(m+3) by omega,xY (i+2)];have:=zL (2^(w+10000)) (show 0<m+3 by omega);omega
  ·rw[if_neg g];have st:=tInv_step hY hY1 hk0 h;have up:=(tStep_le (t2:=t2) hY (show 1<=k by omega)).2.1 hk;have dv:t2/8<=2^(3*m):=by
    have e:2^(3*(m+1))=2^(3*m)*8:=by rw[show 3*(m+1)=3*m+3 by omega,xN]
    rw[e]at ht;omega
   obtain⟨A,B,r1,r2,r3⟩:=ih f (i+1) (k+2) _ _ _ _ st (by omega) (by omega) (by omega);exact⟨A,B,r1,r2,by rw[show i+(m+1)+4=i+1+m+4 by omega];exact r3⟩
theorem tRow_end {w Y1 Y2 M k0:Nat} (hY:Y2<=2^(w+8)) (hY1:Y1<=Y2) (hk0:1<=k0) (hM:M<=2048) (hw:w<=3000) : ∀ (d f i k t1 t2 a1 a2:Nat),tInv w k0 i k t1 t2 a1 a2->2048<=k+2*d->i+d<=1024->d+4100<=f -> ∃A B,tRow w Y1 Y2 M f k t1 t2 a1 a2=some (A,B)/\A<=B/\B<2^(w+10014):=by
 have fin : ∀z B:Nat,z<=16000->B<z*2^(w+10000)->B<2^(w+10014):=by
  intro z B hz hB;have e:2^(w+10014)=16384*2^(w+10000):=by rw[show w+10014=14+(w+10000) by omega,xN 2 14]
  have m:=xB (2^(w+10000)) (show z<=16384 by omega);omega
 intro d;induction d with
 |zero=>
  intro f i k t1 t2 a1 a2 h hk hi hf;have h4:=h.2.2.2.1;obtain⟨m,hm⟩ : ∃m:Nat,m=4098:=⟨_,rfl⟩
  obtain⟨A,B,r1,r2,r3⟩:=tRow_low hY hY1 hk0 hM m f i k t1 t2 a1 a2 h (by omega) (by
   have:2^(w+9+9*min i 1024)<=2^(3*m):=xE (by omega) (by omega);omega) (by omega)
  exact⟨A,B,r1,r2,fin _ _ (by omega) r3⟩
 |succ d ih=>
  intro f i k t1 t2 a1 a2 h hk hi hf;obtain⟨f,rfl⟩ : ∃j,f=j+1:=⟨f-1,by omega⟩
  have hh:=h;obtain⟨h1,h2,h3,h4,h5⟩:=hh;rw[tRow];by_cases g:M<=k/\t2<4
  ·rw[if_pos g];refine⟨a1,a2+8,rfl,by omega,fin (i+3) _ (by omega) ?_⟩;have P:2^4<=2^(w+10000):=xE (by omega) (by omega);rw[show i+3=(i+2)+1 by omega,xY (i+2) 1];omega
  ·rw[if_neg g];exact ih f (i+1) (k+2) _ _ _ _ (tInv_step hY hY1 hk0 h) (by omega) (by omega) (by omega)
end Go.Proofs.YtfknkoeagjonbaaGreat
namespace Go.Ex
def mulu (d:Rat) (g:Nat->Rat):Nat->Rat
 |0=>d*g 0
 |k+1=>d*g (k+1)+g k
def dvu (d:Rat) (f:Nat->Rat):Nat->Rat
 |0=>f 0/d
 |k+1=>(f (k+1)-dvu d f k)/d
theorem mul_div (d x:Rat) (hd:d≠0):d*(x/d)=x:=by rw[wM];exact yD hd
theorem mulu_dvu {d:Rat} (hd:d≠0) (f:Nat->Rat) : ∀k,mulu d (dvu d f) k=f k
 |0=>mul_div d _ hd
 |k+1=>by
  show d*((f (k+1)-dvu d f k)/d)+dvu d f k=_;rw[mul_div d _ hd];grind
theorem dvu_uniq {d:Rat} (hd:d≠0) {f g:Nat->Rat} (h : ∀k,mulu d g k=f k) : ∀k,g k=dvu d f k
 |0=>by
  have:=h 0;show g 0=f 0/d;rw[<- this];show g 0=d*g 0/d;rw[wM];exact(Rat.mul_div_cancel hd).symm
 |k+1=>by
  have e:=h (k+1);have ih:=dvu_uniq hd h k;show g (k+1)=(f (k+1)-dvu d f k)/d;rw[<- ih,<- e];show g (k+1)=(d*g (k+1)+g k-g k)/d;rw[show d*g (k+1)+g k-g k=g (k+1)*d by grind];exact(Rat.mul_div_cancel hd).symm
theorem dvu_congr {d:Rat} {f g:Nat->Rat} (h : ∀k,f k=g k) : ∀k,dvu d f k=dvu d g k
 |0=>by show f 0/d=g 0/d;rw[h]
 |k+1=>by show (f (k+1)-dvu d f k)/d=(g (k+1)-dvu d g k)/d;rw[h,dvu_congr h k]
theorem mulu_comm (d e:Rat) (g:Nat->Rat) : ∀k,mulu d (mulu e g) k=mulu e (mulu d g) k
 |0=>by show d*(e*g 0)=e*(d*g 0);grind
 |1=>by show d*(e*g 1+g 0)+e*g 0=e*(d*g 1+g 0)+d*g 0;grind
 |k+2=>by show d*(e*g (k+2)+g (k+1))+(e*g (k+1)+g k)=e*(d*g (k+2)+g (k+1))+(d*g (k+1)+g k);grind
theorem mulu_congr {d:Rat} {f g:Nat->Rat} (h : ∀k,f k=g k) : ∀k,mulu d f k=mulu d g k
 |0=>by show d*f 0=d*g 0;rw[h]
 |k+1=>by show d*f (k+1)+f k=d*g (k+1)+g k;rw[h,h]
theorem dvu_comm {d e:Rat} (hd:d≠0) (he:e≠0) (f:Nat->Rat) (k:Nat):dvu d (dvu e f) k=dvu e (dvu d f) k:=by
 refine dvu_uniq he (fun k=>dvu_uniq hd (fun k => ?_) k) k;rw[mulu_comm];have h1 : ∀k,mulu d (dvu d (dvu e f)) k=dvu e f k:=mulu_dvu hd _;rw[mulu_congr h1];exact mulu_dvu he f k
def ser (j:Nat):List Nat->Nat->Rat
 | [],k=>if k=0 then 1 else 0
 |s::M,k=>if s=j then ser j M k else dvu ((j:Rat)-(s:Rat)) (ser j M) k
theorem nat_inj {a b:Nat} (h:(a:Rat)=(b:Rat)):a=b:=by exact_mod_cast h
theorem sub_ne {j s:Nat} (h:s≠j):(j:Rat)-(s:Rat)≠0:=by
 intro e;exact h (nat_inj (show (s:Rat)=(j:Rat) by grind))
theorem ser_perm (j:Nat) {M M':List Nat} (h:M.Perm M') : ∀k,ser j M k=ser j M' k:=by
 induction h with
 |nil=>intro k;rfl
 |cons s _ ih=>
  intro k;unfold ser;split
  ·exact ih k
  ·exact dvu_congr ih k
 |swap s t M=>
  intro k;by_cases h1:s=j<;>by_cases h2:t=j
  ·simp only[ser,if_pos h1,if_pos h2]
  ·simp only[ser,if_pos h1,if_neg h2]
  ·simp only[ser,if_neg h1,if_pos h2]
  ·simp only[ser,if_neg h1,if_neg h2];exact dvu_comm (sub_ne h2) (sub_ne h1) _ k
 |trans _ _ ih1 ih2=>intro k;rw[ih1,ih2]
def coef (j:Nat) (M:List Nat) (i:Nat):Rat:=if i<M.count j then ser j M (M.count j-1-i) else 0
theorem coef_same {s:Nat} {M:List Nat} (i:Nat):coef s (s::M) (i+1)=coef s M i:=by
 unfold coef;rw[List.count_cons_self];by_cases h:i<M.count s
 ·rw[if_pos h,if_pos (by omega)];simp only[ser,if_pos];rw[show M.count s+1-1-(i+1)=M.count s-1-i by omega]
 ·rw[if_neg h,if_neg (by omega)]
theorem coef_other {j s:Nat} {M:List Nat} (h:s≠j) (i:Nat):((j:Rat)-(s:Rat))*coef j (s::M) i+coef j (s::M) (i+1)=coef j M i:=by
 unfold coef;rw[List.count_cons_of_ne h];have key:=mulu_dvu (sub_ne h) (ser j M);by_cases h1:i+1<M.count j
 ·rw[if_pos h1,if_pos (by omega),if_pos (by omega)];obtain⟨k,hk⟩ : ∃k,M.count j-1-i=k+1:=⟨M.count j-2-i,by omega⟩
  rw[show M.count j-1-(i+1)=k by omega,hk,<- key (k+1)];simp only[ser,if_neg h];rfl
 ·rw[if_neg h1];by_cases h2:i<M.count j
  ·rw[if_pos h2,if_pos h2,show M.count j-1-i=0 by omega,<- key 0];simp only[ser,if_neg h];rw[Rat.add_zero];rfl
  ·rw[if_neg h2,if_neg h2];grind
def bin:Nat->Nat->Nat
 |_,0=>1
 |0,_+1=>0
 |m+1,i+1=>bin m i+bin m (i+1)
theorem bin_big : ∀m i,m<i->bin m i=0
 |0,i+1,_=>rfl
 |m+1,i+1,h=>by
  show bin m i+bin m (i+1)=0;rw[bin_big m i (by omega),bin_big m (i+1) (by omega)]
def bw (j:Rat) (m i:Nat):Rat:=(bin m i:Rat)*j^(m-i)
theorem bw_zero (j:Rat) (m:Nat):bw j (m+1) 0=j*bw j m 0:=by
 show ((bin (m+1) 0:Nat):Rat)*j^(m+1)=j*(((bin m 0:Nat):Rat)*j^m)
 have e1:bin (m+1) 0=1:=by cases m<;>rfl
 have e2:bin m 0=1:=by cases m<;>rfl
 rw[e1,e2,yp];grind
theorem bw_succ (j:Rat) (m i:Nat):bw j (m+1) (i+1)=j*bw j m (i+1)+bw j m i:=by
 show ((bin m i+bin m (i+1):Nat):Rat)*j^(m+1-(i+1))=j*(((bin m (i+1):Nat):Rat)*j^(m-(i+1)))+((bin m i:Nat):Rat)*j^(m-i);have e:((bin m i+bin m (i+1):Nat):Rat)=(bin m i:Rat)+(bin m (i+1):Rat):=by exact_mod_cast rfl
 rw[e,show m+1-(i+1)=m-i by omega];by_cases h:i+1<=m
 ·rw[show m-i=m-(i+1)+1 by omega,yp];grind
 ·rw[bin_big m (i+1) (by omega)];have:((0:Nat):Rat)=0:=rfl;rw[this];grind
def gs (j:Rat) (a:Nat->Rat) (m:Nat):Nat->Rat
 |0=>0
 |c+1=>gs j a m c+a c*bw j m c
theorem gs_congr {j:Rat} {a a':Nat->Rat} {m:Nat} : ∀c,(∀i,i<c->a i=a' i)->gs j a m c=gs j a' m c
 |0,_=>rfl
 |c+1,h=>by
  show gs j a m c+a c*_=gs j a' m c+a' c*_;rw[gs_congr c (fun i hi=>h i (by omega)),h c (by omega)]
theorem gs_shift (j s:Rat) (a:Nat->Rat) (m:Nat) : ∀c,gs j a (m+1) (c+1)+a (c+1)*bw j m c=s*gs j a m (c+1)+gs j (fun i=>(j-s)*a i+a (i+1)) m (c+1)
 |0=>by
  show 0+a 0*bw j (m+1) 0+a 1*bw j m 0=s*(0+a 0*bw j m 0)+(0+((j-s)*a 0+a 1)*bw j m 0)
  rw[bw_zero];grind
 |c+1=>by
  have ih:=gs_shift j s a m c;show gs j a (m+1) (c+1)+a (c+1)*bw j (m+1) (c+1)+a (c+2)*bw j m (c+1)=s*(gs j a m (c+1)+a (c+1)*bw j m (c+1))+(gs j (fun i=>(j-s)*a i+a (i+1)) m (c+1)+((j-s)*a (c+1)+a (c+2))*bw j m (c+1))
  rw[bw_succ];generalize gs j (fun i=>(j-s)*a i+a (i+1)) m (c+1)=z at *
  grind
theorem gs_at {j s:Rat} {a a':Nat->Rat} {m c:Nat} (h0:a c=0) (h : ∀i,i<c->(j-s)*a i+a (i+1)=a' i):gs j a (m+1) c=s*gs j a m c+gs j a' m c:=by
 cases c with
 |zero=>show (0:Rat)=s*0+0;grind
 |succ c=>
  have:=gs_shift j s a m c;rw[h0]at this;rw[<- gs_congr (a:=fun i=>(j-s)*a i+a (i+1)) (a':=a') (c+1) h,<- this];grind
def Gn (M:List Nat) (m:Nat):Nat->Rat
 |0=>0
 |J+1=>Gn M m J+gs (J:Rat) (coef J M) m (M.count J)
theorem coef_end (j:Nat) (M:List Nat):coef j M (M.count j)=0:=by unfold coef;rw[if_neg (by omega)]
theorem gs_node (j s:Nat) (M:List Nat) (m:Nat):gs (j:Rat) (coef j (s::M)) (m+1) ((s::M).count j)=(s:Rat)*gs (j:Rat) (coef j (s::M)) m ((s::M).count j)+gs (j:Rat) (coef j M) m (M.count j):=by
 by_cases h:s=j
 ·subst h;rw[gs_at (s:=(s:Rat)) (a':=coef s M) (coef_end s _) (fun i _=>by rw[coef_same];grind)];congr 1;rw[List.count_cons_self];show gs _ _ _ _+coef s M (M.count s)*_=_;rw[coef_end];grind
 ·rw[gs_at (s:=(s:Rat)) (a':=coef j M) (coef_end j _) (fun i _=>coef_other h i)];congr 2;rw[List.count_cons_of_ne h]
theorem Gn_step (s:Nat) (M:List Nat) (m:Nat) : ∀J,Gn (s::M) (m+1) J=(s:Rat)*Gn (s::M) m J+Gn M m J
 |0=>by show (0:Rat)=(s:Rat)*0+0;grind
 |J+1=>by
  show Gn (s::M) (m+1) J+gs _ _ _ _=(s:Rat)*(Gn (s::M) m J+gs _ _ _ _)+(Gn M m J+gs _ _ _ _)
  rw[Gn_step s M m J,gs_node];grind
theorem Gn_perm {M M':List Nat} (h:M.Perm M') (m:Nat) : ∀J,Gn M m J=Gn M' m J
 |0=>rfl
 |J+1=>by
  show Gn M m J+gs _ _ _ _=Gn M' m J+gs _ _ _ _;rw[Gn_perm h m J,h.count_eq];congr 1;exact gs_congr _ fun i _=>by unfold coef;rw[h.count_eq,ser_perm J h]
theorem Gn_nil (m:Nat) : ∀J,Gn [] m J=0
 |0=>rfl
 |J+1=>by show Gn [] m J+0=0;rw[Gn_nil m J,Rat.add_zero]
def Hn:List Nat->Nat->Nat
 | [],_=>0
 |_::M,0=>if M=[] then 1 else 0
 |s::M,m+1=>s*Hn (s::M) m+Hn M m
theorem Gn_of {s:Nat} {M:List Nat} {J:Nat} (h : ∀m,Gn M m J=(Hn M m:Rat)) (h0:Gn (s::M) 0 J=(Hn (s::M) 0:Rat)) : ∀m,Gn (s::M) m J=(Hn (s::M) m:Rat)
 |0=>h0
 |m+1=>by
  rw[Gn_step,Gn_of h h0 m,h m];show _=((s*Hn (s::M) m+Hn M m:Nat):Rat)
  exact_mod_cast rfl
theorem Hn_zero {s:Nat} {M:List Nat} (h:M≠[]):Hn (s::M) 0=0:=by
 show (if M=[] then 1 else 0)=0;rw[if_neg h]
theorem gs_at0 (j:Rat) (a:Nat->Rat) : ∀c,gs j a 0 (c+1)=a 0
 |0=>by
  show 0+a 0*(((1:Nat):Rat)*j^0)=a 0;rw[yx];have:((1:Nat):Rat)=1:=rfl;rw[this];grind
 |c+1=>by
  show gs j a 0 (c+1)+a (c+1)*(((0:Nat):Rat)*_)=a 0;rw[gs_at0 j a c];have:((0:Nat):Rat)=0:=rfl;rw[this];grind
theorem ser_rep (s:Nat) : ∀ (M:List Nat),(∀t∈M,t=s) -> ∀k,ser s M k=if k=0 then 1 else 0
 | [],_,k=>rfl
 |t::M,h,k=>by
  have:t=s:=h t yF;simp only[ser,if_pos this];exact ser_rep s M (fun u hu=>h u (yB _ hu)) k
theorem count_rep (s:Nat) : ∀ (M:List Nat),(∀t∈M,t=s)->M.count s=M.length
 | [],_=>rfl
 |t::M,h=>by
  have:t=s:=h t yF;subst this;rw[List.count_cons_self,yE,count_rep t M (fun u hu=>h u (yB _ hu))]
theorem Gn_rep {s:Nat} {M:List Nat} (h : ∀t∈M,t=s) (hM:M≠[]) : ∀J,Gn M 0 J=if s<J then coef s M 0 else 0
 |0=>rfl
 |J+1=>by
  show Gn M 0 J+gs _ _ _ _=_;rw[Gn_rep h hM J];have hl:0<M.length:=List.length_pos_iff.2 hM;by_cases e:s=J
  ·subst e;rw[if_neg (by omega),if_pos (by omega),count_rep s M h];obtain⟨c,hc⟩ : ∃c,M.length=c+1:=⟨M.length-1,by omega⟩
   rw[hc,gs_at0,Rat.zero_add]
  ·have:M.count J=0:=List.count_eq_zero.2 fun hj=>e ((h J hj).symm)
   rw[this];show _+0=_;rw[Rat.add_zero];by_cases h1:s<J
   ·rw[if_pos h1,if_pos (by omega)]
   ·rw[if_neg h1,if_neg (by omega)]
theorem Gn_eq (J:Nat) : ∀ (n:Nat) (M:List Nat),M.length=n->(∀t∈M,t<J) -> ∀m,Gn M m J=(Hn M m:Rat):=by
 intro n;induction n using Nat.strongRecOn with
 |_ n ih=>
  intro M hl hM;match M,hl,hM with
  | [],_,_=>intro m;rw[Gn_nil];cases m<;>rfl
  |s::M,hl,hM=>
   have hM1:=fun m=>ih M.length (by rw[<- hl,yE];omega) M rfl (fun t ht=>hM t (yB _ ht)) m
   refine Gn_of hM1 ?_;by_cases he : ∀t∈M,t=s
   ·have ha : ∀t∈s::M,t=s:=fun t ht=>by
     rcases wq.1 ht with h|h
     ·exact h
     ·exact he t h
    rw[Gn_rep ha (by simp) J,if_pos (hM s yF)];unfold coef;rw[count_rep s _ ha,if_pos (by simp),ser_rep s _ ha,yE];by_cases hn:M=[]
    ·subst hn;rfl
    ·rw[Hn_zero hn];have:0<M.length:=List.length_pos_iff.2 hn;rw[if_neg (by omega)];rfl
   ·obtain⟨t,ht,hts⟩ : ∃t,t∈M/\t≠s:=by
     refine Classical.byContradiction fun hc=>he fun t ht=>Classical.byContradiction fun hts=>hc ⟨t,ht,hts⟩
    have hn:M≠[]:=by rintro rfl;cases ht
    rw[Hn_zero hn];have p:=List.perm_cons_erase ht;obtain⟨M0,hM0⟩ : ∃M0,M0=M.erase t:=⟨_,rfl⟩
    rw[<- hM0]at p;have p1:(s::M).Perm (s::t::M0):=List.Perm.cons s p;have p2:(s::M).Perm (t::s::M0):=p1.trans (List.Perm.swap t s M0);have lM:M.length=M0.length+1:=by rw[p.length_eq,yE]
    have i1:=ih (M0.length+1) (by rw[<- hl,yE];omega) (t::M0) (by simp) (fun u hu=>hM u (yB _ (p.mem_iff.2 hu))) 0;have i2:=ih (M0.length+1) (by rw[<- hl,yE];omega) (s::M0) (by simp) (fun u hu=>by
     rcases wq.1 hu with h|h
     ·rw[h];exact hM s yF
     ·exact hM u (yB _ (p.mem_iff.2 (yB _ h)))) 0
    have e0:(Hn (t::M0) 0)=(Hn (s::M0) 0):=rfl;have s1:=Gn_step s (t::M0) 0 J;have s2:=Gn_step t (s::M0) 0 J;rw[<- Gn_perm p1,<- Gn_perm p1,i1]at s1;rw[<- Gn_perm p2,<- Gn_perm p2,i2,<- e0]at s2;have d:((s:Rat)-(t:Rat))*Gn (s::M) 0 J=0:=by
     generalize Gn (s::M) (0+1) J=z at *
     generalize Gn (s::M) 0 J=y at *
     grind
    rcases Rat.mul_eq_zero.1 d with h|h
    ·exact absurd h (sub_ne hts)
    ·rw[h];rfl
end Go.Ex
namespace Go.Ex
def isI (q:Rat):Prop := ∃z:Int,q=(z:Rat)
theorem isI_int (z:Int):isI (z:Rat):=⟨z,rfl⟩
theorem isI_nat (n:Nat):isI (n:Rat):=⟨(n:Int),rfl⟩
theorem isI_add {a b:Rat} (h:isI a) (g:isI b):isI (a+b):=by
 obtain⟨x,rfl⟩:=h;obtain⟨y,rfl⟩:=g;exact⟨x+y,by rw[Rat.intCast_add]⟩
theorem isI_sub {a b:Rat} (h:isI a) (g:isI b):isI (a-b):=by
 obtain⟨x,rfl⟩:=h;obtain⟨y,rfl⟩:=g;exact⟨x-y,by rw[Rat.intCast_sub]⟩
theorem isI_mul {a b:Rat} (h:isI a) (g:isI b):isI (a*b):=by
 obtain⟨x,rfl⟩:=h;obtain⟨y,rfl⟩:=g;exact⟨x*y,by rw[wm]⟩
theorem isI_zero:isI 0:=⟨0,rfl⟩
theorem isI_one:isI 1:=⟨1,rfl⟩
theorem isI_pow {a:Rat} (h:isI a) : ∀n:Nat,isI (a^n)
 |0=>by rw[yx];exact isI_one
 |n+1=>by rw[yp];exact isI_mul (isI_pow h n) h
def prd (j:Nat):List Nat->Int
 | []=>1
 |s::M=>if s=j then prd j M else prd j M*((j:Int)-(s:Int))
theorem castd (j s:Nat):(((j:Int)-(s:Int):Int):Rat)=(j:Rat)-(s:Rat):=by rw[Rat.intCast_sub];rfl
theorem ser_int {A:Int} (j:Nat) : ∀M:List Nat,(∀s∈M,s≠j->((j:Int)-(s:Int))∣A) -> ∀k,isI (ser j M k*(prd j M:Rat)*(A:Rat)^k)
 | [],_,k=>by
  unfold ser prd;by_cases h:k=0
  ·subst h;rw[if_pos rfl,yx];exact⟨1,by decide +kernel⟩
  ·rw[if_neg h];exact⟨0,by grind⟩
 |s::M,hA,k=>by
  have ih:=ser_int j M (fun t ht=>hA t (yB _ ht));unfold ser prd;by_cases h:s=j
  ·rw[if_pos h,if_pos h];exact ih k
  ·rw[if_neg h,if_neg h];obtain⟨e,he⟩:=hA s yF h;have hd:=sub_ne h;have eA:(A:Rat)=((j:Rat)-(s:Rat))*(e:Rat):=by rw[he,wm,castd]
   rw[wm,castd];have key : ∀k,isI (dvu ((j:Rat)-(s:Rat)) (ser j M) k*((prd j M:Rat)*((j:Rat)-(s:Rat)))*(A:Rat)^k):=by
    intro k;have m:=mulu_dvu hd (ser j M);induction k with
    |zero=>
     have m0:((j:Rat)-(s:Rat))*dvu ((j:Rat)-(s:Rat)) (ser j M) 0=ser j M 0:=m 0;have i0:=ih 0;rw[<- m0]at i0;obtain⟨z,hz⟩:=i0;exact⟨z,by rw[<- hz];grind⟩
    |succ k ihk=>
     have m1:((j:Rat)-(s:Rat))*dvu ((j:Rat)-(s:Rat)) (ser j M) (k+1)+dvu ((j:Rat)-(s:Rat)) (ser j M) k=ser j M (k+1):=m (k+1);have i1:=isI_sub (ih (k+1)) (isI_mul ihk (isI_int e));obtain⟨z,hz⟩:=i1;refine⟨z,?_⟩;rw[<- hz,<- m1,yp,eA];generalize ((j:Rat)-(s:Rat))=d at *
     generalize dvu d (ser j M) (k+1)=y at *
     generalize dvu d (ser j M) k=y' at *
     generalize (d*(e:Rat))^k=P at *
     grind
   have:=key k;simpa only using this
theorem one_le_sub {j s:Nat} (h:s≠j):1<=(j:Rat)-(s:Rat)\/(j:Rat)-(s:Rat) <= -1:=by
 rcases xk s j with g|g
 ·left;have:((s+1:Nat):Rat)<=(j:Rat):=by exact_mod_cast g
  have e:((s+1:Nat):Rat)=(s:Rat)+1:=by exact_mod_cast rfl
  rw[e]at this;grind
 ·right;have g':j+1<=s:=by omega
  have:((j+1:Nat):Rat)<=(s:Rat):=by exact_mod_cast g'
  have e:((j+1:Nat):Rat)=(j:Rat)+1:=by exact_mod_cast rfl
  rw[e]at this;grind
def Bdd (x B:Rat):Prop := -B<=x/\x<=B
theorem Bdd_nn {x B:Rat} (h:Bdd x B):0<=B:=by obtain⟨a,b⟩:=h;grind
theorem Bdd_add {x y B C:Rat} (h:Bdd x B) (g:Bdd y C):Bdd (x+y) (B+C):=by
 obtain⟨a,b⟩:=h;obtain⟨c,d⟩:=g;constructor<;>grind
theorem Bdd_sub {x y B C:Rat} (h:Bdd x B) (g:Bdd y C):Bdd (x-y) (B+C):=by
 obtain⟨a,b⟩:=h;obtain⟨c,d⟩:=g;constructor<;>grind
theorem Bdd_mul {x y B C:Rat} (h:Bdd x B) (g:Bdd y C):Bdd (x*y) (B*C):=by
 have nB:=Bdd_nn h;have nC:=Bdd_nn g;obtain⟨a,b⟩:=h;obtain⟨c,d⟩:=g;have m1:=xL (show 0<=B-x by grind) (show 0<=C-y by grind);have m2:=xL (show 0<=B+x by grind) (show 0<=C+y by grind);have m3:=xL (show 0<=B-x by grind) (show 0<=C+y by grind);have m4:=xL (show 0<=B+x by grind) (show 0<=C-y by grind);constructor<;>grind
theorem Bdd_mono {x B C:Rat} (h:Bdd x B) (g:B<=C):Bdd x C:=by
 obtain⟨a,b⟩:=h;constructor<;>grind
theorem Bdd_div {x d B:Rat} (h:Bdd x B) (hd:1<=d\/d <= -1):Bdd (x/d) B:=by
 have dn:d≠0:=by grind
 have e:=mul_div d x dn;have nB:=Bdd_nn h;obtain⟨a,b⟩:=h;generalize x/d=y at *
 rcases hd with hd|hd
 ·constructor
  ·refine zf.1 fun c => ?_
   have:=xL (show 0<=d-1 by grind) (show 0 <= -y-B by grind);have:=xL (show 0<=d-1 by grind) nB;grind
  ·refine zf.1 fun c => ?_
   have:=xL (show 0<=d-1 by grind) (show 0<=y-B by grind);have:=xL (show 0<=d-1 by grind) nB;grind
 ·constructor
  ·refine zf.1 fun c => ?_
   have:=xL (show 0 <= -d-1 by grind) (show 0 <= -y-B by grind);have:=xL (show 0 <= -d-1 by grind) nB;grind
  ·refine zf.1 fun c => ?_
   have:=xL (show 0 <= -d-1 by grind) (show 0<=y-B by grind);have:=xL (show 0 <= -d-1 by grind) nB;grind
abbrev t2 (w:Nat):Rat:=((2^w:Nat):Rat)
theorem t2_pos (w:Nat):0<t2 w:=by
 have:0<2^w:=xM (by omega);exact_mod_cast this
theorem t2_succ (w:Nat):t2 (w+1)=t2 w+t2 w:=by
 show ((2^(w+1):Nat):Rat)=((2^w:Nat):Rat)+((2^w:Nat):Rat)
 rw[xW,Nat.mul_two];exact_mod_cast rfl
theorem t2_add (a b:Nat):t2 (a+b)=t2 a*t2 b:=by
 show ((2^(a+b):Nat):Rat)=_;rw[xN];exact_mod_cast rfl
theorem t2_mono {a b:Nat} (h:a<=b:=by omega):t2 a<=t2 b:=by
 have:2^a<=2^b:=xE (by omega) h;exact_mod_cast this
theorem dvu_bd {d:Rat} (hd:1<=d\/d <= -1) {f:Nat->Rat} {L:Nat} (h : ∀k,Bdd (f k) (t2 (L+k))) : ∀k,Bdd (dvu d f k) (t2 (L+1+k))
 |0=>Bdd_div (Bdd_mono (h 0) (t2_mono)) hd
 |k+1=>by
  have ih:=dvu_bd hd h k;refine Bdd_div ?_ hd;have e:=Bdd_sub (h (k+1)) (Bdd_mono ih (t2_mono (show L+1+k<=L+(k+1) by omega)));rw[show L+1+(k+1)=L+(k+1)+1 by omega,t2_succ];exact e
theorem ser_bd (j:Nat) : ∀ (M:List Nat) k,Bdd (ser j M k) (t2 (M.length+k))
 | [],k=>by
  unfold ser;have:=t2_mono (a:=0) (b:=([]:List Nat).length+k);have e:t2 0=1:=rfl;rw[e]at this;split
  ·exact⟨by grind,this⟩
  ·exact⟨by grind,by grind⟩
 |s::M,k=>by
  unfold ser;have ih:=ser_bd j M;by_cases h:s=j
  ·rw[if_pos h];exact Bdd_mono (ih k) (t2_mono (by simp))
  ·rw[if_neg h];have:=dvu_bd (one_le_sub h) ih k;rw[yE];exact this
theorem coef_bd (j:Nat) (M:List Nat) (i:Nat):Bdd (coef j M i) (t2 (M.length+M.count j)):=by
 unfold coef;split
 ·exact Bdd_mono (ser_bd j M _) (t2_mono)
 ·have:=t2_pos (M.length+M.count j);exact⟨by grind,by grind⟩
def nds:Nat->List Nat
 |0=>[]
 |n+1=>List.range 4097++nds n
theorem nds_lt : ∀n,∀t∈nds n,t<4097
 |0,t,h=>by cases h
 |n+1,t,h=>by
  rcases List.mem_append.1 h with h|h
  ·exact zW.1 h
  ·exact nds_lt n t h
theorem nds_len : ∀n,(nds n).length=4097*n
 |0=>rfl
 |n+1=>by
  show (List.range 4097++nds n).length=_;rw[xq,nds_len n,List.length_range];omega
theorem range_cnt {j:Nat} : ∀m,(List.range m).count j=if j<m then 1 else 0
 |0=>by rw[if_neg (by omega)];rfl
 |m+1=>by
  rw[List.range_succ,List.count_append,range_cnt m,List.count_singleton];rcases Nat.lt_trichotomy j m with h|h|h
  ·rw[if_pos h,if_pos (show j<m+1 by omega),show (m==j)=false from beq_eq_false_iff_ne.2 (by omega)];rfl
  ·subst h;rw[if_neg (by omega),if_pos (show j<j+1 by omega),beq_self_eq_true];rfl
  ·rw[if_neg (show ¬j<m by omega),if_neg (show ¬j<m+1 by omega),show (m==j)=false from beq_eq_false_iff_ne.2 (by omega)];rfl
theorem nds_cnt {j:Nat} (hj:j<4097) : ∀n,(nds n).count j=n
 |0=>rfl
 |n+1=>by
  show (List.range 4097++nds n).count j=_;rw[List.count_append,nds_cnt hj n,range_cnt,if_pos hj];omega
theorem prd_append (j:Nat) : ∀M M',prd j (M++M')=prd j M*prd j M'
 | [],M'=>by show prd j M'=1*prd j M';rw[Int.one_mul]
 |s::M,M'=>by
  show (if s=j then prd j (M++M') else prd j (M++M')*_)=(if s=j then prd j M else prd j M*_)*prd j M';split
  ·exact prd_append j M M'
  ·rw[prd_append j M M',Int.mul_assoc,Int.mul_assoc,Int.mul_comm (prd j M')]
theorem prd_nds (j:Nat) : ∀n,prd j (nds n)=prd j (List.range 4097)^n
 |0=>by rw[Int.pow_zero];rfl
 |n+1=>by
  show prd j (List.range 4097++nds n)=_;rw[prd_append,prd_nds j n,Int.pow_succ,Int.mul_comm]
def lcR:Nat->Nat->Nat
 |0,s=>s
 |d+1,s=>Nat.lcm (lcR d s) (lcR d (s+2^d))
theorem lcR_dvd : ∀d s k,s<=k->k<s+2^d->k∣lcR d s
 |0,s,k,h1,h2=>by
  rw[yk]at h2;obtain rfl:k=s:=by omega
  exact Nat.dvd_refl _
 |d+1,s,k,h1,h2=>by
  rw[xW]at h2;rcases xk k (s+2^d) with h|h
  ·exact Nat.dvd_trans (lcR_dvd d s k h1 h) (Nat.dvd_lcm_left _ _)
  ·exact Nat.dvd_trans (lcR_dvd d (s+2^d) k h (by omega)) (Nat.dvd_lcm_right _ _)
def L64:Int:=(lcR 12 1:Int)
theorem sub_dvd {j s:Nat} (hj:j<4097) (hs:s<4097) (h:s≠j):((j:Int)-(s:Int))∣L64:=by
 obtain⟨d,hd⟩ : ∃d:Nat,d=((j:Int)-(s:Int)).natAbs:=⟨_,rfl⟩
 have e:(2:Nat)^12=4096:=by decide
 have a:=lcR_dvd 12 1 d (by omega) (by omega);rw[<- Int.natAbs_dvd,<- hd];exact Int.natCast_dvd_natCast.2 a
theorem L64_le : ∀s:Nat,s=5950->Nat.ble (lcR 12 1) (2^s)=true/\Nat.blt 0 (lcR 12 1)=true:=by
 intro s h;subst h;decide +kernel
end Go.Ex
namespace Go.Ex
def tm (x:Rat):Nat->Rat
 |0=>1
 |m+1=>tm x m*x/((m+1:Nat):Rat)
def E (x:Rat):Nat->Rat
 |0=>0
 |m+1=>E x m+tm x m
theorem nsucc_ne (m:Nat):((m+1:Nat):Rat)≠0:=fun e=>by have:=nat_inj (b:=0) e;omega
theorem nsucc_pos (m:Nat):(0:Rat)<((m+1:Nat):Rat):=by exact_mod_cast Nat.succ_pos m
theorem nat_nn (m:Nat):(0:Rat)<=(m:Rat):=by exact_mod_cast wT m
theorem castadd (a b:Nat):((a+b:Nat):Rat)=(a:Rat)+(b:Rat):=by exact_mod_cast rfl
theorem castmul (a b:Nat):((a*b:Nat):Rat)=(a:Rat)*(b:Rat):=by exact_mod_cast rfl
theorem tm_succ (x:Rat) (m:Nat):((m+1:Nat):Rat)*tm x (m+1)=x*tm x m:=by
 show ((m+1:Nat):Rat)*(tm x m*x/((m+1:Nat):Rat))=_;rw[mul_div _ _ (nsucc_ne m),wM]
theorem div_nn {x d:Rat} (hx:0<=x) (hd:0<d):0<=x/d:=by
 have:=wi.2 hd;rw[xv];exact xL hx (xX this)
theorem tm_nn {x:Rat} (hx:0<=x) : ∀m,0<=tm x m
 |0=>by show (0:Rat)<=1;decide
 |m+1=>div_nn (xL (tm_nn hx m) hx) (nsucc_pos m)
theorem tm_pos {x:Rat} (hx:0<x) : ∀m,0<tm x m
 |0=>by show (0:Rat)<1;decide
 |m+1=>by
  show 0<tm x m*x/((m+1:Nat):Rat)
  rw[xv];exact ya (ya (tm_pos hx m) hx) (wi.2 (nsucc_pos m))
theorem cancel_l {c x y:Rat} (hc:c≠0) (h:c*x=c*y):x=y:=by
 have:c*(x-y)=0:=by grind
 rcases Rat.mul_eq_zero.1 this with h|h<;>grind
theorem tm_bin (x:Rat) : ∀n a b:Nat,a+b=n->((bin (a+b) a:Nat):Rat)*tm x (a+b)=tm x a*tm x b:=by
 intro n;induction n with
 |zero=>
  intro a b h;obtain⟨rfl,rfl⟩:a=0/\b=0:=⟨by omega,by omega⟩
  show ((1:Nat):Rat)*1=1*1;decide +kernel
 |succ n ih=>
  intro a b h;match a,b,h with
  |0,b+1,h=>
   rw[show bin (0+(b+1)) 0=1 by cases b<;>rfl,yf];show ((1:Nat):Rat)*_=1*_;rfl
  |a+1,0,h=>
   have e : ∀a,bin a a=1:=by
    intro a;induction a with
    |zero=>rfl
    |succ a iha=>show bin a a+bin a (a+1)=1;rw[iha,bin_big a (a+1) (by omega)]
   show ((bin (a+1) (a+1):Nat):Rat)*tm x (a+1)=tm x (a+1)*1;rw[e,yr];have:((1:Nat):Rat)=1:=rfl;rw[this,yK]
  |a+1,b+1,h=>
   have i1:=ih a (b+1) (by omega);have i2:=ih (a+1) b (by omega);rw[show a+(b+1)=a+b+1 by omega]at i1;rw[show a+1+b=a+b+1 by omega]at i2;rw[show a+1+(b+1)=a+b+1+1 by omega];have s:=tm_succ x (a+b+1);have sa:=tm_succ x a;have sb:=tm_succ x b;have eb:((bin (a+b+1+1) (a+1):Nat):Rat)=(bin (a+b+1) a:Rat)+(bin (a+b+1) (a+1):Rat):=by
    rw[<- castadd];rfl
   refine cancel_l (nsucc_ne (a+b+1)) ?_;have en:((a+b+1+1:Nat):Rat)=((a+1:Nat):Rat)+((b+1:Nat):Rat):=by rw[<- castadd];congr 1;omega
   rw[eb];have l:((a+b+1+1:Nat):Rat)*(((bin (a+b+1) a:Rat)+(bin (a+b+1) (a+1):Rat))*tm x (a+b+1+1))=((bin (a+b+1) a:Rat)+(bin (a+b+1) (a+1):Rat))*(((a+b+1+1:Nat):Rat)*tm x (a+b+1+1)):=by grind
   rw[l,s];have r:((a+b+1+1:Nat):Rat)*(tm x (a+1)*tm x (b+1))=(((a+1:Nat):Rat)*tm x (a+1))*tm x (b+1)+tm x (a+1)*(((b+1:Nat):Rat)*tm x (b+1)):=by rw[en];grind
   rw[r,sa,sb];have l2:((bin (a+b+1) a:Rat)+(bin (a+b+1) (a+1):Rat))*(x*tm x (a+b+1))=x*((bin (a+b+1) a:Rat)*tm x (a+b+1))+x*((bin (a+b+1) (a+1):Rat)*tm x (a+b+1)):=by grind
   rw[l2,i1,i2];grind
theorem tm_scale (j x:Rat) : ∀m,tm (j*x) m=j^m*tm x m
 |0=>by show (1:Rat)=j^0*1;rw[yx];decide +kernel
 |m+1=>by
  show tm (j*x) m*(j*x)/_=j^(m+1)*(tm x m*x/_)
  rw[tm_scale j x m,yp,xv,xv];grind
theorem bw_tm (j x:Rat) {m i:Nat} (h:i<=m):bw j m i*tm x m=tm x i*tm (j*x) (m-i):=by
 have b:=tm_bin x m i (m-i) (by omega);rw[show i+(m-i)=m by omega]at b;unfold bw;rw[tm_scale];have:(bin m i:Rat)*j^(m-i)*tm x m=j^(m-i)*((bin m i:Rat)*tm x m):=by grind
 rw[this,b];grind
theorem bw_big (j:Rat) {m i:Nat} (h:m<i:=by omega):bw j m i=0:=by
 unfold bw;rw[bin_big m i h];have:((0:Nat):Rat)=0:=rfl;rw[this,yM]
def Rn (M:List Nat) (x:Rat):Nat->Rat
 |0=>0
 |K+1=>Rn M x K+(Hn M K:Rat)*tm x K
def lv1 (a:Nat->Rat) (x:Rat) (v:Nat->Rat):Nat->Rat
 |0=>0
 |c+1=>lv1 a x v c+a c*tm x c*v c
def LV (M:List Nat) (x:Rat) (v:Nat->Nat->Rat):Nat->Rat
 |0=>0
 |J+1=>LV M x v J+lv1 (coef J M) x (v J) (M.count J)
theorem lv1_step (j x:Rat) (a:Nat->Rat) (K:Nat) : ∀c,lv1 a x (fun i=>E (j*x) (K+1-i)) c=lv1 a x (fun i=>E (j*x) (K-i)) c+gs j a K c*tm x K
 |0=>by show (0:Rat)=0+0*_;grind
 |c+1=>by
  show lv1 a x (fun i=>E (j*x) (K+1-i)) c+a c*tm x c*E (j*x) (K+1-c)=lv1 a x (fun i=>E (j*x) (K-i)) c+a c*tm x c*E (j*x) (K-c)+(gs j a K c+a c*bw j K c)*tm x K;rw[lv1_step j x a K c];by_cases h:c<=K
  ·rw[show K+1-c=K-c+1 by omega];have b:=bw_tm j x h;show _+a c*tm x c*(E (j*x) (K-c)+tm (j*x) (K-c))=_;have:a c*bw j K c*tm x K=a c*(bw j K c*tm x K):=by grind
   rw[Rat.add_mul,this,b];grind
  ·rw[bw_big j,show K+1-c=0 by omega,show K-c=0 by omega];grind
theorem LV_step (M:List Nat) (x:Rat) (K:Nat) : ∀J,LV M x (fun j i=>E ((j:Rat)*x) (K+1-i)) J=LV M x (fun j i=>E ((j:Rat)*x) (K-i)) J+Gn M K J*tm x K
 |0=>by show (0:Rat)=0+0*_;grind
 |J+1=>by
  show LV M x _ J+lv1 _ x (fun i=>E ((J:Rat)*x) (K+1-i)) _=LV M x _ J+lv1 _ x (fun i=>E ((J:Rat)*x) (K-i)) _+(Gn M K J+gs _ _ _ _)*tm x K;rw[LV_step M x K J,lv1_step];grind
theorem lv1_zero (a:Nat->Rat) (x:Rat) {v:Nat->Rat} (h : ∀i,v i=0) : ∀c,lv1 a x v c=0
 |0=>rfl
 |c+1=>by show lv1 a x v c+a c*tm x c*v c=0;rw[lv1_zero a x h c,h];grind
theorem LV_zero (M:List Nat) (x:Rat) {v:Nat->Nat->Rat} (h : ∀j i,v j i=0) : ∀J,LV M x v J=0
 |0=>rfl
 |J+1=>by show LV M x v J+lv1 _ x (v J) _=0;rw[LV_zero M x h J,lv1_zero _ x (h J)];grind
theorem Rn_eq {M:List Nat} {J:Nat} (hM : ∀t∈M,t<J) (x:Rat) : ∀K,LV M x (fun j i=>E ((j:Rat)*x) (K-i)) J=Rn M x K
 |0=>LV_zero M x (fun j i=>by rw[Nat.zero_sub];rfl) J
 |K+1=>by
  rw[LV_step,Rn_eq hM x K,Gn_eq J M.length M rfl hM K];rfl
theorem lv1_diff {a:Nat->Rat} {x A T e:Rat} {v v':Nat->Rat} (hx:0<=x) (hA : ∀i,Bdd (a i) A) : ∀c,(∀i,i<c->tm x i<=T)->(∀i,i<c->Bdd (v i-v' i) e)->Bdd (lv1 a x v c-lv1 a x v' c) ((c:Rat)*(A*T*e))
 |0,_,_=>by
  show Bdd (0-0) (((0:Nat):Rat)*_);have:((0:Nat):Rat)=0:=rfl;rw[this];constructor<;>grind
 |c+1,hT,hv=>by
  have ih:=lv1_diff (v:=v) (v':=v') hx hA c (fun i hi=>hT i (by omega)) (fun i hi=>hv i (by omega));have ht:Bdd (tm x c) T:=⟨by have:=tm_nn hx c;have:=hT c (by omega);grind,hT c (by omega)⟩
  have b:=Bdd_mul (Bdd_mul (hA c) ht) (hv c (by omega));have s:=Bdd_add ih b;have e1:lv1 a x v (c+1)-lv1 a x v' (c+1)=lv1 a x v c-lv1 a x v' c+a c*tm x c*(v c-v' c):=by
   show lv1 a x v c+a c*tm x c*v c-(lv1 a x v' c+a c*tm x c*v' c)=_;grind
  have e2:((c+1:Nat):Rat)*(A*T*e)=(c:Rat)*(A*T*e)+A*T*e:=by
   have:((c+1:Nat):Rat)=(c:Rat)+1:=castadd c 1;rw[this];grind
  rw[e1,e2];exact s
theorem LV_diff {M:List Nat} {x A T e:Rat} {v v':Nat->Nat->Rat} {n:Nat} (hx:0<=x) : ∀J,(∀j,j<J->M.count j=n /\ ∀i,Bdd (coef j M i) A)->(∀i,i<n->tm x i<=T)->(∀j i,j<J->i<n->Bdd (v j i-v' j i) e)->Bdd (LV M x v J-LV M x v' J) ((J:Rat)*((n:Rat)*(A*T*e)))
 |0,_,_,_=>by
  show Bdd (0-0) (((0:Nat):Rat)*_);have:((0:Nat):Rat)=0:=rfl;rw[this];constructor<;>grind
 |J+1,hA,hT,hv=>by
  have ih:=LV_diff (v:=v) (v':=v') hx J (fun j hj=>hA j (by omega)) hT (fun j i hj hi=>hv j i (by omega) hi);obtain⟨hc,hb⟩:=hA J (by omega);have b:=lv1_diff (v:=v J) (v':=v' J) hx hb n hT (fun i hi=>hv J i (by omega) hi);have s:=Bdd_add ih b;have e1:LV M x v (J+1)-LV M x v' (J+1)=LV M x v J-LV M x v' J+(lv1 (coef J M) x (v J) n-lv1 (coef J M) x (v' J) n):=by
   show LV M x v J+lv1 _ x (v J) (M.count J)-(LV M x v' J+lv1 _ x (v' J) (M.count J))=_;rw[hc];grind
  have e2:((J+1:Nat):Rat)*((n:Rat)*(A*T*e))=(J:Rat)*((n:Rat)*(A*T*e))+(n:Rat)*(A*T*e):=by
   have:((J+1:Nat):Rat)=(J:Rat)+1:=castadd J 1;rw[this];grind
  rw[e1,e2];exact s
theorem Hn_small : ∀ (M:List Nat) (m:Nat),m+1<M.length->Hn M m=0
 | [],_,h=>by simp at h
 |s::M,0,h=>Hn_zero (by rintro rfl;simp at h)
 |s::M,m+1,h=>by
  show s*Hn (s::M) m+Hn M m=0;rw[Hn_small (s::M) m (by omega),Hn_small M m (by rw[yE]at h;omega),yY]
theorem Hn_first : ∀ (M:List Nat) (m:Nat),m+1=M.length->Hn M m=1
 | [],_,h=>by simp at h
 |s::M,0,h=>by
  have:M=[]:=by cases M;rfl;simp at h
  subst this;rfl
 |s::M,m+1,h=>by
  show s*Hn (s::M) m+Hn M m=1;rw[Hn_small (s::M) m (by omega),Hn_first M m (by rw[yE]at h;omega),yY,yf]
theorem Hn_le {c:Nat} : ∀ (M:List Nat) (m:Nat),(∀t∈M,t<=c)->0<M.length->Hn M m<=bin m (M.length-1)*c^(m-(M.length-1))
 |s::M,0,h,_=>by
  show (if M=[] then 1 else 0)<=_;by_cases e:M=[]
  ·subst e;rw[if_pos rfl];exact xU _
  ·rw[if_neg e];exact wT _
 |s::M,m+1,h,hl=>by
  have i1:=Hn_le (s::M) m h (by simp);have hs:=h s yF;show s*Hn (s::M) m+Hn M m<=_;rw[yE,wV]at *
  by_cases e:M=[]
  ·subst e;have hz:Hn [] m=0:=by cases m<;>rfl
   rw[hz];show s*Hn [s] m+0<=bin (m+1) 0*c^(m+1);have b0:bin (m+1) 0=1:=rfl;have b1:bin m 0=1:=by cases m<;>rfl
   rw[b0,xe];have i1':Hn [s] m<=bin m 0*c^m:=i1;rw[b1,xe]at i1';have:=xJ hs i1';rw[xW,xV (c^m)];omega
  ·obtain⟨k,hk⟩ : ∃k,M.length=k+1:=⟨M.length-1,by have:0<M.length:=List.length_pos_iff.2 e;omega⟩
   have i2:=Hn_le M m (fun t ht=>h t (yB _ ht)) (by omega);rw[hk]at i1 i2 ⊢;rw[wV]at i2;show _<=(bin m k+bin m (k+1))*c^(m+1-(k+1));rw[show m+1-(k+1)=m-k by omega,xY];have m1:=xJ hs i1;by_cases h2:k+1<=m
   ·have e2:c*(bin m (k+1)*c^(m-(k+1)))=bin m (k+1)*c^(m-k):=by
     rw[show m-k=m-(k+1)+1 by omega,xW,yn,xV c]
    rw[e2]at m1;omega
   ·rw[bin_big m (k+1) (by omega)]at m1 ⊢;rw[zM]at m1 ⊢;omega
end Go.Ex
namespace Go.Ex
theorem E_nn {x:Rat} (hx:0<=x) : ∀K,0<=E x K
 |0=>xi
 |K+1=>by show 0<=E x K+tm x K;have:=E_nn hx K;have:=tm_nn hx K;grind
theorem E_mono {x:Rat} (hx:0<=x) {K L:Nat} (h:K<=L):E x K<=E x L:=by
 induction L with
 |zero=>rw[show K=0 by omega];exact xi
 |succ L ih=>
  by_cases e:K=L+1
  ·rw[e];exact xi
  ·have:=ih (by omega);have:=tm_nn hx L;show E x K<=E x L+tm x L;grind
def cv (f g:Nat->Rat) (n:Nat):Nat->Rat
 |0=>0
 |c+1=>cv f g n c+f c*g (n-c)
theorem cv_step (x y:Rat) (n:Nat) : ∀c,c<=n->((n+1:Nat):Rat)*cv (tm x) (tm y) (n+1) (c+1)=x*cv (tm x) (tm y) n c+y*cv (tm x) (tm y) n (c+1)
 |0,_=>by
  have s:=tm_succ y n;show ((n+1:Nat):Rat)*(0+1*tm y (n+1))=x*0+y*(0+1*tm y n)
  grind
 |c+1,h=>by
  have ih:=cv_step x y n c (by omega);obtain⟨d,hd⟩ : ∃d,n=c+1+d:=⟨n-(c+1),by omega⟩
  have s1:=tm_succ x c;have s2:=tm_succ y d;show ((n+1:Nat):Rat)*(cv (tm x) (tm y) (n+1) (c+1)+tm x (c+1)*tm y (n+1-(c+1)))=x*(cv (tm x) (tm y) n c+tm x c*tm y (n-c))+y*(cv (tm x) (tm y) n (c+1)+tm x (c+1)*tm y (n-(c+1)))
  rw[show n+1-(c+1)=d+1 by omega,show n-c=d+1 by omega,show n-(c+1)=d by omega];have en:((n+1:Nat):Rat)=((c+1:Nat):Rat)+((d+1:Nat):Rat):=by rw[<- castadd];congr 1;omega
  have l:((n+1:Nat):Rat)*(tm x (c+1)*tm y (d+1))=(((c+1:Nat):Rat)*tm x (c+1))*tm y (d+1)+tm x (c+1)*(((d+1:Nat):Rat)*tm y (d+1)):=by rw[en];grind
  rw[Rat.mul_add,ih,l,s1,s2];grind
theorem cv_full (x y:Rat) : ∀n,cv (tm x) (tm y) n (n+1)=tm (x+y) n
 |0=>by show 0+(1:Rat)*1=1;decide +kernel
 |n+1=>by
  have ih:=cv_full x y n;have c1:=cv_step x y n n (xU n);have s1:=tm_succ x n;have s:=tm_succ (x+y) n;refine cancel_l (nsucc_ne n) ?_;rw[s,<- ih];have e1:cv (tm x) (tm y) (n+1) (n+1+1)=cv (tm x) (tm y) (n+1) (n+1)+tm x (n+1)*1:=by
   show _+tm x (n+1)*tm y (n+1-(n+1))=_;rw[Nat.sub_self];rfl
  have e2:cv (tm x) (tm y) n (n+1)=cv (tm x) (tm y) n n+tm x n*1:=by
   show _+tm x n*tm y (n-n)=_;rw[Nat.sub_self];rfl
  rw[e1,Rat.mul_add,c1,yr,s1];have e3:(x+y)*cv (tm x) (tm y) n (n+1)=x*cv (tm x) (tm y) n (n+1)+y*cv (tm x) (tm y) n (n+1):=by grind
  rw[e3];have e4:x*cv (tm x) (tm y) n (n+1)=x*cv (tm x) (tm y) n n+x*tm x n:=by rw[e2];grind
  rw[e4];grind
def pe (x y:Rat) (N:Nat):Nat->Rat
 |0=>0
 |c+1=>pe x y N c+tm x c*E y (N-c)
theorem pe_step (x y:Rat) (N:Nat) : ∀c,c<=N+1->pe x y (N+1) c=pe x y N c+cv (tm x) (tm y) N c
 |0,_=>by show (0:Rat)=0+0;grind
 |c+1,h=>by
  have ih:=pe_step x y N c (by omega);show pe x y (N+1) c+tm x c*E y (N+1-c)=pe x y N c+tm x c*E y (N-c)+(cv (tm x) (tm y) N c+tm x c*tm y (N-c))
  rw[ih,show N+1-c=N-c+1 by omega];show _+tm x c*(E y (N-c)+tm y (N-c))=_;grind
theorem pe_full (x y:Rat) : ∀N,pe x y N N=E (x+y) N
 |0=>rfl
 |N+1=>by
  have ih:=pe_full x y N;show pe x y (N+1) (N+1)=E (x+y) N+tm (x+y) N;rw[pe_step x y N (N+1) (xU _),cv_full,<- ih];show pe x y N N+tm x N*E y (N-N)+_=_;rw[Nat.sub_self];show pe x y N N+tm x N*0+_=_;grind
theorem pe_le {x y:Rat} (hx:0<=x) (hy:0<=y) (N:Nat) : ∀c,pe x y N c<=E x c*E y N
 |0=>by show (0:Rat)<=0*_;rw[yM];exact xi
 |c+1=>by
  have ih:=pe_le hx hy N c;have m:=xI (E_mono hy (zY N c)) (tm_nn hx c);show pe x y N c+tm x c*E y (N-c)<=(E x c+tm x c)*E y N;grind
theorem pe_ge {x y:Rat} (hx:0<=x) (hy:0<=y) (K L:Nat) : ∀c,c<=K->E x c*E y L<=pe x y (K+L) c
 |0,_=>by show (0:Rat)*_<=0;rw[yM];exact xi
 |c+1,h=>by
  have ih:=pe_ge hx hy K L c (by omega);have m:=xI (E_mono hy (show L<=K+L-c by omega)) (tm_nn hx c);show (E x c+tm x c)*E y L<=pe x y (K+L) c+tm x c*E y (K+L-c);grind
theorem pe_up {x y:Rat} (hx:0<=x) (hy:0<=y) (N:Nat) {c d:Nat} (h:c<=d):pe x y N c<=pe x y N d:=by
 induction d with
 |zero=>rw[show c=0 by omega];exact xi
 |succ d ih=>
  by_cases e:c=d+1
  ·rw[e];exact xi
  ·have:=ih (by omega);have:=xL (tm_nn hx d) (E_nn hy (N-d));show pe x y N c<=pe x y N d+_;grind
theorem E_add_le {x y:Rat} (hx:0<=x) (hy:0<=y) (N:Nat):E (x+y) N<=E x N*E y N:=by
 rw[<- pe_full];exact pe_le hx hy N N
theorem E_add_ge {x y:Rat} (hx:0<=x) (hy:0<=y) (K L:Nat):E x K*E y L<=E (x+y) (K+L):=by
 rw[<- pe_full];exact xO (pe_ge hx hy K L K (xU _)) (pe_up hx hy _ (wZ _ _))
theorem pow_nn {x:Rat} (hx:0<=x) : ∀n:Nat,0<=x^n
 |0=>by rw[yx];decide
 |n+1=>by rw[yp];exact xL (pow_nn hx n) hx
theorem E_zero : ∀K,E 0 (K+1)=1
 |0=>by show (0:Rat)+1=1;decide +kernel
 |K+1=>by
  show E 0 (K+1)+tm 0 K*0/_=1;rw[E_zero K,Rat.mul_zero,xv,yM,Rat.add_zero]
theorem mul_nat (j:Nat) (x:Rat):((j+1:Nat):Rat)*x=(j:Rat)*x+x:=by
 have:((j+1:Nat):Rat)=(j:Rat)+1:=castadd j 1;rw[this];grind
theorem jx_nn {x:Rat} (hx:0<=x) (j:Nat):0<=(j:Rat)*x:=xL (nat_nn j) hx
theorem E_pow_ge {x:Rat} (hx:0<=x) {K:Nat} (hK:0<K) : ∀j:Nat,E ((j:Rat)*x) K<=E x K^j
 |0=>by
  have:((0:Nat):Rat)=0:=rfl;rw[this,yM,yx];obtain⟨k,rfl⟩ : ∃k,K=k+1:=⟨K-1,by omega⟩
  rw[E_zero];exact xi
 |j+1=>by
  have ih:=E_pow_ge hx hK j;rw[mul_nat,yp];exact xO (E_add_le (jx_nn hx j) hx K) (xA ih (E_nn hx K))
theorem E_pow_le {x:Rat} (hx:0<=x) (K:Nat) : ∀j:Nat,E x K^j<=E ((j:Rat)*x) (j*K+1)
 |0=>by
  have:((0:Nat):Rat)=0:=rfl;rw[this,yM,yx,zM,E_zero];exact xi
 |j+1=>by
  have ih:=E_pow_le hx K j;rw[mul_nat,yp,show (j+1)*K+1=j*K+1+K by rw[xY];omega];exact xO (xA ih (E_nn hx K)) (E_add_ge (jx_nn hx j) hx _ K)
theorem le_by {x y c:Rat} (hc:0<c) (h:x*c<=y*c):x<=y:=by
 rcases zV (a:=x) (b:=y) with h1|h1
 ·exact h1
 ·have h2:=xA h1 (by grind:(0:Rat)<=c);have h3:(x-y)*c=0:=by grind
  rcases Rat.mul_eq_zero.1 h3 with h4|h4<;>grind
theorem tm_half {y:Rat} (hy:0<=y) {m:Nat} (h:y+y<=((m+1:Nat):Rat)):tm y (m+1)+tm y (m+1)<=tm y m:=by
 have s:=tm_succ y m;have p:=nsucc_pos m;refine le_by p ?_;have n:=tm_nn hy m;have m1:=xA h n;grind
theorem E_tail {y:Rat} (hy:0<=y) {N:Nat} (h:y+y<=((N+1:Nat):Rat)) : ∀k,E y (N+k)+2*tm y (N+k)<=E y N+2*tm y N
 |0=>xi
 |k+1=>by
  have ih:=E_tail hy h k;have c:((N+1:Nat):Rat)<=((N+k+1:Nat):Rat):=by exact_mod_cast (by omega:N+1<=N+k+1)
  have t:=tm_half hy (m:=N+k) (xO h c);show E y (N+k)+tm y (N+k)+2*tm y (N+k+1)<=_;grind
theorem E_tail_le {y:Rat} (hy:0<=y) {N L:Nat} (h:y+y<=((N+1:Nat):Rat)):E y L<=E y N+2*tm y N:=by
 by_cases g:N<=L
 ·have t:=E_tail hy h (L-N);rw[show N+(L-N)=L by omega]at t;have:=tm_nn hy L;grind
 ·have:=E_mono hy (show L<=N by omega);have:=tm_nn hy N;grind
theorem tm_pow2 {y:Rat} (hy:0<=y) {N:Nat} (h:y+y<=((N+1:Nat):Rat)) : ∀k,tm y (N+k)*t2 k<=tm y N
 |0=>by show tm y N*1<=tm y N;rw[yr];exact xi
 |k+1=>by
  have ih:=tm_pow2 hy h k;have c:((N+1:Nat):Rat)<=((N+k+1:Nat):Rat):=by exact_mod_cast (by omega:N+1<=N+k+1)
  have t:=tm_half hy (m:=N+k) (xO h c);have m:=xA t (xX (t2_pos k));rw[t2_succ];show tm y (N+k+1)*(t2 k+t2 k)<=_;grind
theorem denR (D:Rat):D*(D.den:Rat)=(D.num:Rat):=by
 have dn:(0:Rat)<(D.den:Rat):=by exact_mod_cast Rat.den_pos (self:=D)
 have:=(Rat.mkRat_eq_div D.num D.den).symm.trans (wh D);have e:=yD (a:=(D.num:Rat)) (b:=(D.den:Rat)) (by grind);rwa [this]at e
theorem le_nat (D:Rat) : ∃n:Nat,D<=(n:Rat):=by
 refine⟨D.num.natAbs,?_⟩;have e:=denR D;have h1:(1:Rat)<=(D.den:Rat):=by exact_mod_cast D.den_pos
 have h2:(D.num:Rat)<=((D.num.natAbs:Int):Rat):=wF.2 (by omega);have h3:((D.num.natAbs:Int):Rat)=(D.num.natAbs:Rat):=rfl;rw[h3]at h2;rcases zV (a:=D) (b:=0) with g|g
 ·exact xO g (nat_nn _)
 ·have:=xI h1 g;grind
theorem nat_t2 (n:Nat):(n:Rat)<=t2 n:=by
 have:n<=2^n:=wR (Nat.lt_two_pow_self);exact_mod_cast this
theorem tm_small {y:Rat} (hy:0<=y) {e:Rat} (he:0<e) : ∃N:Nat,∀m,N<=m->y+y<=((m+1:Nat):Rat)/\2*tm y m<=e:=by
 obtain⟨n0,h0⟩:=le_nat (y+y);obtain⟨n1,h1⟩:=le_nat (2*tm y n0/e);have hn:y+y<=((n0+1:Nat):Rat):=xO h0 (by exact_mod_cast yq n0);refine⟨n0+n1,fun m hm=>⟨xO hn (by exact_mod_cast (by omega:n0+1<=m+1)),?_⟩⟩;have t:=tm_pow2 hy hn (m-n0);rw[show n0+(m-n0)=m by omega]at t;have a:(n1:Rat)<=t2 (m-n0):=xO (nat_t2 n1) (t2_mono);have b:=xO h1 a;have c:=xA b (xX he);rw[yD (by grind)]at c;have P:=t2_pos (m-n0);refine le_by P ?_;generalize t2 (m-n0)=w at *
 grind
end Go.Ex
namespace Go.Ex
theorem castpow (z:Int) : ∀n:Nat,((z^n:Int):Rat)=(z:Rat)^n
 |0=>by rw[Int.pow_zero,yx];rfl
 |n+1=>by rw[Int.pow_succ,yp,wm,castpow z n]
theorem castpowN (z:Nat) : ∀n:Nat,((z^n:Nat):Rat)=(z:Rat)^n
 |0=>by rw[yk,yx];rfl
 |n+1=>by rw[xW,yp,castmul,castpowN z n]
theorem pow_plus (q:Rat) (m:Nat) : ∀n:Nat,q^(m+n)=q^m*q^n
 |0=>by rw[yJ,yx,yr]
 |n+1=>by rw[<- zX,yp,pow_plus q m n,yp,wP]
theorem mul_powR (p q:Rat) : ∀n:Nat,(p*q)^n=p^n*q^n
 |0=>by rw[yx,yx,yx];decide +kernel
 |n+1=>by rw[yp,mul_powR p q n,yp,yp];grind
def fac:Nat->Nat
 |0=>1
 |n+1=>fac n*(n+1)
theorem fac_pos : ∀n,0<fac n
 |0=>Nat.one_pos
 |n+1=>zI (fac_pos n) (Nat.succ_pos n)
theorem fac_dvd (i:Nat) : ∀d,fac i∣fac (i+d)
 |0=>Nat.dvd_refl _
 |d+1=>Nat.dvd_trans (fac_dvd i d) (Nat.dvd_mul_right _ _)
theorem fac_two : ∀s i d:Nat,i+d=s->fac i*fac d∣fac (i+d)
 |0,i,d,h=>by
  obtain⟨rfl,rfl⟩:i=0/\d=0:=by omega
  exact Nat.dvd_refl _
 |s+1,0,d,_=>by rw[yf];show 1*fac d∣fac d;rw[xe];exact Nat.dvd_refl _
 |s+1,i+1,0,_=>by rw[yJ];show fac (i+1)*1∣_;rw[xu];exact Nat.dvd_refl _
 |s+1,i+1,d+1,h=>by
  have a:=fac_two s i (d+1) (by omega);have b:=fac_two s (i+1) d (by omega);have e:fac (i+1+(d+1))=fac (i+(d+1))*(i+1)+fac (i+1+d)*(d+1):=by
   rw[show i+1+(d+1)=(i+d+1)+1 by omega,show i+(d+1)=i+d+1 by omega,show i+1+d=i+d+1 by omega,<- xZ];show fac (i+d+1)*(i+d+1+1)=_;congr 1;omega
  rw[e];refine Nat.dvd_add ?_ ?_
  ·have:fac (i+1)*fac (d+1)=fac i*fac (d+1)*(i+1):=by show fac i*(i+1)*fac (d+1)=_;rw[wL]
   rw[this];exact Nat.mul_dvd_mul_right a _
  ·have:fac (i+1)*fac (d+1)=fac (i+1)*fac d*(d+1):=by show fac (i+1)*(fac d*(d+1))=_;rw[xP]
   rw[this];exact Nat.mul_dvd_mul_right b _
theorem prd_one {j k:Nat} (h:k≠j:=by omega):prd j [k]=(j:Int)-(k:Int):=by
 show (if k=j then prd j [] else prd j []*_)=_;rw[if_neg h];show (1:Int)*_=_;rw[Int.one_mul]
theorem prd_self (j:Nat):prd j [j]=1:=by
 show (if j=j then prd j [] else prd j []*_)=_;rw[if_pos rfl];rfl
theorem prd_low (j:Nat) : ∀k,k<=j->prd j (List.range k)*(fac (j-k):Int)=(fac j:Int)
 |0,_=>by show (1:Int)*_=_;rw[Int.one_mul,Nat.sub_zero]
 |k+1,h=>by
  have ih:=prd_low j k (by omega);rw[List.range_succ,prd_append,prd_one];obtain⟨d,hd⟩ : ∃d,j-k=d+1:=⟨j-k-1,by omega⟩
  have e:fac (j-k)=fac (j-(k+1))*(d+1):=by rw[hd,show j-(k+1)=d by omega];rfl
  rw[e]at ih;rw[show (j:Int)-(k:Int)=((d+1:Nat):Int) by omega,<- ih,xw,Int.mul_assoc,Int.mul_comm ((d+1:Nat):Int)]
theorem prd_high (j:Nat) : ∀d,∃s:Int,(s=1\/s = -1)/\prd j (List.range (j+1+d))=s*((fac j*fac d:Nat):Int)
 |0=>by
  have l:=prd_low j j (xU j);rw[Nat.sub_self]at l;refine⟨1,.inl rfl,?_⟩;rw[yJ,List.range_succ,prd_append,prd_self,xw,<- l,Int.one_mul,Int.mul_one];show _=prd j (List.range j)*((1:Nat):Int)*((1:Nat):Int)
  omega
 |d+1=>by
  obtain⟨s,hs,e⟩:=prd_high j d;refine⟨-s,by omega,?_⟩;rw[<- zX,List.range_succ,prd_append,prd_one,e,show (j:Int)-((j+1+d:Nat):Int) = -((d+1:Nat):Int) by omega];have:fac j*fac (d+1)=fac j*fac d*(d+1):=by show fac j*(fac d*(d+1))=_;rw[xP]
  rw[this,xw (fac j*fac d),Int.neg_mul,wt,Int.mul_assoc]
def F64:Int:=(fac 4096:Int)
theorem prd_dvd {j:Nat} (hj:j<4097):prd j (List.range 4097)∣F64:=by
 obtain⟨s,hs,e⟩:=prd_high j (4096-j);rw[show j+1+(4096-j)=4097 by omega]at e;have d:=fac_two 4096 j (4096-j) (by omega);rw[show j+(4096-j)=4096 by omega]at d;have d2:((fac j*fac (4096-j):Nat):Int)∣F64:=Int.natCast_dvd_natCast.2 d;rw[e];rcases hs with rfl|rfl
 ·rw[Int.one_mul];exact d2
 ·rw[Int.neg_mul,Int.one_mul];exact Int.neg_dvd.2 d2
theorem coef_int {j n i:Nat} (hj:j<4097:=by omega):isI (coef j (nds n) i*((F64:Rat)^n*(L64:Rat)^n)):=by
 unfold coef;rw[nds_cnt hj];split
 ·rename_i h;have s:=ser_int (A:=L64) j (nds n) (fun t ht hne=>sub_dvd hj (nds_lt n t ht) hne) (n-1-i);rw[prd_nds,castpow]at s;obtain⟨z,hz⟩:=prd_dvd hj;rw[hz,wm,mul_powR,show n=(n-1-i)+(i+1) by omega,pow_plus (L64:Rat)];have e:=isI_mul s (isI_mul (isI_pow (isI_int z) n) (isI_pow (isI_int L64) (i+1)));rw[show n-1-i+(i+1)=n by omega];obtain⟨w,hw⟩:=e;refine⟨w,?_⟩;rw[<- hw];grind
 ·rw[yM];exact isI_zero
theorem tm_fac (x:Rat) : ∀m,tm x m*(fac m:Rat)=x^m
 |0=>by rw[yx];show (1:Rat)*((1:Nat):Rat)=1;decide +kernel
 |m+1=>by
  have s:=tm_succ x m;show tm x (m+1)*((fac m*(m+1):Nat):Rat)=_;rw[castmul,yp,<- tm_fac x m];have:tm x (m+1)*((fac m:Rat)*((m+1:Nat):Rat))=(((m+1:Nat):Rat)*tm x (m+1))*(fac m:Rat):=by grind
  rw[this,s];grind
theorem tm_int {x:Rat} {a b:Nat} (hx:x*(b:Rat)=(a:Rat)) {i n:Nat} (h:i<=n:=by omega):isI (tm x i*((b:Rat)^n*(fac n:Rat))):=by
 obtain⟨d,rfl⟩ : ∃d,n=i+d:=⟨n-i,by omega⟩
 obtain⟨q,hq⟩:=fac_dvd i d;rw[hq,castmul,pow_plus];have t:=tm_fac x i;have e:tm x i*((b:Rat)^i*(b:Rat)^d*((fac i:Rat)*(q:Rat)))=(x*(b:Rat))^i*((b:Rat)^d*(q:Rat)):=by
  rw[mul_powR,<- t];grind
 rw[e,hx];exact isI_mul (isI_pow (isI_nat a) i) (isI_mul (isI_pow (isI_nat b) d) (isI_nat q))
theorem al_int {al:Rat} {u v:Nat} (h:al*(v:Rat)=(u:Rat)) {j J:Nat} (hj:j<=J:=by omega):isI (al^j*(v:Rat)^J):=by
 obtain⟨d,rfl⟩ : ∃d,J=j+d:=⟨J-j,by omega⟩
 rw[pow_plus];have e:al^j*((v:Rat)^j*(v:Rat)^d)=(al*(v:Rat))^j*(v:Rat)^d:=by rw[mul_powR];grind
 rw[e,h];exact isI_mul (isI_pow (isI_nat u) j) (isI_pow (isI_nat v) d)
theorem lv1_int {a:Nat->Rat} {x y C T V:Rat} (hC : ∀i,isI (a i*C)) : ∀c,(∀i,i<c->isI (tm x i*T))->isI (y*V)->isI (lv1 a x (fun _=>y) c*(C*T*V))
 |0,_,_=>by show isI (0*_);rw[yM];exact isI_zero
 |c+1,hT,hV=>by
  have ih:=lv1_int (x:=x) hC c (fun i hi=>hT i (by omega)) hV;have t:=isI_mul (isI_mul (hC c) (hT c (by omega))) hV;have e:lv1 a x (fun _=>y) (c+1)*(C*T*V)=lv1 a x (fun _=>y) c*(C*T*V)+a c*C*(tm x c*T)*(y*V):=by
   show (lv1 a x (fun _=>y) c+a c*tm x c*y)*(C*T*V)=_;grind
  rw[e];exact isI_add ih t
theorem LV_int {n:Nat} {x al T V:Rat} (hT : ∀i,i<n->isI (tm x i*T)) : ∀J,J<=4097->(∀j,j<J->isI (al^j*V))->isI (LV (nds n) x (fun j _=>al^j) J*((F64:Rat)^n*(L64:Rat)^n*T*V))
 |0,_,_=>by show isI (0*_);rw[yM];exact isI_zero
 |J+1,hJ,hV=>by
  have ih:=LV_int (al:=al) hT J (by omega) (fun j hj=>hV j (by omega));have t:=lv1_int (a:=coef J (nds n)) (x:=x) (y:=al^J) (C:=(F64:Rat)^n*(L64:Rat)^n) (T:=T) (V:=V) (fun i=>coef_int) n hT (hV J (by omega));have e:LV (nds n) x (fun j _=>al^j) (J+1)=LV (nds n) x (fun j _=>al^j) J+lv1 (coef J (nds n)) x (fun _=>al^J) n:=by
   show _+lv1 _ x _ ((nds n).count J)=_;rw[nds_cnt (by omega)]
  rw[e,Rat.add_mul];exact isI_add ih t
theorem Rn_nn {M:List Nat} {x:Rat} (hx:0<=x) : ∀K,0<=Rn M x K
 |0=>xi
 |K+1=>by
  have:=Rn_nn (M:=M) hx K;have:=xL (nat_nn (Hn M K)) (tm_nn hx K);show 0<=Rn M x K+_;grind
theorem Rn_ge {M:List Nat} {x:Rat} {N:Nat} (hx:0<=x) (hN:N+1=M.length) : ∀K,N<K->tm x N<=Rn M x K
 |K+1,h=>by
  show tm x N<=Rn M x K+(Hn M K:Rat)*tm x K;by_cases e:N=K
  ·subst e;rw[Hn_first M N hN];have:=Rn_nn (M:=M) hx N;have h1:((1:Nat):Rat)=1:=rfl;rw[h1];grind
  ·have ih:=Rn_ge hx hN K (by omega);have:=xL (nat_nn (Hn M K)) (tm_nn hx K);grind
theorem Rn_le {M:List Nat} {x:Rat} {N c:Nat} (hx:0<=x) (hN:N+1=M.length) (hM : ∀t∈M,t<=c) : ∀K,Rn M x K<=tm x N*E ((c:Rat)*x) (K-N)
 |0=>by
  show (0:Rat)<=tm x N*E _ (0-N);exact xL (tm_nn hx N) (E_nn (jx_nn hx c) _)
 |K+1=>by
  have ih:=Rn_le hx hN hM K;show Rn M x K+(Hn M K:Rat)*tm x K<=_;by_cases h:N<=K
  ·rw[show K+1-N=K-N+1 by omega];show _<=tm x N*(E ((c:Rat)*x) (K-N)+tm ((c:Rat)*x) (K-N))
   have b:=bw_tm (c:Rat) x h;have hl:=Hn_le M K hM (by omega);rw[show M.length-1=N by omega]at hl;have hr:(Hn M K:Rat)<=bw (c:Rat) K N:=by
    have:((Hn M K:Nat):Rat)<=((bin K N*c^(K-N):Nat):Rat):=by exact_mod_cast hl
    rw[castmul,castpowN]at this;exact this
   have m:=xA hr (tm_nn hx K);rw[b]at m;grind
  ·rw[Hn_small M K (by omega),show K+1-N=K-N by omega];have:((0:Nat):Rat)=0:=rfl;rw[this,yM,Rat.add_zero];exact ih
theorem bern (N:Nat) : ∀k,k<=N+1->(N+1-k)*(N+1)^k<=(N+1)*N^k
 |0,_=>by rw[yk,yk,Nat.sub_zero];exact xU _
 |k+1,h=>by
  have ih:=bern N k (by omega);obtain⟨d,hd⟩ : ∃d,N=k+d:=⟨N-k,by omega⟩
  have m:=xB N ih;rw[xW,xW,show N+1-(k+1)=d by omega];rw[show N+1-k=d+1 by omega]at m;refine xG ?_ (xG m (by rw[xP];exact xU _));have e1:d*((N+1)^k*(N+1))=d*(N+1)*(N+1)^k:=by rw[xV ((N+1)^k),xP]
  have e2:(d+1)*(N+1)^k*N=(d+1)*N*(N+1)^k:=by rw[xP,xV ((N+1)^k),xP]
  rw[e1,e2];refine xB _ ?_;rw[xZ,xY,xu,xe];omega
theorem four (N:Nat):(N+1)^N<=4*N^N:=by
 have key : ∀k,2*k<=N+1->(N+1)^k<=2*N^k:=by
  intro k hk;have b:=bern N k (by omega);have m:=xB ((N+1)^k) (show N+1<=2*(N+1-k) by omega);have:(N+1)*(N+1)^k<=(N+1)*(2*N^k):=by
   refine xG m ?_;rw[xP 2,yn (N+1) 2];exact xF 2 b
  exact Nat.le_of_mul_le_mul_left this (Nat.succ_pos N)
 have sq : ∀k,2*k<=N+1->(N+1)^(2*k)<=4*N^(2*k):=by
  intro k hk;have h:=key k hk;have m:=xJ h h;rw[show 2*k=k+k by omega,xN,xN];refine xG m ?_;have:2*N^k*(2*N^k)=4*(N^k*N^k):=by rw[Nat.mul_mul_mul_comm]
  rw[this];exact xU _
 by_cases h:N%2=0
 ·have:=sq (N/2) (by omega);rwa [show 2*(N/2)=N by omega]at this
 ·have:=sq ((N+1)/2) (by omega);rw[show 2*((N+1)/2)=N+1 by omega,xW,xW]at this;have h2:(N+1)^N*(N+1)<=4*N^N*(N+1):=by
   refine xG this ?_;rw[<- xP];exact xF _ (yq N)
  exact yw h2 (Nat.succ_pos N)
theorem fac_low : ∀N,N^N<=4^N*fac N
 |0=>xU _
 |N+1=>by
  have ih:=fac_low N;have f:=four N;show (N+1)^N*(N+1)<=4^N*4*(fac N*(N+1))
  have e:4^N*4*(fac N*(N+1))=4*(4^N*fac N)*(N+1):=by
   rw[xV (4^N) 4,xP 4,xP 4,xP (4^N)]
  rw[e];exact xB _ (xG f (xF 4 ih))
theorem fac_up : ∀N,fac N<=N^N
 |0=>xU _
 |N+1=>by
  show fac N*(N+1)<=(N+1)^N*(N+1)
  exact xB _ (xG (fac_up N) (zj (yq N) N))
end Go.Ex
namespace Go.Ex
theorem castle {a b:Nat} (h:a<=b:=by omega):(a:Rat)<=(b:Rat):=by exact_mod_cast h
theorem castlt {a b:Nat} (h:a<b:=by omega):(a:Rat)<(b:Rat):=by exact_mod_cast h
theorem big_fac {n N b v r m sF sL sB sv:Nat} (hn:n=8192) (hN:N=33562623) (hr:r=425985) (hm:m=4096) (hsF:sF=49152) (hsL:sL=5950) (hsB:sB=11000) (hsv:sv=520) (hb:b<=2^sB) (hv:v<=2^sv) (F L:Nat) (hF:F<=2^sF) (hL:L<=2^sL) :
  F^n*L^n*(b^n*fac n)*v^m*64^N*2^r<fac N:=by
 have h1:F^n<=2^(sF*n):=by rw[zJ];exact zj hF n
 have h2:L^n<=2^(sL*n):=by rw[zJ];exact zj hL n
 have h3:b^n<=2^(sB*n):=by rw[zJ];exact zj hb n
 have h4:fac n<=2^(13*n):=by
  refine xG (fac_up n) ?_;rw[zJ];exact zj (by omega) n
 have h5:v^m<=2^(sv*m):=by rw[zJ];exact zj hv m
 have h6:64^N<=2^(6*N):=by rw[zJ];exact xU _
 have h7:2^(23*N)<=fac N:=by
  have a:2^(25*N)<=N^N:=by rw[zJ];exact zj (by omega) N
  have c:(4:Nat)^N=2^(2*N):=by rw[zJ]
  have d:=xG a (fac_low N);rw[c,show 25*N=2*N+23*N by omega,xN]at d;exact Nat.le_of_mul_le_mul_left d (xM (by omega))
 refine xr (yX (xJ (xJ (xJ (xJ (xJ h1 h2) (xJ h3 h4)) h5) h6) (xU (2^r))) ?_) h7;rw[<- xN,<- xN,<- xN,<- xN,<- xN,<- xN];have e1:sF*n=49152*n:=by rw[hsF]
 have e2:sv*m=2129920:=by rw[hsv,hm]
 have e3:sL*n=5950*n:=by rw[hsL]
 have e4:sB*n=11000*n:=by rw[hsB]
 exact wa (by omega) (by omega)
theorem small_fac {n N b W r sB:Nat} (hn:n=8192) (hN:N=33562623) (hr:r=425999) (hsB:sB=11000) (hb:b<=2^sB) (hW:371000000000<=W) :
  4097*n*2^(4098*n)*2^(6*n)*2^r*fac N*b^N<=2^W:=by
 have h1:4097*n<=2^26:=by omega
 have h3:b^N<=2^(sB*N):=by rw[zJ];exact zj hb N
 have h4:fac N<=2^(26*N):=by
  refine xG (fac_up N) ?_;rw[zJ];exact zj (by omega) N
 refine xG (xJ (xJ (xJ (xJ (xJ h1 (xU _)) (xU _)) (xU _)) h4) h3) ?_;rw[<- xN,<- xN,<- xN,<- xN,<- xN];have e4:sB*N=11000*N:=by rw[hsB]
 exact xE (by omega) (by omega)
theorem tm_mono {x y:Rat} (hx:0<=x) (h:x<=y) : ∀m,tm x m<=tm y m
 |0=>xi
 |m+1=>by
  refine le_by (nsucc_pos m) ?_;have s1:=tm_succ x m;have s2:=tm_succ y m;have ih:=tm_mono hx h m;have m1:=xA h (tm_nn hx m);have m2:=xI ih (show 0<=y by grind);rw[wM (tm x (m+1)),s1,wM (tm y (m+1)),s2];exact xO m1 m2
theorem tm_64 {x:Rat} (hx:0<=x) (h:x<=64) : ∀i,tm x i<=t2 (6*i)
 |0=>xi
 |i+1=>by
  refine le_by (nsucc_pos i) ?_;have s:=tm_succ x i;have ih:=tm_64 hx h i;have m1:=xA h (tm_nn hx i);have e:t2 (6*(i+1))=64*t2 (6*i):=by
   rw[show 6*(i+1)=6+6*i by omega,t2_add];rfl
  have c:(1:Rat)<=((i+1:Nat):Rat):=castle (show 1<=i+1 by omega);have P:=xX (t2_pos (6*(i+1)));have m2:=xI c P;rw[wM (tm x (i+1)),s];rw[e]at m2 ⊢;generalize t2 (6*i)=w at *
  grind
theorem pow_diff {e al B d:Rat} (he:0<=e) (hal:0<=al) (h1:e<=B) (h2:al<=B) (hB:1<=B) (hd:Bdd (e-al) d) : ∀j:Nat,Bdd (e^j-al^j) ((j:Rat)*(B^j*d))/\Bdd (e^j) (B^j)/\Bdd (al^j) (B^j)
 |0=>by
  rw[yx,yx,yx];have:((0:Nat):Rat)=0:=rfl;rw[this];refine⟨⟨by grind,by grind⟩,⟨by decide,xi⟩,⟨by decide,xi⟩⟩
 |j+1=>by
  obtain⟨ih,b1,b2⟩:=pow_diff he hal h1 h2 hB hd j;have c1:Bdd e B:=⟨by grind,h1⟩
  have c2:Bdd al B:=⟨by grind,h2⟩
  rw[yp,yp,yp];refine⟨?_,Bdd_mul b1 c1,Bdd_mul b2 c2⟩;have m1:=Bdd_mul b1 hd;have m2:=Bdd_mul ih c2;have s:=Bdd_add m1 m2;have nd:=Bdd_nn hd;have nB:=Bdd_nn b1;have k:=xI hB (xL nB nd);have ej:((j+1:Nat):Rat)=(j:Rat)+1:=castadd j 1;have e1:e^j*e-al^j*al=e^j*(e-al)+(e^j-al^j)*al:=by grind
  rw[e1,ej];refine Bdd_mono s ?_;generalize B^j=P at *
  grind
theorem pow_t2 (k:Nat) : ∀j:Nat,t2 k^j=t2 (k*j)
 |0=>by rw[yx,yY];rfl
 |j+1=>by rw[yp,pow_t2 k j,Nat.mul_succ,t2_add]
end Go.Ex
namespace Go.Ex
theorem mul_div4 {a b:Rat} (hb:0<b):b*(a/b)=a:=mul_div b a (by grind)
theorem exp_far {a b u v W:Nat} {x al:Rat} (hW:371000000000<=W) (ha:0<a) (hb:0<b) {sB:Nat} (hsB:sB=11000) (hb2:b<=2^sB) (hx:x*(b:Rat)=(a:Rat)) (hx2:x<=64) {sv:Nat} (hsv:sv=520) (hv:0<v) (hv2:v<=2^sv) (hal:al*(v:Rat)=(u:Rat)) (ha0:0<al) (ha2:al<=t2 103) :
  ∃K0:Nat,∀K,K0<=K -> ¬Bdd ((E x K-al)*t2 W) 1:=by
 obtain⟨n,hn⟩ : ∃n:Nat,n=8192:=⟨_,rfl⟩
 obtain⟨N,hN⟩ : ∃N:Nat,N=33562623:=⟨_,rfl⟩
 obtain⟨q,hq⟩ : ∃q:Nat,q=425984:=⟨_,rfl⟩
 obtain⟨sF,hsF⟩ : ∃q:Nat,q=49152:=⟨_,rfl⟩
 have bp:(0:Rat)<(b:Rat):=castlt hb;have vp:(0:Rat)<(v:Rat):=castlt hv;have hx0:0<x:=by
  rcases zV (a:=x) (b:=0) with h|h
  ·have m:=xA h (xX bp);rw[hx,yM]at m;have:(0:Rat)<(a:Rat):=castlt ha;grind
  ·by_cases e:x=0
   ·subst e;rw[yM]at hx;have:(0:Rat)<(a:Rat):=castlt ha;grind
   ·grind
 have hx0':=xX hx0;have T0:=tm_pos hx0 N
 -- how small the rest must be
 obtain⟨C,hC⟩ : ∃C:Rat,C=((4097:Nat):Rat)*((n:Rat)*(t2 (4098*n)*t2 (6*n))):=⟨_,rfl⟩
 have Cp:0<C:=by
  rw[hC];exact ya (castlt (a:=0) (b:=4097)) (ya (castlt (a:=0) (b:=n)) (ya (t2_pos _) (t2_pos _)))
 obtain⟨eta,heta⟩ : ∃e:Rat,e=tm x N/(4*C):=⟨_,rfl⟩
 have C4:0<4*C:=ya (by decide) Cp;have etaC:4*C*eta=tm x N:=by rw[heta];exact mul_div4 C4
 have etap:0<eta:=by
  rw[heta,xv];exact ya T0 (wi.2 C4)
 obtain⟨N2,hN2⟩:=tm_small (y:=((4096:Nat):Rat)*x) (jx_nn hx0' 4096) etap;refine⟨N2+n+N+1,fun K hK hB => ?_⟩;obtain⟨e,he⟩ : ∃e:Rat,e=E x K:=⟨_,rfl⟩
 rw[<- he]at hB;have e0:0<=e:=by rw[he];exact E_nn hx0' K
 -- the distance
 obtain⟨d,hd⟩ : ∃d:Rat,d=1/t2 W:=⟨_,rfl⟩
 have Wp:=t2_pos W;have dW:t2 W*d=1:=by rw[hd];exact mul_div4 Wp
 have d0:0<d:=by
  rw[hd,xv,yK];exact wi.2 Wp
 have hd2:Bdd (e-al) d:=by
  obtain⟨b1,b2⟩:=hB;constructor
  ·refine le_by Wp ?_;rw[show -d*t2 W = -(t2 W*d) by grind,dW];exact b1
  ·refine le_by Wp ?_;rw[show d*t2 W=t2 W*d by grind,dW];exact b2
 have d1:d<=1:=by
  refine le_by Wp ?_;rw[show d*t2 W=t2 W*d by grind,dW,yK];exact castle (xM (by omega))
 have B1:(1:Rat)<=t2 104:=by decide +kernel
 have eB:e<=t2 104:=by
  have:t2 104=t2 103+t2 103:=t2_succ 103;have h1:(1:Rat)<=t2 103:=by decide +kernel
  obtain⟨b1,b2⟩:=hd2;rw[this];grind
 have alB:al<=t2 104:=xO ha2 (t2_mono);have pd:=pow_diff e0 (xX ha0) eB alB B1 hd2;obtain⟨Bq,hBq⟩ : ∃q:Rat,q=t2 104:=⟨_,rfl⟩
 rw[<- hBq]at pd B1 eB alB;have Bmono : ∀j:Nat,j<=4096->Bq^j<=t2 q:=by
  intro j hj;rw[hBq,pow_t2];exact t2_mono
 -- the two forms
 have hM:=nds_lt n;have req:=Rn_eq hM x K;obtain⟨R,hR⟩ : ∃R,R=Rn (nds n) x K:=⟨_,rfl⟩
 obtain⟨Q,hQ⟩ : ∃Q,Q=LV (nds n) x (fun j _=>al^j) 4097:=⟨_,rfl⟩
 have hl:N+1=(nds n).length:=by rw[nds_len];omega
 have Rge:tm x N<=R:=by rw[hR];exact Rn_ge hx0' hl K (by omega)
 have Rle:R<=tm x N*t2 q:=by
  rw[hR];refine xO (Rn_le (c:=4096) hx0' hl (fun t ht=>by have:=hM t ht;omega) K) ?_;refine xI ?_ (xX T0);refine xO (E_mono (jx_nn hx0' 4096) (zY K N)) ?_;refine xO (E_pow_ge hx0' (by omega) 4096) ?_;rw[<- he];exact xO (pd 4096).2.1.2 (Bmono 4096 (by omega))
 have err : ∀j i:Nat,j<4097->i<n->Bdd (E ((j:Rat)*x) (K-i)-al^j) (eta+4096*(t2 q*d)):=by
  intro j i hj hi;have j64:((j:Nat):Rat)*x<=((4096:Nat):Rat)*x:=xA (castle) hx0';obtain⟨g1,g2⟩:=hN2 (K-i) (by omega);have up:=E_tail_le (L:=j*K+1) (jx_nn hx0' j) (N:=K-i) (by
   refine xO ?_ g1;grind)
  have g3:=tm_mono (jx_nn hx0' j) j64 (K-i);have lo:=xO (E_mono (jx_nn hx0' j) (zY K i)) (E_pow_ge hx0' (show 0<K by omega) j);have hi2:=xO (E_pow_le hx0' K j) up;rw[<- he]at lo hi2;have b1:Bdd (E ((j:Rat)*x) (K-i)-e^j) eta:=by
   constructor<;>grind
  have b2:=(pd j).1;have b3:Bdd (e^j-al^j) (4096*(t2 q*d)):=by
   refine Bdd_mono b2 ?_;have m1:=xA (Bmono j (by omega)) (xX d0);have m2:(j:Rat)<=4096:=castle (show j<=4096 by omega);have n1:=xL (Bdd_nn (pd j).2.1) (xX d0);have m3:=xA m2 n1;have m4:=xI m1 (show (0:Rat)<=4096 by decide);exact xO m3 m4
  have s:=Bdd_add b1 b2;have s:=Bdd_add b1 b3;have e1:E ((j:Rat)*x) (K-i)-al^j=E ((j:Rat)*x) (K-i)-e^j+(e^j-al^j):=by grind
  rw[e1];exact s
 have df:=LV_diff (M:=nds n) (x:=x) (A:=t2 (4098*n)) (T:=t2 (6*n)) (n:=n) hx0' 4097 (fun j hj=>⟨nds_cnt hj n,fun i=>Bdd_mono (coef_bd j (nds n) i) (t2_mono (by rw[nds_len,nds_cnt hj];omega))⟩)
  (fun i hi=>xO (tm_64 hx0' hx2 i) (t2_mono)) err
 rw[req,<- hR,<- hQ]at df;have eC:((4097:Nat):Rat)*((n:Rat)*(t2 (4098*n)*t2 (6*n)*(eta+4096*(t2 q*d))))=C*eta+C*(4096*(t2 q*d)):=by rw[hC];grind
 rw[eC]at df
 -- the distance's part is small as well
 have sm:4*(C*(4096*(t2 q*d)))<=tm x N:=by
  have s:=castle (small_fac (b:=b) (r:=q+15) hn hN (by omega) hsB hb2 hW);have tf:=tm_fac x N;have xb:x^N*(b:Rat)^N=(a:Rat)^N:=by rw[<- mul_powR,hx]
  have aN:(1:Rat)<=(a:Rat)^N:=by rw[<- castpowN];exact castle (xM ha)
  have bN:(0:Rat)<(b:Rat)^N:=by rw[<- castpowN];exact castlt (xM hb)
  have fN:(0:Rat)<(fac N:Rat):=castlt (fac_pos N);have P:0<t2 W*((fac N:Rat)*(b:Rat)^N):=ya Wp (ya fN bN);refine le_by P ?_;have l:4*(C*(4096*(t2 q*d)))*(t2 W*((fac N:Rat)*(b:Rat)^N))=4*(C*(4096*t2 q))*((fac N:Rat)*(b:Rat)^N)*(t2 W*d):=by grind
  have r:tm x N*(t2 W*((fac N:Rat)*(b:Rat)^N))=t2 W*(tm x N*(fac N:Rat)*(b:Rat)^N):=by grind
  rw[l,r,dW,tf,xb,yr];have c1:((4097*n*2^(4098*n)*2^(6*n)*2^(q+15)*fac N*b^N:Nat):Rat)=4*(C*(4096*t2 q))*((fac N:Rat)*(b:Rat)^N)*2:=by
   rw[castmul,castmul,castmul,castmul,castmul,castmul,castpowN b,hC];have p:((2^(q+15):Nat):Rat)=t2 q*32768:=t2_add q 15;rw[p];generalize t2 q=q';grind
  rw[c1]at s;have nn:0<=4*(C*(4096*t2 q))*((fac N:Rat)*(b:Rat)^N):=xL (xL (by decide) (xL (xX Cp) (xL (by decide) (xX (t2_pos _))))) (xL (xX fN) (xX bN));have m:=xI aN (xX Wp);have s':4*(C*(4096*t2 q))*((fac N:Rat)*(b:Rat)^N)*2<=t2 W:=s;generalize 4*(C*(4096*t2 q))*((fac N:Rat)*(b:Rat)^N)=z at *
  grind
 have ec:4*(C*eta)=tm x N:=by rw[<- etaC];grind
 obtain⟨f1,f2⟩:=df;have Qpos:0<Q:=by
  generalize C*eta=y1 at *
  generalize C*(4096*(t2 q*d))=y2 at *
  clear Rle pd err;grind
 have one:(1:Rat)<=t2 q:=by rw[show (1:Rat)=t2 0 from rfl];exact t2_mono
 have Qle:Q<=tm x N*t2 (q+1):=by
  have e2:t2 (q+1)=t2 q+t2 q:=t2_succ q;have m:=xI one (xX T0);rw[e2,Rat.mul_add];generalize tm x N*t2 q=y0 at *
  generalize C*eta=y1 at *
  generalize C*(4096*(t2 q*d))=y2 at *
  clear pd err;grind
 -- it is a whole number by a denominator
 obtain⟨k,hk⟩ : ∃k:Nat,k=4096:=⟨_,rfl⟩
 obtain⟨D,hD⟩ : ∃D:Rat,D=(F64:Rat)^n*(L64:Rat)^n*((b:Rat)^n*(fac n:Rat))*(v:Rat)^k:=⟨_,rfl⟩
 have qi:isI (Q*D):=by
  rw[hQ,hD];exact LV_int (fun i hi=>tm_int hx) 4097 (xU _) (fun j hj=>al_int hal)
 obtain⟨F,hF⟩ : ∃F:Nat,F=fac k:=⟨_,rfl⟩
 have hF':F64=(F:Int):=by rw[hF,hk];rfl
 obtain⟨L,hL⟩ : ∃L:Nat,L=lcR 12 1:=⟨_,rfl⟩
 have hL':L64=(L:Int):=by rw[hL];rfl
 have F2:F<=2^sF:=by
  rw[hF,show sF=12*k by omega];refine xG (fac_up k) ?_;rw[zJ];exact zj (by omega) k
 have F0:0<F:=by rw[hF];exact fac_pos _
 obtain⟨sL,hsL⟩ : ∃q:Nat,q=5950:=⟨_,rfl⟩
 obtain⟨k1,k2⟩:=L64_le sL hsL;have L2:L<=2^sL:=by rw[hL];exact yC k1
 have L0:0<L:=by rw[hL];exact yC k2
 clear hF hL k1 k2;have bf:=big_fac (b:=b) (v:=v) (r:=q+1) (m:=k) hn hN (by omega) hk hsF hsL hsB hsv hb2 hv2 F L F2 L2;have Dn:D=((F^n*L^n*(b^n*fac n)*v^k:Nat):Rat):=by
  rw[hD,hF',hL',castmul,castmul,castmul,castmul,castpowN,castpowN,castpowN,castpowN];rfl
 have Dpos:0<D:=by
  rw[Dn];exact castlt (zI (zI (zI (xM F0) (xM L0)) (zI (xM hb) (fac_pos n))) (xM hv))
 have lt1:Q*D<1:=by
  have fN:(0:Rat)<(fac N:Rat):=castlt (fac_pos N);have tf:=tm_fac x N;have xp:x^N<=((64^N:Nat):Rat):=by
   rw[castpowN];have g : ∀k:Nat,x^k<=((64:Nat):Rat)^k:=by
    intro k;induction k with
    |zero=>rw[yx,yx];exact xi
    |succ k ih=>
     rw[yp,yp];exact xO (xA ih hx0') (xI hx2 (pow_nn (nat_nn 64) k))
   exact g N
  have m1:=xA Qle (xX Dpos);have bf':=castlt bf;rw[castmul,castmul,<- Dn]at bf';have P6:=t2_pos (q+1);have bf2:D*((64^N:Nat):Rat)*t2 (q+1)<(fac N:Rat):=bf';have m2:=xI xp (xX (ya Dpos P6));refine Rat.not_le.1 fun hc => ?_
  have m3:=xA (xO hc m1) (xX fN);have r:tm x N*t2 (q+1)*D*(fac N:Rat)=D*t2 (q+1)*(tm x N*(fac N:Rat)):=by grind
  rw[r,tf,yK]at m3;have r2:D*((64^N:Nat):Rat)*t2 (q+1)=D*t2 (q+1)*((64^N:Nat):Rat):=by grind
  rw[r2]at bf2;exact absurd (xO m3 m2) (Rat.not_le.2 bf2)
 obtain⟨z,hz⟩:=qi;have zp:0<Q*D:=ya Qpos Dpos;rw[hz]at zp lt1;have z1:0<z:=Rat.intCast_pos.1 zp;have z2:(1:Rat)<=(z:Rat):=wF.2 (show (1:Int)<=z by omega);exact absurd z2 (Rat.not_le.2 lt1)
end Go.Ex
