/- Part 6 of the proof: the evaluator, contracts of functions and their plain laws (joined by program). No condition. -/
import Derived.Test.YtfknkoeagjonbaaGreatPart5
set_option linter.unusedVariables false
set_option linter.unusedSimpArgs false
set_option maxRecDepth 100000
namespace Go.Proofs.YtfknkoeagjonbaaGreat
open Go.Ev
section
variable {x:Rat} {a b w F1 F2:Nat}
theorem half_units (h0:0<=x) (h1:x+x<=1):2*unN x w<=2^w:=by
 have h2:2*x.num.natAbs<=x.den:=by
  have:=num_den x;have d0:(0:Rat)<(x.den:Rat):=by exact_mod_cast x.den_pos
  have h3:=xA h1 (show (0:Rat)<=(x.den:Rat) by grind);have h4:(x.num:Rat)+(x.num:Rat)<=(x.den:Rat):=by grind
  have h5:((x.num+x.num:Int):Rat)<=(((x.den:Nat):Int):Rat):=by rw[Rat.intCast_add];exact h4
  have h6:=zo.1 h5;have h7:=zL.2 h0;omega
 have h3:=wO (x.num.natAbs*2^w) x.den;have h4:=xC (2^w) h2;have h5:2*unN x w*x.den<=2^w*x.den:=by
  have e1:2*unN x w*x.den=2*(x.num.natAbs*2^w/x.den*x.den):=by rw[xP]
  have e2:2*x.num.natAbs*2^w=2*(x.num.natAbs*2^w):=by rw[xP]
  rw[xV (2^w)];omega
 exact yv h5 x.den_pos
theorem fst_ok (h1:F1<=F2) (h2:F2<=F1+2^45) (h3:F2<=2^(w+25)):okK w b (2^(w+25)) (2^75) 0 F1 F2 F1 F2:=by
 unfold okK;rw[Nat.zero_min,yr,xe,xe];refine⟨?_,?_,?_,?_,?_,?_⟩<;>omega
theorem rowC_le (hb2:b<=22):4^b*2^(w+25)<=2^69*2^w/\4^b*2^75<=2^119:=by
 have h40:4^b<=4^22:=xD (by omega) hb2;have hp:2^(w+25)=2^25*2^w:=by rw[xM,xV]
 constructor
 ·rw[hp,<- xP];exact xC _ (xH (xC _ h40) (by decide))
 ·exact xH (xC _ h40) (by decide)
theorem rowh_ends (ha:1<=a) (hb2:b<=22) (h0:0<=x) (h1:x+x<=1) (hw0:60<=w) (hw:w<=540) (g1:F1<=F2) (g2:F2<=F1+2^45) (g3:F2<=2^(w+25)) : ∃A B K,rowGo w (unN x w) (unN x w+1) a b 2201 0 F1 F2 F1 F2=some (A,B,K):=by
 have hP:2^60<=2^w:=xD (n:=2) (by omega) hw0;have hy:=half_units (w:=w) h0 h1;have ok:=fst_ok (b:=b) g1 g2 g3;unfold okK at ok;rw[Nat.zero_min,yr,xe,xe]at ok;have hC:=(rowC_le (w:=w) hb2).1;have hp:2^(w+25)=2^w*33554432:=by rw[xM]
 have hF:4^2000*(4^b*2^(w+25))<8*5^2000:=by
  obtain⟨E,hE⟩ : ∃E:Nat,E=620:=⟨_,rfl⟩
  have h49:2^69*2^w<=2^E:=by rw[<- xM];exact xD (by omega) (by omega)
  obtain⟨N4,hN4⟩ : ∃N,N=4^2000:=⟨_,rfl⟩
  obtain⟨N5,hN5⟩ : ∃N,N=5^2000:=⟨_,rfl⟩
  rw[<- hN4,<- hN5];have hk:N4*2^E<8*N5:=by rw[hN4,hN5,hE];decide +kernel
  exact yM (xI _ (xH hC h49)) hk
 exact row_early (a:=a) (b:=b) (F:=2000) (C:=2^69) (by omega) rfl hy ha hb2 b 0 _ _ _ _ _ _ (by omega) (by omega) hC (by decide) hF ok
theorem rowh_bd {A B K:Nat} (ha:1<=a) (hb2:b<=22) (h0:0<=x) (h1:x+x<=1) (hw0:60<=w) (g1:F1<=F2) (g2:F2<=F1+2^45) (g3:F2<=2^(w+25))
  (hg:rowGo w (unN x w) (unN x w+1) a b 2201 0 F1 F2 F1 F2=some (A,B,K)):A<=B/\B<=A+2^131/\B<=2^(w+81):=by
 have hP:2^60<=2^w:=xD (n:=2) (by omega) hw0;have hp:2^(w+25)=2^w*33554432:=by rw[xM]
 obtain⟨hC,hD⟩:=rowC_le (w:=w) hb2;obtain⟨i1,i2,i3,i4⟩:=row_inv (a:=a) (b:=b) (C:=2^69) (by omega) rfl (half_units (w:=w) h0 h1) ha hb2 (by omega) hC (by decide) 2201 0 _ _ _ _ hg (fst_ok g1 g2 g3);have b1:(K+1)*(4^b*2^75)<=2201*2^119:=xO (by omega) hD;have b2:(K+1)*(4^b*2^(w+25))<=2201*(2^69*2^w):=xO (by omega) hC;have b3:2^(w+81)=4096*(2^69*2^w):=by rw[show w+81=12+(69+w) by omega,xM 2 12,xM 2 69]
 have b4:64<=2^69*2^w:=xH (by decide) (yi (2^69) (by omega));omega
set_option maxHeartbeats 1000000 in
theorem incb_rowh {L A' B' K:Nat} (ha:1<=a) (ha2:a<=22) (hb:1<=b) (hb2:b<=22) (hz:szR x L) (hL:L<=300) (h0:0<=x) (h1:x+x<=1) (hw0:60<=w) (hw:w<=540)
  (fi:Go.Ev.Fn CX 172 [.int .i64 (a:Int),.int .i64 (b:Int),rv x,.int .i64 (w:Int)] (spanV F1 F2)) (g1:F1<=F2) (g2:F2<=F1+2^45) (g3:F2<=2^(w+25))
  (hg:rowGo w (unN x w) (unN x w+1) a b 2201 0 F1 F2 F1 F2=some (A',B',K)) :
  Go.Ev.Fn CX 111 [.int .i64 (a:Int),.int .i64 (b:Int),rv x,.int .i64 (w:Int)] (spanV A' B'):=by
 have hP:2^60<=2^w:=xD (n:=2) (by omega) hw0;have hp25:2^(w+25)=2^w*33554432:=by rw[xM]
 have hy:=half_units (w:=w) h0 h1;have r:Go.Ev.Fn CX 171 [rv x,.int .i64 (w:Int)] (spanV (unN x w) (unN x w+1)):=fix_Rat hz (w:=w);obtain⟨ly1,ly2⟩:=unN_len1 h0 (show x<=1 by clear r hy;grind) (show w<=900 by omega);have ok:=fst_ok (b:=b) g1 g2 g3;have hC:=(rowC_le (w:=w) hb2).1;have e65:2^(w+69)=2^69*2^w:=by rw[xM,xV]
 have step:=fun (k t1 t2 a1 a2:Nat) (h:okK w b (2^(w+25)) (2^75) k t1 t2 a1 a2)=>okK_step (a:=a) (y1:=unN x w) (y2:=unN x w+1) (C:=2^69) (by omega) rfl hy ha hb2 (by omega) hC (by decide) h
 have lens:=fun (k t1 t2 a1 a2:Nat) (hk:k<=2201) (h:okK w b (2^(w+25)) (2^75) k t1 t2 a1 a2)=>(show (lim t1).length<=40/\(lim t2).length<=40/\(lim a1).length<=40/\(lim a2).length<=40 from by
  obtain⟨q1,q2,q3,q4,q5,q6⟩:=h;have f:=(four_le (k:=k) (b:=b) (T:=2^(w+25))).2;have b1:(k+1)*(4^min k b*2^(w+25))<=4096*2^(w+69):=xO (by omega) (xH f (by rw[e65];exact hC));have b2:4096*2^(w+69)=2^(w+81):=by rw[show w+81=12+(w+69) by omega,xM 2 12]
  have b3:2^(w+69)<=2^(w+81):=xD (by omega) (by omega);have b5:4^min k b*2^(w+25)<=2^(w+69):=xH f (by rw[e65];exact hC);exact⟨lim_len_p2 (w:=w+81),lim_len_p2 (w:=w+81),lim_len_p2 (w:=w+81),lim_len_p2 (w:=w+81)⟩)
 generalize unN x w=y1 at *
 clear hz h0 h1;refine fni Tryz.f111 ?_;unfold Tryz.f111;repeat (first|simp only[go_sem]|simp (disch:=first|exact omg|fail) only[AX]|refine wki ?_|refine vfa ?_)
 refine vp_loop_inv (fun s=>s.tmp 0 = .sv (.int .i64 (a:Int))/\s.tmp 1 = .sv (.int .i64 (b:Int))/\s.tmp 3 = .sv (.int .i64 (w:Int))/\s.tmp 8 = .ptr 8 0 0/\s.obj 8 0=some [.sl 0 [],.sl 0 []]/\s.tmp 9 = .ptr 9 0 0/\s.obj 9 0=some [natV (lim y1),natV (lim (y1+1))]/\s.tmp 10 = .ptr 10 0 0/\s.tmp 11 = .ptr 11 0 0 /\
   ∃f k t1 t2 a1 a2:Nat,s.tmp 12 = .sv (.int .i64 (k:Int))/\f+k=2201/\rowGo w y1 (y1+1) a b f k t1 t2 a1 a2=some (A',B',K)/\s.obj 10 0=some [natV (lim t1),natV (lim t2)]/\s.obj 11 0=some [natV (lim a1),natV (lim a2)] /\
    okK w b (2^(w+25)) (2^75) k t1 t2 a1 a2)
  (fun s=>match s.tmp 12 with | .sv (.int _ i)=>2202-i.toNat|_=>0) ⟨rfl,rfl,rfl,rfl,rfl,rfl,rfl,rfl,rfl,2201,0,F1,F2,F1,F2,rfl,rfl,hg,rfl,rfl,ok⟩ ?_
 rintro s ⟨i0,i1,i3,i8,o8,i9,o9,i10,i11,f,k,t1,t2,a1,a2,i12,hfk,hgo,o10,o11,hok⟩
 obtain⟨lt1,lt2,la1,la2⟩:=lens k t1 t2 a1 a2 (by omega) hok;have st:=step k t1 t2 a1 a2 hok;have sm:=fix_Small (a:=t1) (b:=t2) (k:=3);clear hP hp25 e65 hC g1 g2 g3;cases f with
 |zero=>simp only[rowGo]at hgo;cases hgo
 |succ f=>
  rw[rowGo]at hgo;by_cases hs:b<=k/\t2<8
  ·rw[if_pos hs]at hgo;simp only[Option.some.injEq,Prod.mk.injEq]at hgo;obtain⟨rfl,rfl,rfl⟩:=hgo;rw[decide_eq_true (show t2<2^3 from hs.2)]at sm;have hs1:=hs.1;have wd:=fix_Wider (a:=a1) (b:=a2) (n:=64);clear step lens st hs hg;repeat (first|simp only[go_sem,i0,i1,i3,i8,o8,i9,o9,i10,i11,i12,o10,o11,xL]|simp (disch:=first|exact omg|fail) only[AX,i0,i1,i3,i8,o8,i9,o9,i10,i11,i12,o10,o11,xL]|refine wki ?_|refine vfa ?_)
  ·rw[if_neg hs]at hgo;obtain⟨lu1,lu2,lb1,lb2⟩:=lens (k+1) _ _ _ _ (by omega) st;have mu:=fix_Mul (a:=t1) (b:=t2) (c:=y1) (d:=y1+1) (w:=w);have q1:=nat_Of (a+b+2*k);have q2:=nat_Of (a+2+2*k);have lq1:(lim (a+b+2*k)).length<=1:=lim_len_one;have lq2:(lim (a+2+2*k)).length<=1:=lim_len_one;have z1:=lim_len_mul (a:=t1) (b:=y1);have z2:=lim_len_mul (a:=t2) (b:=y1+1);have z3:=lim_len_mono (xv (t1*y1) (2^w));have l1:=lim_len1;have z4:=lim_len_add (a:=t2*(y1+1)/2^w) (b:=1) (L:=200) (xH (lim_len_mono (xv (t2*(y1+1)) (2^w))) (by omega))
   have ti:=fix_Times (a:=t1*y1/2^w) (b:=t2*(y1+1)/2^w+1) (n:=a+b+2*k) (d:=a+2+2*k);rw[show ((a+b+2*k:Nat):Int)=(a:Int)+(b:Int)+2*(k:Int) by omega]at q1;rw[show ((a+2+2*k:Nat):Int)=(a:Int)+2+2*(k:Int) by omega]at q2;generalize t1*y1/2^w*(a+b+2*k)/(a+2+2*k)=u1 at *
   generalize (t2*(y1+1)/2^w+1)*(a+b+2*k)/(a+2+2*k)+1=u2 at *
   generalize t1*y1/2^w=v1 at *
   generalize t2*(y1+1)/2^w+1=v2 at *
   have ad:=fix_Add (a:=a1) (b:=a2) (c:=u1) (d:=u2);clear step lens hg;by_cases hk:b<=k
   ·rw[decide_eq_false (show ¬t2<2^3 from fun h=>hs ⟨hk,h⟩)]at sm;repeat (first|simp only[go_sem,i0,i1,i3,i8,o8,i9,o9,i10,i11,i12,o10,o11,xg]|simp (disch:=first|exact omg|fail) only[AX,i0,i1,i3,i8,o8,i9,o9,i10,i11,i12,o10,o11,xg]|refine wki ?_|refine vfa ?_)
    exact⟨⟨f,k+1,u1,u2,a1+u1,a2+u2,rfl,by omega,hgo,rfl,rfl,st⟩,by omega⟩
   ·repeat (first|simp only[go_sem,i0,i1,i3,i8,o8,i9,o9,i10,i11,i12,o10,o11]|simp (disch:=first|exact omg|fail) only[AX,i0,i1,i3,i8,o8,i9,o9,i10,i11,i12,o10,o11]|refine wki ?_)
    repeat (first|simp only[go_sem,i0,i1,i3,i8,o8,i9,o9,i10,i11,i12,o10,o11]|simp (disch:=first|exact omg|fail) only[AX,i0,i1,i3,i8,o8,i9,o9,i10,i11,i12,o10,o11]|refine wki ?_|refine vfa ?_)
    exact⟨⟨f,k+1,u1,u2,a1+u1,a2+u2,rfl,by omega,hgo,rfl,rfl,st⟩,by omega⟩
end
end Go.Proofs.YtfknkoeagjonbaaGreat
namespace Go.Proofs.YtfknkoeagjonbaaGreat
open Go.Ev
theorem num_den' (q:Rat):q*(q.den:Rat)=(q.num:Rat):=by
 have h:mkRat q.num q.den*(q.den:Rat)=(q.num:Rat):=by
  rw[wk];refine xd ?_;have:(0:Rat)<(q.den:Rat):=by exact_mod_cast q.den_pos
  grind
 rwa [wB]at h
section
variable {x:Rat} {A B w:Nat}
end
end Go.Proofs.YtfknkoeagjonbaaGreat
namespace Go.Proofs.YtfknkoeagjonbaaGreat
open Go.Ev
section
variable {x y:Rat}
end
section
variable {x:Rat} {A B w:Nat}
theorem un_enc {q:Rat} (h0:0<=q) (w:Nat):Enc w (unN q w) (unN q w+1) q:=by
 have D:(0:Rat)<(q.den:Rat):=by exact_mod_cast q.den_pos
 have f:=floor_le (a:=q.num.natAbs*2^w) (d:=q.den);have g:=le_floor (a:=q.num.natAbs*2^w) (d:=q.den) q.den_pos;have e:((q.num.natAbs*2^w:Nat):Rat)=q*p2 w*(q.den:Rat):=by
  rw[cm];have h:=num_den' q;have h2:((q.num.natAbs:Nat):Rat)=(q.num:Rat):=by
   have:(q.num.natAbs:Int)=q.num:=wJ (zL.2 h0);rw[<- this];rfl
  rw[h2,<- h];show q*(q.den:Rat)*p2 w=_;grind
 rw[e]at f g;exact⟨le_by D f,le_by D g⟩
end
end Go.Proofs.YtfknkoeagjonbaaGreat
namespace Go.Proofs.YtfknkoeagjonbaaGreat
open Go.Ev
theorem slices_Equal (a b:List Nat) (ha:a.length<=274877906944:=by omega) (hb:b.length<=274877906944:=by omega):Go.Ev.Fn CX 167 [natV a,natV b] (.bool (decide (a=b))):=by
 refine fni Tryz.f167 ?_;unfold Tryz.f167;by_cases hl:a.length=b.length
 ·repeat (first|simp only[go_sem]|simp (disch:=first|exact omg|fail) only[AX]|refine wki ?_|refine vpd 6 [] ?_)
  refine vp_loop_inv (fun s=>s.tmp 0 = .sv (natV a)/\s.tmp 1 = .sv (natV b)/\s.tmp 12 = .sv (.int .i64 (a.length:Int)) /\ ∃i:Nat,s.tmp 13 = .sv (.int .i64 i)/\i<=a.length/\a.take i=b.take i) (fun s=>match s.tmp 13 with | .sv (.int _ i)=>a.length-i.toNat|_=>0) ⟨rfl,rfl,rfl,0,rfl,by omega,rfl⟩ ?_;rintro s ⟨i0,i1,i12,i,i13,hi,ht⟩
  by_cases hend:i=a.length
  ·subst hend;rw[wV,hl,wV]at ht;rw[decide_eq_true ht];repeat (first|simp only[go_sem,i0,i1,i12,i13]|simp (disch:=first|exact omg|fail) only[AX,i0,i1,i12,i13]|refine wki ?_|refine vpd 6 [] ?_)
  ·have e : ∀c:List Nat,i<c.length->c.take (i+1)=c.take i++[c.getD i 0]:=by
    intro c hc;rw[List.take_add_one,xW,xX hc];rfl
   by_cases hx:a.getD i 0=b.getD i 0
   ·repeat (first|simp only[go_sem,i0,i1,i12,i13]|simp (disch:=first|exact omg|fail) only[AX,i0,i1,i12,i13]|refine wki ?_|refine vpd 6 [] ?_)
    exact⟨⟨i+1,rfl,by omega,by rw[e a (by omega),e b (by omega),ht,hx]⟩,by omega⟩
   ·rw[decide_eq_false (fun h=>hx (by rw[h]))];repeat (first|simp only[go_sem,i0,i1,i12,i13]|simp (disch:=first|exact omg|fail) only[AX,i0,i1,i12,i13]|refine wki ?_|refine vpd 6 [] ?_)
 ·rw[decide_eq_false (fun h=>hl (by rw[h]))];repeat (first|simp only[go_sem]|simp (disch:=first|exact omg|fail) only[AX]|refine wki ?_|refine vpd 6 [] ?_)
theorem rat_Same {v w:SV} {q r:Rat} {L M:Nat} (hv:RatA v q L) (hw:RatA w r M) (hL:1<=L) (hM:1<=M:=by omega) (h:L+M<=8388608:=by omega):Go.Ev.Fn CX 109 [v,w] (.bool (decide (q=r))):=by
 have hnv:=rat_Norm hv;have hnw:=rat_Norm hw;obtain⟨z1,z2⟩:=szR_of hv hL;obtain⟨y1,y2⟩:=szR_of hw hM;have l1:=slices_Equal (lim q.num.natAbs) (lim r.num.natAbs);have l2:=slices_Equal (lim q.den) (lim r.den);have hbb:=beq_bool (decide (q.num<0)) (decide (r.num<0));obtain⟨s,n,d,rfl,-⟩:=hv;obtain⟨s',n',d',rfl,-⟩:=hw;refine fni Tryz.f109 ?_;unfold Tryz.f109;repeat (first|simp only[go_sem,hbb]|simp (disch:=first|exact omg|fail) only[AX,hbb]|refine wki ?_|refine vpd 1 [] ?_|refine vfa ?_)
 by_cases h1:decide (q.num<0)=decide (r.num<0)
 ·rw[decide_eq_true h1];by_cases h2:lim q.num.natAbs=lim r.num.natAbs
  ·rw[decide_eq_true h2]at l1;repeat (first|simp only[go_sem]|simp (disch:=first|exact omg|fail) only[AX]|refine wki ?_|refine vpd 1 [] ?_)
   have e:decide (lim q.den=lim r.den)=decide (q=r):=by
    by_cases h3:lim q.den=lim r.den
    ·rw[decide_eq_true h3,decide_eq_true (rv_eq h1 h2 h3)]
    ·rw[decide_eq_false h3,decide_eq_false (fun e=>h3 (by rw[e]))]
   rw[e]at l2;repeat (first|simp only[go_sem]|simp (disch:=first|exact omg|fail) only[AX]|refine wki ?_|refine vpd 1 [] ?_|refine vfa ?_)
  ·rw[decide_eq_false h2]at l1;have hne:q≠r:=fun e=>h2 (by rw[e])
   rw[decide_eq_false hne];repeat (first|simp only[go_sem]|simp (disch:=first|exact omg|fail) only[AX]|refine wki ?_|refine vpd 1 [] ?_|refine vfa ?_)
 ·have hne:q≠r:=fun e=>h1 (by rw[e])
  rw[decide_eq_false h1,decide_eq_false hne];repeat (first|simp only[go_sem]|simp (disch:=first|exact omg|fail) only[AX]|refine wki ?_|refine vpd 1 [] ?_)
theorem neg_num {x:Rat}:decide (x.num<0)=decide (x<0):=by
 have h:=zL (q:=x);refine decide_eq_decide.2 ⟨fun g => ?_,fun g => ?_⟩
 ·have : ¬0<=x:=fun k=>absurd (h.2 k) (by omega)
  grind
 ·rcases Int.lt_or_le x.num 0 with k|k
  ·exact k
  ·exact absurd (h.1 k) (by grind)
section
variable {v:SV} {x:Rat} {A B p L:Nat}
theorem erv {x:Rat} (h:decide (x.num<0)=false):rv x=ratV false (lim x.num.natAbs) (lim x.den):=by show ratV (decide (x.num<0)) _ _=_;rw[h]
theorem incb_I_ends {a b:Int} {pI:Int} (hv:RatA v x L) (hL1:1<=L) (hL:L<=3) (ha:1<=a/\a<=256) (hb:1<=b/\b<=256) (h:x=0\/x=1):Go.Ev.Fn CX 53 [.int .i64 a,.int .i64 b,v,.int .i64 pI] (.tup [ballR x x,.bool true]):=by
 have n1:=rat_Norm hv;have zx:=szR_of hv hL1;have i1:=rat_Int 1;have o:=ball_Of (RatA_rv zx);have c1:=rat_Cmp (RatA_rv zx) (RatA_rv (int_szR (n:=1))) hL1;have zr:=rat_Zero (RatA_rv zx) hL1;have sm:=rat_Same (RatA_rv zx) (RatA_rv (int_szR (n:=1))) hL1;rw[show ((1:Int):Rat)=1 from rfl]at i1 c1 sm;have e1:decide (cmpR x 1>0)=false:=by rw[cmpR_gt];exact decide_eq_false (by rcases h with rfl|rfl<;>decide +kernel)
 have en:decide (x.num<0)=false:=by rw[neg_num];exact decide_eq_false (by rcases h with rfl|rfl<;>decide +kernel)
 rw[erv en]at n1 c1 zr sm o;obtain⟨s,n,d,rfl,-⟩:=hv;generalize cmpR x 1=z at *
 by_cases hx:x=0
 ·rw[decide_eq_true hx]at zr;clear hx h;refine fni Tryz.f53 ?_;unfold Tryz.f53;repeat (first|simp only[go_sem,en,e1]|simp (disch:=first|exact omg|fail) only[AX,en,e1]|refine wki ?_|refine vpd 9 [] ?_|refine vpd 11 [] ?_|refine vfa ?_)
  show _=SV.agg [.bool (decide (x.num<0)),natV (lim x.num.natAbs),natV (lim x.den),.bool (decide (x.num<0)),natV (lim x.num.natAbs),natV (lim x.den)];rw[en]
 ·rw[decide_eq_false hx]at zr;rw[decide_eq_true (h.resolve_left hx)]at sm;clear hx h;refine fni Tryz.f53 ?_;unfold Tryz.f53;repeat (first|simp only[go_sem,en,e1]|simp (disch:=first|exact omg|fail) only[AX,en,e1]|refine wki ?_|refine vpd 9 [] ?_|refine vpd 11 [] ?_|refine vfa ?_)
  show _=SV.agg [.bool (decide (x.num<0)),natV (lim x.num.natAbs),natV (lim x.den),.bool (decide (x.num<0)),natV (lim x.num.natAbs),natV (lim x.den)];rw[en]
end
end Go.Proofs.YtfknkoeagjonbaaGreat
namespace Go.Proofs.YtfknkoeagjonbaaGreat
open Go.Ev
section
variable {v:SV} {x:Rat} {a b p L:Nat}
abbrev toldLo (A p:Nat):Rat:=mkRat ((A/2^(p+300-(p+2)):Nat):Int) (2^(p+2))
abbrev toldHi (B p:Nat):Rat:=mkRat ((B/2^(p+300-(p+2))+1:Nat):Int) (2^(p+2))
theorem told_sz {A B:Nat} (hp:p<=200) (hA:(lim A).length<=100) (hB:(lim B).length<=100):szR (toldLo A p) 101/\szR (toldHi B p) 101:=by
 have l3:=lim_len_mono (xv A (2^(p+300-(p+2))));have l4:=lim_len_mono (xv B (2^(p+300-(p+2))));have l1:=lim_len1;have l5:=lim_len_add (a:=B/2^(p+300-(p+2))) (b:=1) (L:=100);have lp:=lim_len_shl (a:=1) (n:=p+2);rw[xe]at lp;exact⟨szR_mk (s:=false) (n:=A/2^(p+300-(p+2))) (d:=2^(p+2)) (L:=101),szR_mk (s:=false) (n:=B/2^(p+300-(p+2))+1) (d:=2^(p+2)) (L:=101)⟩
set_option maxHeartbeats 1000000 in
theorem incb_I_loP {A' B':Nat} {pI:Int} (hpI:(pI<=0/\p=0)\/pI=(p:Int)) (hv:RatA v x L) (hL1:1<=L) (hL:L<=260) (ha:1<=a) (ha2:a<=22) (hb:1<=b) (hb2:b<=22) (hp:p<=200) (h0:0<x) (h1:x+x<=1)
  (rw1:Go.Ev.Fn CX 111 [.int .i64 (a:Int),.int .i64 (b:Int),rv x,.int .i64 ((p+300:Nat):Int)] (spanV A' B')) (hl:(lim A').length<=100/\(lim B').length<=100) :
  Go.Ev.Fn CX 53 [.int .i64 (a:Int),.int .i64 (b:Int),v,.int .i64 pI] (.tup [ballR (toldLo A' p) (toldHi B' p),.bool true]):=by
 have n1:=rat_Norm hv;have zx:=szR_of hv hL1;have i1:=rat_Int 1;have c1:=rat_Cmp (RatA_rv zx) (RatA_rv (int_szR (n:=1))) hL1;have zr:=rat_Zero (RatA_rv zx) hL1;rw[decide_eq_false (by grind)]at zr;have sm:=rat_Same (RatA_rv zx) (RatA_rv (int_szR (n:=1))) hL1;have ad:=rat_Add (RatA_rv zx) (RatA_rv zx) hL1 hL1;have c2:=rat_Cmp (RatA_rv (szR_add zx zx hL1)) (RatA_rv (int_szR (n:=1)));rw[show ((1:Int):Rat)=1 from rfl]at i1 c1 sm c2;rw[decide_eq_false (show ¬x=1 by grind)]at sm;have e1:decide (cmpR x 1>0)=false:=by rw[cmpR_gt];exact decide_eq_false (by grind)
 have e2:decide (cmpR (x+x) 1<=0)=true:=by rw[cmpR_le];exact decide_eq_true h1
 have en:decide (x.num<0)=false:=by rw[neg_num];exact decide_eq_false (by grind)
 have td:=fix_Told (a:=A') (b:=B') (w:=p+300) (p:=p+2);have x1:(if (0:Int)>pI then (0:Int) else pI)=(p:Int):=by split<;>omega
 have x2:(if (200:Int)<(p:Int) then (200:Int) else (p:Int))=(p:Int):=if_neg (by omega);rw[show ((p+300:Nat):Int)=(p:Int)+300 from rfl]at rw1 td;rw[show ((p+2:Nat):Int)=(p:Int)+2 from rfl]at td;unfold toldLo toldHi;generalize mkRat ((A'/2^(p+300-(p+2)):Nat):Int) (2^(p+2))=q1 at *
 generalize mkRat ((B'/2^(p+300-(p+2))+1:Nat):Int) (2^(p+2))=q2 at *
 rw[erv en]at n1 c1 zr sm ad rw1;obtain⟨s,n,d,rfl,-⟩:=hv;clear h0 h1;generalize cmpR x 1=z at *
 generalize x+x=xx at *
 generalize cmpR xx 1=z2 at *
 refine fni Tryz.f53 ?_;unfold Tryz.f53;repeat (first|simp only[go_sem,en,x1,x2,e1,e2]|simp (disch:=first|exact omg|fail) only[AX,en,x1,x2,e1,e2]|refine wki ?_|refine vpd 9 [] ?_|refine vpd 11 [] ?_|refine vfa ?_)
theorem incb_I_lo {A' B':Nat} (hv:RatA v x L) (hL1:1<=L) (hL:L<=260) (ha:1<=a) (ha2:a<=22) (hb:1<=b) (hb2:b<=22) (hp:p<=200) (h0:0<x) (h1:x+x<=1)
  (rw1:Go.Ev.Fn CX 111 [.int .i64 (a:Int),.int .i64 (b:Int),rv x,.int .i64 ((p+300:Nat):Int)] (spanV A' B')) (hl:(lim A').length<=100/\(lim B').length<=100) :
  Go.Ev.Fn CX 53 [.int .i64 (a:Int),.int .i64 (b:Int),v,.int .i64 (p:Int)] (.tup [ballR (toldLo A' p) (toldHi B' p),.bool true]):=incb_I_loP (.inr rfl) hv hL1 hL ha ha2 hb hb2 hp h0 h1 rw1 hl
set_option maxHeartbeats 1000000 in
theorem incb_I_hiP {A' B':Nat} {pI:Int} (hpI:(pI<=0/\p=0)\/pI=(p:Int)) (hv:RatA v x L) (hL1:1<=L) (hL:L<=260) (ha:1<=a) (ha2:a<=22) (hb:1<=b) (hb2:b<=22) (hp:p<=200) (h0:1<x+x) (h1:x<1)
  (rw1:Go.Ev.Fn CX 111 [.int .i64 (b:Int),.int .i64 (a:Int),rv (1-x),.int .i64 ((p+300:Nat):Int)] (spanV A' B')) (hl:(lim A').length<=100/\(lim B').length<=100) :
  Go.Ev.Fn CX 53 [.int .i64 (a:Int),.int .i64 (b:Int),v,.int .i64 pI] (.tup [ballR (1-toldHi B' p) (1-toldLo A' p),.bool true]):=by
 have n1:=rat_Norm hv;have zx:=szR_of hv hL1;have i1:=rat_Int 1;have c1:=rat_Cmp (RatA_rv zx) (RatA_rv (int_szR (n:=1))) hL1;have zr:=rat_Zero (RatA_rv zx) hL1;rw[decide_eq_false (by grind)]at zr;have sm:=rat_Same (RatA_rv zx) (RatA_rv (int_szR (n:=1))) hL1;have ad:=rat_Add (RatA_rv zx) (RatA_rv zx) hL1 hL1;have c2:=rat_Cmp (RatA_rv (szR_add zx zx hL1)) (RatA_rv (int_szR (n:=1)));have b1:=ball_Of (RatA_rv (int_szR (n:=1)));have sb:=rat_Sub (RatA_rv (int_szR (n:=1))) (RatA_rv zx) (by omega) hL1;have one1:szR 1 1:=⟨lim_len_lt (by decide +kernel),lim_len_lt (by decide +kernel)⟩
 rw[show ((1:Int):Rat)=1 from rfl]at i1 c1 sm c2 b1 sb;rw[decide_eq_false (show ¬x=1 by grind)]at sm;have e1:decide (cmpR x 1>0)=false:=by rw[cmpR_gt];exact decide_eq_false (by grind)
 have e2:decide (cmpR (x+x) 1<=0)=false:=by rw[cmpR_le];exact decide_eq_false (by grind)
 have en:decide (x.num<0)=false:=by rw[neg_num];exact decide_eq_false (by grind)
 have td:=fix_Told (a:=A') (b:=B') (w:=p+300) (p:=p+2);obtain⟨z1,z2⟩:=told_sz (p:=p) hp hl.1 hl.2;have bs:=ball_Sub (a:=1) (b:=1) (L:=101) (szR_mono one1) (szR_mono one1) z1 z2;have x1:(if (0:Int)>pI then (0:Int) else pI)=(p:Int):=by split<;>omega
 have x2:(if (200:Int)<(p:Int) then (200:Int) else (p:Int))=(p:Int):=if_neg (by omega);rw[show ((p+300:Nat):Int)=(p:Int)+300 from rfl]at rw1 td;rw[show ((p+2:Nat):Int)=(p:Int)+2 from rfl]at td;unfold toldLo toldHi at *
 generalize mkRat ((A'/2^(p+300-(p+2)):Nat):Int) (2^(p+2))=q1 at *
 generalize mkRat ((B'/2^(p+300-(p+2))+1:Nat):Int) (2^(p+2))=q2 at *
 generalize 1-q2=w1 at *
 generalize 1-q1=w2 at *
 rw[erv en]at n1 c1 zr sm ad sb;obtain⟨s,n,d,rfl,-⟩:=hv;clear h0 h1;generalize cmpR x 1=z at *
 generalize x+x=xx at *
 generalize cmpR xx 1=z2' at *
 generalize 1-x=y at *
 refine fni Tryz.f53 ?_;unfold Tryz.f53;repeat (first|simp only[go_sem,en,x1,x2,e1,e2]|simp (disch:=first|exact omg|fail) only[AX,en,x1,x2,e1,e2]|refine wki ?_|refine vpd 9 [] ?_|refine vpd 11 [] ?_|refine vf_of (by first|exact n1|exact i1|exact c1|exact zr|exact sm|exact ad|exact c2|exact b1|exact sb|exact rw1|exact td|exact bs) ?_)
theorem incb_I_hi {A' B':Nat} (hv:RatA v x L) (hL1:1<=L) (hL:L<=260) (ha:1<=a) (ha2:a<=22) (hb:1<=b) (hb2:b<=22) (hp:p<=200) (h0:1<x+x) (h1:x<1)
  (rw1:Go.Ev.Fn CX 111 [.int .i64 (b:Int),.int .i64 (a:Int),rv (1-x),.int .i64 ((p+300:Nat):Int)] (spanV A' B')) (hl:(lim A').length<=100/\(lim B').length<=100) :
  Go.Ev.Fn CX 53 [.int .i64 (a:Int),.int .i64 (b:Int),v,.int .i64 (p:Int)] (.tup [ballR (1-toldHi B' p) (1-toldLo A' p),.bool true]):=incb_I_hiP (.inr rfl) hv hL1 hL ha ha2 hb hb2 hp h0 h1 rw1 hl
end
end Go.Proofs.YtfknkoeagjonbaaGreat
namespace Go.Proofs.YtfknkoeagjonbaaGreat
open Go.Ev
theorem beq_true_self (b:Bool):(b==b)=true:=by cases b<;>rfl
theorem ref2_Is {q:Rat} {L:Nat} (hq:szR q L) (hL:L<=1000000:=by omega):Go.Ev.Fn CX 102 [rv q] (.bool true):=by
 have n1:=ref2_Norm (RatA_rv hq);have l1:=ref2_limbs (lim q.num.natAbs) (lim q.num.natAbs) (by have:=hq.1;omega) (by have:=hq.1;omega);have l2:=ref2_limbs (lim q.den) (lim q.den) (by have:=hq.2;omega) (by have:=hq.2;omega);rw[decide_eq_true rfl]at l1 l2;have hb:=beq_true_self (decide (q.num<0));refine fni Tryz.f102 ?_;unfold Tryz.f102;repeat (first|simp only[go_sem,hb]|simp (disch:=first|exact omg|fail) only[AX,hb]|refine wki ?_|refine vfa ?_)
theorem ref4_Of {v:SV} {q:Rat} {L:Nat} (hv:RatA v q L) (hL:L<=1000000:=by omega):Go.Ev.Fn CX 56 [v] (ballR q q):=by
 have n1:=ref2_Norm hv;obtain⟨s,n,d,rfl,-⟩:=hv;refine fni Tryz.f56 ?_;unfold Tryz.f56;repeat (first|simp only[go_sem]|simp (disch:=first|exact omg|fail) only[AX]|refine wki ?_|refine vpd 1 [] ?_|refine vfa ?_)
section
variable {a b c d:Rat} {L M:Nat}
theorem ref4_Is (ha:szR a L) (hb:szR b L) (hL1:1<=L) (hL:L<=400000) (h:a<=b):Go.Ev.Fn CX 43 [ballR a b] (.bool true):=by
 have i1:=ref2_Is ha;have i2:=ref2_Is hb;have c1:=ref2_Cmp (RatA_rv ha) (RatA_rv hb) hL1 hL1;have e1:decide (cmpR a b<=0)=true:=by rw[cmpR_le];exact decide_eq_true h
 generalize cmpR a b=z at *
 refine fni Tryz.f43 ?_;unfold Tryz.f43;repeat (first|simp only[go_sem,e1]|simp (disch:=first|exact omg|fail) only[AX,e1]|refine wki ?_|refine vfa ?_)
theorem ref4_Width (ha:szR a L) (hb:szR b L) (hL1:1<=L) (hL:L<=400000:=by omega):Go.Ev.Fn CX 44 [ballR a b] (rv (b-a)):=by
 have s:=ref2_Sub (RatA_rv hb) (RatA_rv ha) hL1 hL1;refine fni Tryz.f44 ?_;unfold Tryz.f44;repeat (first|simp only[go_sem]|simp (disch:=first|exact omg|fail) only[AX]|refine wki ?_|refine vfa ?_)
theorem ref4_Bit {p:Nat} (hp:p<=512:=by omega):Go.Ev.Fn CX 23 [.int .i64 (p:Int)] (rv (mkRat 1 (2^p))):=by
 have s:=ref1_shl (N:=1) (m:=p) (by rw[lim_one];simp);rw[xe,lim_one]at s;have l:=lim_len_shl (a:=1) (n:=p);have l1:=lim_len1;rw[xe]at l;have o:=ref2_OfL (s:=false) (n:=1) (d:=2^p);rw[lim_one,show sgn false 1=1 from rfl]at o;generalize mkRat 1 (2^p)=r at *
 generalize 2^p=P at *
 refine fni Tryz.f23 ?_;unfold Tryz.f23;repeat (first|simp only[go_sem]|simp (disch:=first|exact omg|fail) only[AX]|refine wki ?_|refine vfa ?_)
theorem ref4_Hold {p:Int} {P:Nat} (h:(p<=0/\P=0)\/p=(P:Int)) (hP:P<=512):Go.Ev.Fn CX 45 [.int .i64 p] (.int .i64 (P:Int)):=by
 have e1:(if (0:Int)>p then (0:Int) else p)=(P:Int):=by split<;>omega
 have e2:(if (512:Int)<(P:Int) then (512:Int) else (P:Int))=(P:Int):=if_neg (by omega);refine fni Tryz.f45 ?_;unfold Tryz.f45;repeat (first|simp only[go_sem,e1,e2]|simp (disch:=first|exact omg|fail) only[AX,e1,e2]|refine wki ?_)
theorem ref4_Side0 (ha:szR a L) (hb:szR b L) (hc:szR c M) (hd:szR d M) (hL1:1<=L) (hM1:1<=M) (hL:L+M<=400000) (h1:c<=b) (h2:a<=d):Go.Ev.Fn CX 46 [ballR a b,ballR c d] (.int .i64 0):=by
 have c1:=ref2_Cmp (RatA_rv hb) (RatA_rv hc) hL1 hM1;have c2:=ref2_Cmp (RatA_rv ha) (RatA_rv hd) hL1 hM1;have e1:decide (cmpR b c<0)=false:=by rw[cmpR_lt];exact decide_eq_false (by grind)
 have e2:decide (cmpR a d>0)=false:=by rw[cmpR_gt];exact decide_eq_false (by grind)
 generalize cmpR b c=z1 at *
 generalize cmpR a d=z2 at *
 refine fni Tryz.f46 ?_;unfold Tryz.f46;repeat (first|simp only[go_sem,e1,e2]|simp (disch:=first|exact omg|fail) only[AX,e1,e2]|refine wki ?_|refine vfa ?_)
theorem ref4_Good {p:Int} {P:Nat} (hp:(p<=0/\P=0)\/p=(P:Int)) (hP:P<=512) (ha:szR a L) (hb:szR b L) (hc:szR c M) (hd:szR d M) (hL1:1<=L) (hM1:1<=M) (hL:L+M<=400000) (h0:a<=b) (h1:c<=b) (h2:a<=d) (hw:(b-a)*p2 P<=1) :
  Go.Ev.Fn CX 11 [ballR a b,ballR c d,.int .i64 p] (.bool true):=by
 have i:=ref4_Is ha hb hL1 (by omega) h0;have w:=ref4_Width ha hb hL1;have hh:=ref4_Hold hp hP;have bt:=ref4_Bit hP;have l:=lim_len_shl (a:=1) (n:=P);have l1:=lim_len1;rw[xe]at l;have zb:szR (mkRat 1 (2^P)) 20:=szR_mk (s:=false) (n:=1) (d:=2^P);have zw:=szR_sub hb ha hL1;have c1:=ref2_Cmp (RatA_rv zw) (RatA_rv zb);have e0:b-a<=mkRat 1 (2^P):=by
  refine le_by (p2_pos P) ?_;have:mkRat 1 (2^P)*p2 P=1:=by
   rw[wk];exact xd (by have:(0:Rat)<p2 P:=p2_pos P;grind)
  rw[this];exact hw
 have e1:decide (cmpR (b-a) (mkRat 1 (2^P))<=0)=true:=by rw[cmpR_le];exact decide_eq_true e0
 have sd:=ref4_Side0 ha hb hc hd hL1 hM1 (by omega) h1 h2;generalize cmpR (b-a) (mkRat 1 (2^P))=z at *
 generalize mkRat 1 (2^P)=r at *
 generalize b-a=x at *
 refine fni Tryz.f11 ?_;unfold Tryz.f11;repeat (first|simp only[go_sem,e1]|simp (disch:=first|exact omg|fail) only[AX,e1]|refine wki ?_|refine vfa ?_)
end
end Go.Proofs.YtfknkoeagjonbaaGreat
namespace Go.Proofs.YtfknkoeagjonbaaGreat
open Go.Ev
end Go.Proofs.YtfknkoeagjonbaaGreat
namespace Go.Proofs.YtfknkoeagjonbaaGreat
open Go.Ev
section
variable {x:Rat} {a b p:Int} {s:Bool} {n d:List Nat}
end
end Go.Proofs.YtfknkoeagjonbaaGreat
namespace Go.Proofs.YtfknkoeagjonbaaGreat
open Go.Ev
theorem told_le {A B p:Nat} (h:A<=B):toldLo A p<=toldHi B p:=by
 unfold toldLo toldHi;have P:=p2_pos (p+2);have h1:=xf (c:=2^(p+300-(p+2))) h;have e1:=mk_p2n (A/2^(p+300-(p+2))) (p+2);have e2:=mk_p2n (B/2^(p+300-(p+2))+1) (p+2);refine le_by P ?_;rw[e1,e2];exact nat_le_rat (yP h1)
section
variable {x:Rat} {a b p:Nat} {s:Bool} {n d:List Nat}
end
end Go.Proofs.YtfknkoeagjonbaaGreat
namespace Go.Proofs.YtfknkoeagjonbaaGreat
open Go.Ev
def rtH:Nat:=3719477765947668636936709211380910309956202648775464111520847020716952850542838341847190855169739343470753519934912401374452868910734655781951726854669216251345409387637183634523568089081173655040240750070105177
def S2:Rat:=mkRat (rtH:Int) (2^700)
def hfGo (a b:Nat):Nat->Nat->Nat->Nat->Nat->Nat×Nat×Nat
 |0,_,n,d,s=>(n,d,s)
 |f+1,k,n,d,s=>pin (n*(a+b+2*k)) fun n'=>pin (2*(a+2+2*k)) fun m=>pin (d*m) fun d'=>pin (s*m+n') fun s'=>pin (k+1) fun k'=>hfGo a b f k' n' d' s'
theorem hfGo_is (a b:Nat) : ∀ (f k n d s:Nat),rR (1/2) a b k*(d:Rat)=(n:Rat)->sR (1/2) a b k*(d:Rat)=(s:Rat)->0<d ->
  rR (1/2) a b (k+f)*((hfGo a b f k n d s).2.1:Rat)=((hfGo a b f k n d s).1:Rat)/\sR (1/2) a b (k+f)*((hfGo a b f k n d s).2.1:Rat)=((hfGo a b f k n d s).2.2:Rat)/\0<(hfGo a b f k n d s).2.1:=by
 intro f;induction f with
 |zero=>intro k n d s h1 h2 h3;exact⟨h1,h2,h3⟩
 |succ f ih=>
  intro k n d s h1 h2 h3;rw[hfGo];simp only[pin_eq];have c : ∀u v:Nat,((u*v:Nat):Rat)=(u:Rat)*(v:Rat):=by intro u v;exact_mod_cast rfl
  have c2 : ∀u v:Nat,((u+v:Nat):Rat)=(u:Rat)+(v:Rat):=by intro u v;exact_mod_cast rfl
  have M:(0:Rat)<((a+2+2*k:Nat):Rat):=by exact_mod_cast (show 0<a+2+2*k by omega)
  have r:rR (1/2) a b (k+1)*((d*(2*(a+2+2*k)):Nat):Rat)=((n*(a+b+2*k):Nat):Rat):=by
   have e:rR (1/2) a b (k+1)=rR (1/2) a b k*(1/2)*((a+b+2*k:Nat):Rat)/((a+2+2*k:Nat):Rat):=rfl;have e2:=xd (a:=rR (1/2) a b k*(1/2)*((a+b+2*k:Nat):Rat)) (b:=((a+2+2*k:Nat):Rat)) (by grind);rw[<- e]at e2;rw[c,c,c,<- h1];have two:((2:Nat):Rat)=2:=rfl;have hh:(1/2:Rat)*2=1:=by decide +kernel
   rw[two];generalize ((a+2+2*k:Nat):Rat)=m at *
   generalize ((a+b+2*k:Nat):Rat)=q at *
   generalize rR (1/2) a b (k+1)=z at *
   generalize (1/2:Rat)=hf at *
   grind
  have sm:sR (1/2) a b (k+1)*((d*(2*(a+2+2*k)):Nat):Rat)=((s*(2*(a+2+2*k))+n*(a+b+2*k):Nat):Rat):=by
   have e:sR (1/2) a b (k+1)=sR (1/2) a b k+rR (1/2) a b (k+1):=rfl;rw[e,c2,<- r,c s,<- h2,c d];generalize rR (1/2) a b (k+1)=z at *
   generalize sR (1/2) a b k=y at *
   grind
  have:=ih (k+1) _ _ _ r sm (yu h3 (by omega));rw[show k+1+f=k+(f+1) by omega]at this;exact this
def hfN (a b:Nat):Nat×Nat×Nat:=
 pin ((beta2 a b).den*2) fun D2=>pin ((beta2 a b).num.natAbs*a) fun N2=>
 pin (rtH^(a%2+b%2)*D2*(if a%2*(b%2)=1 then 2^700 else 1)) fun u=>pin (2^(a/2+b/2)*2^(700*(a%2+b%2))*N2*(if a%2*(b%2)=1 then piW else 1)) fun v=>
 match hfGo a b 120 0 1 1 1 with
 |(n,d,s)=>pin (u*s) fun l=>pin (u*(s+3*n)) fun h=>pin (v*d) fun e=>(l,h,e)
def hfOk (a b:Nat):Bool:=match hfN a b with
 |(l1,h1,e1)=>match hfN b a with
  |(l2,h2,e2)=>pin (l1*e2+l2*e1) fun lo=>pin (h1*e2+h2*e1) fun hi=>pin (e1*e2) fun ee=>Nat.ble ((2^66-1)*ee) (2^66*lo)&&Nat.ble (2^66*hi) ((2^66+1)*ee)
theorem hf_ok1:(List.range 20).all (fun j=>hfOk 1 (1+j))=true:=by decide +kernel
theorem hf_ok2:(List.range 19).all (fun j=>hfOk 2 (2+j))=true:=by decide +kernel
theorem hf_ok3:(List.range 18).all (fun j=>hfOk 3 (3+j))=true:=by decide +kernel
theorem hf_ok4:(List.range 17).all (fun j=>hfOk 4 (4+j))=true:=by decide +kernel
theorem hf_ok5:(List.range 16).all (fun j=>hfOk 5 (5+j))=true:=by decide +kernel
theorem hf_ok6:(List.range 15).all (fun j=>hfOk 6 (6+j))=true:=by decide +kernel
theorem hf_ok7:(List.range 14).all (fun j=>hfOk 7 (7+j))=true:=by decide +kernel
theorem hf_ok8:(List.range 13).all (fun j=>hfOk 8 (8+j))=true:=by decide +kernel
theorem hf_ok9:(List.range 12).all (fun j=>hfOk 9 (9+j))=true:=by decide +kernel
theorem hf_ok10:(List.range 11).all (fun j=>hfOk 10 (10+j))=true:=by decide +kernel
theorem hf_ok11:(List.range 10).all (fun j=>hfOk 11 (11+j))=true:=by decide +kernel
theorem hf_ok12:(List.range 9).all (fun j=>hfOk 12 (12+j))=true:=by decide +kernel
theorem hf_ok13:(List.range 8).all (fun j=>hfOk 13 (13+j))=true:=by decide +kernel
theorem hf_ok14:(List.range 7).all (fun j=>hfOk 14 (14+j))=true:=by decide +kernel
theorem hf_ok15:(List.range 6).all (fun j=>hfOk 15 (15+j))=true:=by decide +kernel
theorem hf_ok16:(List.range 5).all (fun j=>hfOk 16 (16+j))=true:=by decide +kernel
theorem hf_ok17:(List.range 4).all (fun j=>hfOk 17 (17+j))=true:=by decide +kernel
theorem hf_ok18:(List.range 3).all (fun j=>hfOk 18 (18+j))=true:=by decide +kernel
theorem hf_ok19:(List.range 2).all (fun j=>hfOk 19 (19+j))=true:=by decide +kernel
theorem hf_ok20:(List.range 1).all (fun j=>hfOk 20 (20+j))=true:=by decide +kernel
theorem hf_all {a b:Nat} (h1:1<=a) (h2:a<=b) (h3:b<=20):hfOk a b=true:=by
 have g : ∀c,(List.range (21-c)).all (fun j=>hfOk c (c+j))=true->c<=b->hfOk c b=true:=fun c h hc=>by
  have:=zJ.1 h (b-c) (zX.2 (by omega));rwa [show c+(b-c)=b by omega]at this
 have hc:a=1\/a=2\/a=3\/a=4\/a=5\/a=6\/a=7\/a=8\/a=9\/a=10\/a=11\/a=12\/a=13\/a=14\/a=15\/a=16\/a=17\/a=18\/a=19\/a=20:=by omega
 rcases hc with rfl|rfl|rfl|rfl|rfl|rfl|rfl|rfl|rfl|rfl|rfl|rfl|rfl|rfl|rfl|rfl|rfl|rfl|rfl|rfl
 ·exact g 1 hf_ok1 h2
 ·exact g 2 hf_ok2 h2
 ·exact g 3 hf_ok3 h2
 ·exact g 4 hf_ok4 h2
 ·exact g 5 hf_ok5 h2
 ·exact g 6 hf_ok6 h2
 ·exact g 7 hf_ok7 h2
 ·exact g 8 hf_ok8 h2
 ·exact g 9 hf_ok9 h2
 ·exact g 10 hf_ok10 h2
 ·exact g 11 hf_ok11 h2
 ·exact g 12 hf_ok12 h2
 ·exact g 13 hf_ok13 h2
 ·exact g 14 hf_ok14 h2
 ·exact g 15 hf_ok15 h2
 ·exact g 16 hf_ok16 h2
 ·exact g 17 hf_ok17 h2
 ·exact g 18 hf_ok18 h2
 ·exact g 19 hf_ok19 h2
 ·exact g 20 hf_ok20 h2
end Go.Proofs.YtfknkoeagjonbaaGreat
namespace Go.Proofs.YtfknkoeagjonbaaGreat
open Go.Ev
theorem S2_mul:S2*p2 700=(rtH:Rat):=mk_p2n rtH 700
theorem sq_mon {x y:Rat} (hx:0<=x) (hy:0<=y) (h:x*x<=y*y):x<=y:=by
 rcases zC (a:=x) (b:=y) with g|g
 ·exact g
 ·by_cases e:y=x
  ·rw[e];exact xN
  ·have h1:y<x:=by grind
   have h2:y*y<=x*y:=xA g hy;have h3:x*y<x*x:=by
    have:0<x*(x-y):=xt (by grind) (by grind);grind
   grind
theorem S2_nn:0<=S2:=le_by (p2_pos 700) (by rw[S2_mul,xw];exact nat_nonneg _)
theorem cmN (a b:Nat):((a*b:Nat):Rat)=(a:Rat)*(b:Rat):=by exact_mod_cast rfl
theorem cnN (a b:Nat):((a+b:Nat):Rat)=(a:Rat)+(b:Rat):=by exact_mod_cast rfl
theorem S2_abs {r P Q:Nat} {S:Rat} (hP:0<P) (e:S*(P:Rat)=(r:Rat)) (n1:P*P<=2*(r*r)) (n2:Q*(2*(r*r))<=Q*(P*P)+2*(P*P)):1/2<=S*S/\(S*S-1/2)*(Q:Rat)<=1:=by
 have P0:(0:Rat)<(P:Rat):=by exact_mod_cast hP
 have PP:0<(P:Rat)*(P:Rat):=xt P0 P0;have m1:=nat_le_rat n1;have m2:=nat_le_rat n2;have d1:((2*(r*r):Nat):Rat)=2*((r:Rat)*(r:Rat)):=by exact_mod_cast rfl
 have d2:((2*(P*P):Nat):Rat)=2*((P:Rat)*(P:Rat)):=by exact_mod_cast rfl
 rw[cmN,d1,<- e]at m1;rw[cmN,cnN,cmN Q,d1,d2,cmN P,<- e]at m2;have q:S*(P:Rat)*(S*(P:Rat))=S*S*((P:Rat)*(P:Rat)):=by grind
 rw[q]at m1 m2;clear q n1 n2 d1 d2 e hP P0;generalize (P:Rat)*(P:Rat)=Z at *
 generalize S*S=t at *
 generalize (Q:Rat)=u at *
 have hh:(1/2:Rat)*2=1:=by decide +kernel
 generalize (1/2:Rat)=hf at *
 have f1:hf*Z*2=Z:=by
  have:hf*Z*2=hf*2*Z:=by grind
  rw[this,hh,xc]
 have f2:(t-hf)*u*Z*2=u*(2*(t*Z))-u*(hf*Z*2):=by grind
 refine⟨le_by PP ?_,le_by PP ?_⟩
 ·grind
 ·rw[f1]at f2;grind
theorem S2_sq:1/2<=S2*S2/\(S2*S2-1/2)*p2 690<=1:=by
 obtain⟨E,hE⟩ : ∃E:Nat,E=690:=⟨_,rfl⟩
 obtain⟨F,hF⟩ : ∃F:Nat,F=700:=⟨_,rfl⟩
 have m:=S2_mul;rw[<- hF]at m;have h:=S2_abs (P:=2^F) (Q:=2^E) (xK (by omega)) m (by rw[hF];decide +kernel) (by rw[hE,hF];decide +kernel);rw[<- hE];exact h
end Go.Proofs.YtfknkoeagjonbaaGreat
namespace Go.Proofs.YtfknkoeagjonbaaGreat
open Go.Ev
section
variable {v:SV} {x:Rat} {A B p:Nat}
end
end Go.Proofs.YtfknkoeagjonbaaGreat
namespace Go.Proofs.YtfknkoeagjonbaaGreat
open Go.Ev
def rtF (a:Nat) (s:Rat):Rat:=if a%2=1 then s else 1
def fsG (a b:Nat):Rat:=(pwR (1/2) (a/2)*pwR (1/2) (b/2))*(((beta2 a b).den*2:Nat):Rat)/(((beta2 a b).num.natAbs*a:Nat):Rat)*(if a%2*(b%2)=1 then 1/PI0 else 1)
theorem fstR_is (a b:Nat) (s s':Rat):fstR a b (1/2) s s'=fsG a b*(rtF a s*rtF b s'):=by
 have e:(1:Rat)-1/2=1/2:=by decide +kernel
 unfold fstR fsG rtF;rw[e,xk,xk];generalize (if a%2=1 then s else 1)=u;generalize (if b%2=1 then s' else 1)=v;generalize (if a%2*(b%2)=1 then 1/PI0 else 1)=z;generalize pwR (1/2) (a/2)=f;generalize pwR (1/2) (b/2)=g;grind
theorem inv_nn {x:Rat} (h:0<x):0<=x⁻¹:=by have:=zU.2 h;grind
theorem PI0_pos:0<PI0:=by
 have P:=p2_pos 700;have h:=PI0_mul;have w:(0:Rat)<(piW:Rat):=by exact_mod_cast (show 0<piW by decide +kernel)
 rcases zC (a:=PI0) (b:=0) with g|g
 ·have:=xA g (show 0<=p2 700 by grind);grind
 ·by_cases h0:PI0=0
  ·rw[h0,xw]at h;grind
  ·grind
theorem fsG_nn {a b:Nat} (ha:1<=a:=by omega) (hb:1<=b:=by omega) (ha2:a<=22:=by omega) (hb2:b<=22:=by omega):0<=fsG a b:=by
 have h:=(bet_ok ha hb ha2 hb2).2;have N:(0:Rat)<(((beta2 a b).num.natAbs*a:Nat):Rat):=by exact_mod_cast h
 unfold fsG;rw[xk];refine xF (xF (xF (xF (pwR_nn (by decide +kernel) _) (pwR_nn (by decide +kernel) _)) (nat_nonneg _)) (inv_nn N)) ?_;split
 ·have:=PI0_pos;rw[xk,xc];exact inv_nn this
 ·decide
theorem pw_half : ∀n,pwR (1/2) n*((2^n:Nat):Rat)=1
 |0=>by show (1:Rat)*((1:Nat):Rat)=1;decide +kernel
 |n+1=>by
  have ih:=pw_half n;have c:((2^(n+1):Nat):Rat)=((2^n:Nat):Rat)*2:=by rw[xU,cmN];rfl
  show pwR (1/2) n*(1/2)*_=1;rw[c];have hh:(1/2:Rat)*2=1:=by decide +kernel
  have e:pwR (1/2) n*(1/2)*(((2^n:Nat):Rat)*2)=pwR (1/2) n*((2^n:Nat):Rat)*(1/2*2):=by
   generalize (1/2:Rat)=hf;grind
  rw[e,ih,hh];decide +kernel
theorem rtF_S2 (a:Nat):rtF a S2*((2^(700*(a%2)):Nat):Rat)=((rtH^(a%2):Nat):Rat):=by
 obtain⟨F,hF⟩ : ∃F:Nat,F=700:=⟨_,rfl⟩
 have m:=S2_mul;rw[<- hF]at m ⊢;unfold rtF;have h:a%2=0\/a%2=1:=by omega
 rcases h with h|h
 ·rw[h,if_neg (by omega),yX,yr,yr];decide +kernel
 ·rw[h,if_pos rfl,yD,Nat.pow_one];exact m
theorem hf_pt {a b l h e:Nat} (ha:1<=a) (hb:1<=b) (ha2:a<=20) (hb2:b<=20) (hN:hfN a b=(l,h,e)) :
  fsG a b*(rtF a S2*rtF b S2)*sR (1/2) a b 120*(e:Rat)=(l:Rat)/\fsG a b*(rtF a S2*rtF b S2)*(sR (1/2) a b 120+3*rR (1/2) a b 120)*(e:Rat)=(h:Rat)/\(0:Rat)<(e:Rat):=by
 have hk:=(bet_ok ha hb).2;have g:=hfGo_is a b 120 0 1 1 1 (by show (1:Rat)*((1:Nat):Rat)=_;decide +kernel) (by show (1:Rat)*((1:Nat):Rat)=_;decide +kernel) (by omega);unfold hfN at hN;simp only[pin_eq]at hN;rw[yV]at g;generalize hfGo a b 120 0 1 1 1=G at *
 obtain⟨n,d,s⟩:=G;simp only[Prod.mk.injEq]at hN;simp only at g;obtain⟨g1,g2,g3⟩:=g;obtain⟨rfl,rfl,rfl⟩:=hN;obtain⟨D2,hD2⟩ : ∃D,D=(beta2 a b).den*2:=⟨_,rfl⟩
 obtain⟨N2,hN2⟩ : ∃N,N=(beta2 a b).num.natAbs*a:=⟨_,rfl⟩
 have p1:=pw_half (a/2);have p3:=pw_half (b/2);have r1:=rtF_S2 a;have r2:=rtF_S2 b;unfold fsG;rw[<- hD2,<- hN2];rw[<- hN2]at hk;have N:(0:Rat)<(N2:Rat):=by exact_mod_cast hk
 have dv : ∀y:Rat,y/(N2:Rat)*(N2:Rat)=y:=fun y=>xd (by grind)
 have pq:(if a%2*(b%2)=1 then 1/PI0 else 1)*(((if a%2*(b%2)=1 then piW else 1:Nat)):Rat)=((if a%2*(b%2)=1 then 2^700 else 1:Nat):Rat):=by
  split
  ·have P:=PI0_pos;rw[<- PI0_mul,xk,xc,<- zG,Rat.inv_mul_cancel _ (by grind),xc]
  ·decide +kernel
 have n0:0<(if a%2*(b%2)=1 then piW else 1):=by split<;>decide +kernel
 have cS:((2^(700*(a%2+b%2)):Nat):Rat)=((2^(700*(a%2)):Nat):Rat)*((2^(700*(b%2)):Nat):Rat):=by
  rw[<- cmN,<- xM,<- xY]
 have cH:((2^(a/2+b/2):Nat):Rat)=((2^(a/2):Nat):Rat)*((2^(b/2):Nat):Rat):=by rw[<- cmN,<- xM]
 have cR:((rtH^(a%2+b%2):Nat):Rat)=((rtH^(a%2):Nat):Rat)*((rtH^(b%2):Nat):Rat):=by rw[<- cmN,<- xM]
 have c3:((s+3*n:Nat):Rat)=(s:Rat)+3*(n:Rat):=by exact_mod_cast rfl
 obtain⟨q1,hq1⟩ : ∃z:Rat,z=(if a%2*(b%2)=1 then 1/PI0 else 1):=⟨_,rfl⟩
 obtain⟨q2,hq2⟩ : ∃z:Nat,z=(if a%2*(b%2)=1 then piW else 1):=⟨_,rfl⟩
 obtain⟨q3,hq3⟩ : ∃z:Nat,z=(if a%2*(b%2)=1 then 2^700 else 1):=⟨_,rfl⟩
 rw[<- hq1,<- hq2,<- hq3]at pq;rw[<- hq2]at n0;rw[<- hq1,<- hq2,<- hq3];clear hq1 hq2 hq3;obtain⟨z1,hz1⟩ : ∃z:Nat,z=2^(700*(a%2)):=⟨_,rfl⟩
 obtain⟨z2,hz2⟩ : ∃z:Nat,z=2^(700*(b%2)):=⟨_,rfl⟩
 obtain⟨z5,hz5⟩ : ∃z:Nat,z=2^(700*(a%2+b%2)):=⟨_,rfl⟩
 have n5:0<z5:=by rw[hz5];exact xK (by omega)
 have n6:0<2^(a/2+b/2):=xK (by omega);rw[<- hz1]at r1;rw[<- hz2]at r2;rw[<- hz1,<- hz2,<- hz5]at cS;rw[<- hz5];clear hz1 hz2 hz5;generalize pwR (1/2) (a/2)=w1 at *
 generalize pwR (1/2) (b/2)=w2 at *
 generalize rtF a S2=f1 at *
 generalize rtF b S2=f2 at *
 generalize sR (1/2) a b 120=sr at *
 generalize rR (1/2) a b 120=rr at *
 generalize rtH^(a%2+b%2)=h5 at *
 generalize rtH^(a%2)=h3 at *
 generalize rtH^(b%2)=h4 at *
 generalize 2^(a/2+b/2)=z6 at *
 generalize 2^(a/2)=z3 at *
 generalize 2^(b/2)=z4 at *
 have d2:=dv (w1*w2*(D2:Rat));generalize w1*w2*(D2:Rat)/(N2:Rat)=y at *
 have key:y*q1*(f1*f2)*((z6*z5*N2*q2:Nat):Rat)=((h5*D2*q3:Nat):Rat):=by
  rw[cmN,cmN,cmN z6,cS,cH,cmN,cmN h5,cR,<- pq,<- r1,<- r2];have e1:y*q1*(f1*f2)*((z3:Rat)*(z4:Rat)*((z1:Rat)*(z2:Rat))*(N2:Rat)*(q2:Rat))=(y*(N2:Rat))*((z3:Rat)*(z4:Rat))*(q1*(q2:Rat))*(f1*(z1:Rat)*(f2*(z2:Rat))):=by grind
  have e2:(w1*w2*(D2:Rat))*((z3:Rat)*(z4:Rat))*(q1*(q2:Rat))*(f1*(z1:Rat)*(f2*(z2:Rat)))=(w1*(z3:Rat))*(w2*(z4:Rat))*(f1*(z1:Rat)*(f2*(z2:Rat))*(D2:Rat)*(q1*(q2:Rat))):=by grind
  rw[e1,d2,e2,p1,p3,xc,xc]
 have vp:0<z6*z5*N2*q2:=yu (yu (yu n6 n5) hk) n0;generalize z6*z5*N2*q2=v at *
 generalize h5*D2*q3=u at *
 clear d2 dv cS cH cR pq r1 r2 p1 p3 N n0 n5 n6 hk hN2 hD2;generalize y*q1*(f1*f2)=C at *
 refine⟨?_,?_,?_⟩
 ·rw[cmN,cmN,<- key,<- g2];grind
 ·rw[cmN,cmN,c3,<- key,<- g2,<- g1];grind
 ·exact_mod_cast yu vp g3
def hfLo (a b:Nat):Rat:=fsG a b*(rtF a S2*rtF b S2)*sR (1/2) a b 120
def hfHi (a b:Nat):Rat:=fsG a b*(rtF a S2*rtF b S2)*(sR (1/2) a b 120+3*rR (1/2) a b 120)
theorem hf_sum1 {a b:Nat} (ha:1<=a) (hb:1<=b) (ha2:a<=20) (hb2:b<=20) (h:hfOk a b=true) :
  73786976294838206463<=73786976294838206464*(hfLo a b+hfLo b a)/\73786976294838206464*(hfHi a b+hfHi b a)<=73786976294838206465:=by
 unfold hfLo hfHi;have p1:=hf_pt (l:=(hfN a b).1) (h:=(hfN a b).2.1) (e:=(hfN a b).2.2) ha hb ha2 hb2 rfl;have p2:=hf_pt (l:=(hfN b a).1) (h:=(hfN b a).2.1) (e:=(hfN b a).2.2) hb ha hb2 ha2 rfl;unfold hfOk at h;generalize hfN a b=X1 at *
 generalize hfN b a=X2 at *
 obtain⟨l1,h1,e1⟩:=X1;obtain⟨l2,h2,e2⟩:=X2;simp only[pin_eq,xh]at h;obtain⟨k1,k2⟩:=h;have m1:=nat_le_rat (xj k1);have m2:=nat_le_rat (xj k2);obtain⟨a1,a2,a3⟩:=p1;obtain⟨b1,b2,b3⟩:=p2;simp only at a1 a2 a3 b1 b2 b3;have E:=xt a3 b3;rw[cmN,cmN,cmN,cnN,cmN l1,cmN l2,<- a1,<- b1]at m1;rw[cmN,cmN,cmN,cnN,cmN h1,cmN h2,<- a2,<- b2]at m2;rw[show ((2^66-1:Nat):Rat)=73786976294838206463 from rfl,show ((2^66:Nat):Rat)=73786976294838206464 from rfl]at m1;rw[show ((2^66+1:Nat):Rat)=73786976294838206465 from rfl,show ((2^66:Nat):Rat)=73786976294838206464 from rfl]at m2;clear a1 a2 b1 b2 k1 k2
 generalize fsG a b*(rtF a S2*rtF b S2)*sR (1/2) a b 120=u1 at *
 generalize fsG b a*(rtF b S2*rtF a S2)*sR (1/2) b a 120=u2 at *
 generalize fsG a b*(rtF a S2*rtF b S2)*(sR (1/2) a b 120+3*rR (1/2) a b 120)=u3 at *
 generalize fsG b a*(rtF b S2*rtF a S2)*(sR (1/2) b a 120+3*rR (1/2) b a 120)=u4 at *
 generalize (e1:Rat)=x1 at *
 generalize (e2:Rat)=x2 at *
 refine⟨le_by E ?_,le_by E ?_⟩
 ·have:73786976294838206464*(u1+u2)*(x1*x2)=73786976294838206464*(u1*x1*x2+u2*x2*x1):=by grind
  rw[this];exact m1
 ·have:73786976294838206464*(u3+u4)*(x1*x2)=73786976294838206464*(u3*x1*x2+u4*x2*x1):=by grind
  rw[this];exact m2
theorem hf_sum {a b:Nat} (ha:1<=a:=by omega) (hb:1<=b:=by omega) (ha2:a<=20:=by omega) (hb2:b<=20:=by omega) :
  73786976294838206463<=73786976294838206464*(hfLo a b+hfLo b a)/\73786976294838206464*(hfHi a b+hfHi b a)<=73786976294838206465:=by
 rcases Nat.le_total a b with h|h
 ·exact hf_sum1 ha hb ha2 hb2 (hf_all ha h hb2)
 ·have:=hf_sum1 hb ha hb2 ha2 (hf_all hb h ha2);rw[Rat.add_comm (hfLo a b),Rat.add_comm (hfHi a b)];exact this
theorem sR_nnH {x:Rat} {a b:Nat} (h:0<=x) (k:Nat):0<=sR x a b k:=xE (show (0:Rat)<=1 by decide) (sR_up (a:=a) (b:=b) h (zj k))
section
variable {x:Rat} {a b p:Nat} {s:Bool} {n d:List Nat}
end
end Go.Proofs.YtfknkoeagjonbaaGreat
namespace Go.Proofs.YtfknkoeagjonbaaGreat
open Go.Ev
def fsC (a b:Nat):Rat:=(((beta2 a b).den*2:Nat):Rat)*(((beta2 a b).num.natAbs*a:Nat):Rat)⁻¹*(if a%2*(b%2)=1 then 1/PI0 else 1)
theorem pwR_add (q:Rat) (m n:Nat):pwR q (m+n)=pwR q m*pwR q n:=by
 induction n with
 |zero=>show pwR q m=pwR q m*1;rw[yA]
 |succ n ih=>show pwR q (m+n)*q=pwR q m*(pwR q n*q);rw[ih,zG]
theorem pwR_half (q:Rat) (a:Nat):pwR q a=pwR q (a/2)*pwR q (a/2)*rtF a q:=by
 unfold rtF;have h:a%2=0\/a%2=1:=by omega
 rcases h with h|h
 ·rw[if_neg (by omega),yA,<- pwR_add,show a/2+a/2=a by omega]
 ·rw[if_pos h,<- pwR_add];have:a=a/2+a/2+1:=by omega
  conv=>lhs;rw[this]
  rfl
theorem rtF_sq_lo {q s:Rat} (a:Nat) (h:s*s<=q):rtF a s*rtF a s<=rtF a q:=by
 unfold rtF;split
 ·exact h
 ·rw[yA];exact xN
theorem rtF_sq_hi {q s:Rat} (a:Nat) (h:q<=s*s):rtF a q<=rtF a s*rtF a s:=by
 unfold rtF;split
 ·exact h
 ·rw[yA];exact xN
theorem rtF_nn {s:Rat} (a:Nat) (h:0<=s):0<=rtF a s:=by
 unfold rtF;split
 ·exact h
 ·decide
theorem fstR_sq (a b:Nat) (x sx sy:Rat):fstR a b x sx sy=fsC a b*(pwR x (a/2)*rtF a sx*(pwR (1-x) (b/2)*rtF b sy)):=by
 unfold fstR fsC rtF;rw[xk];generalize (if a%2=1 then sx else 1)=u;generalize (if b%2=1 then sy else 1)=v;generalize (if a%2*(b%2)=1 then 1/PI0 else 1)=z;grind
theorem mul_self_nn (x:Rat):0<=x*x:=by
 rcases zC (a:=0) (b:=x) with h|h
 ·exact xF h h
 ·have:=xF (show 0 <= -x by grind) (show 0 <= -x by grind);grind
theorem mul_both {a b c d:Rat} (h1:a<=b) (h2:c<=d) (hb:0<=b) (hc:0<=c):a*c<=b*d:=
 xE (xA h1 hc) (xB h2 hb)
section
variable {x sx sy:Rat} {a b k:Nat}
theorem sh_lo (hx:0<=x) (hx1:x<=1) (h1:sx*sx<=x) (h2:sy*sy<=1-x):fstR a b x sx sy*sR x a b k*(fstR a b x sx sy*sR x a b k)<=fsC a b*fsC a b*shG a b k x:=by
 have e1:=rtF_sq_lo a h1;have e2:=rtF_sq_lo b h2;unfold shG;rw[fstR_sq,pwR_half x a,pwR_half (1-x) b];have n1:0<=pwR x (a/2)*pwR x (a/2):=xF (pwR_nn hx _) (pwR_nn hx _);have n2:0<=pwR (1-x) (b/2)*pwR (1-x) (b/2):=xF (pwR_nn (by grind) _) (pwR_nn (by grind) _);have n3:0<=rtF a x:=rtF_nn a hx;have n4:0<=rtF b sy*rtF b sy:=mul_self_nn _;have n5:0<=fsC a b*fsC a b:=mul_self_nn _;have n6:0<=sR x a b k*sR x a b k:=mul_self_nn _;have m:=mul_both e1 e2 n3 n4;have m2:=xB m (xF (xF n5 n6) (xF n1 n2));generalize fsC a b=c at *
 generalize sR x a b k=s at *
 generalize pwR x (a/2)=u at *
 generalize pwR (1-x) (b/2)=v at *
 generalize rtF a sx=r1 at *
 generalize rtF b sy=r2 at *
 generalize rtF a x=r3 at *
 generalize rtF b (1-x)=r4 at *
 have q1:c*(u*r1*(v*r2))*s*(c*(u*r1*(v*r2))*s)=c*c*(s*s)*(u*u*(v*v))*(r1*r1*(r2*r2)):=by grind
 have q2:c*c*(u*u*r3*(v*v*r4)*(s*s))=c*c*(s*s)*(u*u*(v*v))*(r3*r4):=by grind
 rw[q1,q2];exact m2
theorem sh_hi (hx:0<=x) (hx1:x<=1) (h1:x<=sx*sx) (h2:1-x<=sy*sy):fsC a b*fsC a b*shG a b k x<=fstR a b x sx sy*sR x a b k*(fstR a b x sx sy*sR x a b k):=by
 have e1:=rtF_sq_hi a h1;have e2:=rtF_sq_hi b h2;unfold shG;rw[fstR_sq,pwR_half x a,pwR_half (1-x) b];have n1:0<=pwR x (a/2)*pwR x (a/2):=xF (pwR_nn hx _) (pwR_nn hx _);have n2:0<=pwR (1-x) (b/2)*pwR (1-x) (b/2):=xF (pwR_nn (by grind) _) (pwR_nn (by grind) _);have n3:0<=rtF a sx*rtF a sx:=mul_self_nn _;have n4:0<=rtF b (1-x):=rtF_nn b (by grind);have n5:0<=fsC a b*fsC a b:=mul_self_nn _;have n6:0<=sR x a b k*sR x a b k:=mul_self_nn _;have m:=mul_both e1 e2 n3 n4;have m2:=xB m (xF (xF n5 n6) (xF n1 n2));generalize fsC a b=c at *
 generalize sR x a b k=s at *
 generalize pwR x (a/2)=u at *
 generalize pwR (1-x) (b/2)=v at *
 generalize rtF a sx=r1 at *
 generalize rtF b sy=r2 at *
 generalize rtF a x=r3 at *
 generalize rtF b (1-x)=r4 at *
 have q1:c*(u*r1*(v*r2))*s*(c*(u*r1*(v*r2))*s)=c*c*(s*s)*(u*u*(v*v))*(r1*r1*(r2*r2)):=by grind
 have q2:c*c*(u*u*r3*(v*v*r4)*(s*s))=c*c*(s*s)*(u*u*(v*v))*(r3*r4):=by grind
 rw[q1,q2];exact m2
end
def RowS (a b w:Nat) (x:Rat) (A B:Nat):Prop := ∃K:Nat,∀m,K<=m->(A:Rat)*(A:Rat)<=fsC a b*fsC a b*shG a b m x*(p2 w*p2 w)/\fsC a b*fsC a b*shG a b m x*(p2 w*p2 w)<=(B:Rat)*(B:Rat)
theorem sq_pair (u w:Rat):u*w*(u*w)=u*u*(w*w):=by grind
section
variable {x:Rat} {a b p L:Nat}
theorem row_sq (hz:szR x L) (hL1:1<=L) (hL:L<=260) (ha:1<=a) (ha2:a<=22) (hb:1<=b) (hb2:b<=22) (hp:p<=200) (h0:0<=x) (h1:x+x<=1) :
  ∃A B:Nat,Go.Ev.Fn CX 111 [.int .i64 (a:Int),.int .i64 (b:Int),rv x,.int .i64 ((p+300:Nat):Int)] (spanV A B)/\(lim A).length<=100/\(lim B).length<=100/\RowS a b (p+300) x A B/\B<=A+2^131:=by
 have hx1:x<=1:=by grind
 obtain⟨F1,F2,p1,p2',q1,q2,fi,g1,g2,g3,r1,r2,r3,r4,r5,r6,r7,r8,hF⟩:=incb_fst (w:=p+300) ha (by omega) hb (by omega) hz hL1 hL h0 hx1;obtain⟨A,B,K,hg⟩:=rowh_ends ha (by omega) h0 h1 (by omega) (by omega) g1 g2 g3;obtain⟨k1,k2,k3⟩:=rowh_bd ha (by omega) h0 h1 (by omega) g1 g2 g3 hg;have f:=incb_rowh ha (by omega) hb (by omega) hz (by omega) h0 h1 (by omega) (by omega) fi g1 g2 g3 hg;have lB:=lim_len_p2 k3;have P:=p2_pos (p+300)
 have tell : ∀sx sy,p1<=sx->sx<=p2'->q1<=sy->sy<=q2->b<=K/\(A:Rat)<=fstR a b x sx sy*sR x a b K*p2 (p+300)/\fstR a b x sx sy*sR x a b K*p2 (p+300)+64<=(B:Rat)/\fstR a b x sx sy*rR x a b K*p2 (p+300)<=8:=by
  intro sx sy x1 x2 y1 y2;have en:=hF sx sy x1 x2 y1 y2;have en1:Enc (p+300) F1 F2 (fstR a b x sx sy*rR x a b 0):=by
   show Enc _ _ _ (_*1);rw[yA];exact en
  have en2:Enc (p+300) F1 F2 (fstR a b x sx sy*sR x a b 0):=en1;exact row_enc (un_enc h0 (p+300)) 2201 0 _ _ _ _ hg en1 en2
 have nn : ∀sx sy,p1<=sx->sx<=p2'->q1<=sy->sy<=q2->0<=fstR a b x sx sy:=fun sx sy x1 x2 y1 y2=>enc_nonneg (hF sx sy x1 x2 y1 y2)
 refine⟨A,B,f,xH (lim_len_mono k1) (by omega),by omega,⟨K,fun m hm => ?_⟩,k2⟩;obtain⟨hbK,a1,-,-⟩:=tell p1 q1 xN r1 xN r5;obtain⟨-,-,b1,b2⟩:=tell p2' q2 r1 xN r5 xN;have c1:=nn p1 q1 xN r1 xN r5;have c2:=nn p2' q2 r1 xN r5 xN;have s0:=sR_nnH (a:=a) (b:=b) h0 m;have s1:=sR_up (a:=a) (b:=b) h0 hm;have s2:=sR_top (a:=a) (b:=b) h0 h1 (k:=K) (m:=m) hbK;have lo:=sh_lo (a:=a) (b:=b) (k:=m) h0 hx1 r3 r7;have hi:=sh_hi (a:=a) (b:=b) (k:=m) h0 hx1 r4 r8;have P0:0<=p2 (p+300):=xG P;have A1:(A:Rat)<=fstR a b x p1 q1*sR x a b m*p2 (p+300):=xE a1 (xA (xB s1 c1) P0)
 have B1:fstR a b x p2' q2*sR x a b m*p2 (p+300)<=(B:Rat):=by
  have t:=xA (xB s2 c2) P0;refine xE t ?_;clear f fi hg hF tell nn lB lo hi A1 k3 g3;generalize fstR a b x p2' q2=u at *
  generalize sR x a b K=v at *
  generalize rR x a b K=v' at *
  generalize p2 (p+300)=w at *
  have e:u*(v+3*v')*w=u*v*w+3*(u*v'*w):=by grind
  rw[e];grind
 have n1:0<=fstR a b x p1 q1*sR x a b m*p2 (p+300):=xF (xF c1 s0) P0;have n2:0<=fstR a b x p2' q2*sR x a b m*p2 (p+300):=xF (xF c2 s0) P0;have A2:=mul_both A1 A1 n1 (nat_nonneg A);have B2:=mul_both B1 B1 (nat_nonneg B) n2;have lo2:=xA lo (mul_self_nn (p2 (p+300)));have hi2:=xA hi (mul_self_nn (p2 (p+300)));rw[sq_pair]at A2 B2;exact⟨xE A2 lo2,xE hi2 B2⟩
end
end Go.Proofs.YtfknkoeagjonbaaGreat
namespace Go.Proofs.YtfknkoeagjonbaaGreat
open Go.Ev
section
variable {a b:Nat}
theorem shG_grow {k:Nat} {x y M:Rat} (ha:1<=a) (ha2:a<=20) (hb2:b<=20) (hk:160<=k) (h0:0<x) (hxy:x<=y) (hy:y+y<=1) (hM : ∀z,0<=z->z+z<=1->sR z a b k<=M) :
  shG a b k x*(M+2*(y-x))<=shG a b k y*M:=by
 obtain⟨q,d1,e1⟩:=dif_pw dif_id a;obtain⟨r,d2,e2⟩:=dif_pw dif_one_sub b;obtain⟨s,d3,e3⟩:=dif_sR (a:=a) (b:=b) k;obtain⟨c,hc⟩ : ∃c,c=shG a b k x:=⟨_,rfl⟩
 have d:=dif_add (dif_mul (dif_const M) (dif_mul (dif_mul d1 d2) (dif_mul d3 d3))) (dif_mul (dif_const (-(2*c))) dif_id);have t:=dif_mono d (x:=x) (y:=y) (by grind) hxy (by grind) fun z z1 z2 => ?_
 ·have t':M*shG a b k x + -(2*c)*x<=M*shG a b k y + -(2*c)*y:=t;rw[<- hc]at t' ⊢;grind
 have z0:0<z:=by grind
 have P:0<z*(1-z):=xt z0 (by grind);have n1:=pwR_nn (q:=z) (by grind) a;have n2:=pwR_nn (q:=1-z) (by grind) b;have n3:0<=sR z a b k:=sR_nnH (by grind) k;have up:=shG_up (a:=a) (b:=b) ha ha2 hb2 hk h0 z1 (by grind);have late:=late_small (x:=z) (a:=a) (b:=b) (by grind) (by grind) ha ha2 hb2 hk;have r0:=xF (nat_nonneg (a+b+2*k)) (rR_nn (x:=z) (a:=a) (b:=b) (by grind) k);have A1:(1:Rat)<=(a:Rat):=by exact_mod_cast ha
 have m:=xA late (show 0<=z by grind);have hT:=e3 z;have hm:=hM z (by grind) (by grind);have sl:=slope_id (S:=sR z a b k) (s:=s z) (q:=q z) (r:=r z) (e1 z) (e2 z);rw[<- hc]at up;have up':c<=pwR z a*pwR (1-z) b*(sR z a b k*sR z a b k):=up;refine le_by P ?_;rw[xw];have goal:0<=(M*((pwR z a*pwR (1-z) b*(sR z a b k*s z+s z*sR z a b k)+(pwR z a*r z+q z*pwR (1-z) b)*(sR z a b k*sR z a b k)) ) + -(2*c))*(z*(1-z)):=by
  have ex:(M*((pwR z a*pwR (1-z) b*(sR z a b k*s z+s z*sR z a b k)+(pwR z a*r z+q z*pwR (1-z) b)*(sR z a b k*sR z a b k)) ) + -(2*c))*(z*(1-z)) =
   M*((pwR z a*pwR (1-z) b*(sR z a b k*s z+s z*sR z a b k)+(pwR z a*r z+q z*pwR (1-z) b)*(sR z a b k*sR z a b k))*(z*(1-z)))-2*c*(z*(1-z)):=by
   generalize (pwR z a*pwR (1-z) b*(sR z a b k*s z+s z*sR z a b k)+(pwR z a*r z+q z*pwR (1-z) b)*(sR z a b k*sR z a b k))=G;grind
  rw[ex,sl,hT];have q4:4*(z*(1-z))<=1:=by
   have:=mul_self_nn (1-2*z);grind
  have T2:1<=2*((a:Rat)-((a+b+2*k:Nat):Rat)*z*rR z a b k):=by grind
  have W:=xF n1 n2;clear e1 e2 e3 d d1 d2 d3 sl hT ex hM up n1 n2 late;generalize (a:Rat)-((a+b+2*k:Nat):Rat)*z*rR z a b k=T at *
  generalize pwR z a*pwR (1-z) b=w at *
  generalize sR z a b k=S at *
  generalize z*(1-z)=p at *
  have k1:2*c*p<=2*(w*(S*S))*p:=xA (by grind) (by grind);have wS:=xF W (xF n3 n3);have k2:=xB q4 wS;have wS1:=xF W n3;have M0:0<=M:=xE n3 hm;have k3:=xB hm wS1;have k4:=xB T2 (xF M0 wS1);grind
 have e:(M*((pwR z a*pwR (1-z) b)*(sR z a b k*s z+s z*sR z a b k)+(pwR z a*r z+q z*pwR (1-z) b)*(sR z a b k*sR z a b k))+0*(pwR z a*pwR (1-z) b*(sR z a b k*sR z a b k))+(-(2*c)*1+0*z))=(M*((pwR z a*pwR (1-z) b*(sR z a b k*s z+s z*sR z a b k)+(pwR z a*r z+q z*pwR (1-z) b)*(sR z a b k*sR z a b k)) ) + -(2*c)):=by
  rw[xw,xw,wi,wi,yA]
 show 0<=(M*((pwR z a*pwR (1-z) b)*(sR z a b k*s z+s z*sR z a b k)+(pwR z a*r z+q z*pwR (1-z) b)*(sR z a b k*sR z a b k))+0*(pwR z a*pwR (1-z) b*(sR z a b k*sR z a b k))+(-(2*c)*1+0*z))*(z*(1-z))
 rw[e];exact goal
end
end Go.Proofs.YtfknkoeagjonbaaGreat
namespace Go.Proofs.YtfknkoeagjonbaaGreat
open Go.Ev
theorem hfHi_nn {a b:Nat} (ha:1<=a) (ha2:a<=20) (hb:1<=b) (hb2:b<=20):0<=hfHi a b:=by
 have hh:(1/2:Rat)+1/2=1:=by decide +kernel
 have h2:(0:Rat)<=1/2:=by decide +kernel
 have G:=fsG_nn ha hb;have F:=xF G (xF (rtF_nn a S2_nn) (rtF_nn b S2_nn));have s:=xB (sR_top (a:=a) (b:=b) (k:=120) (m:=160) h2 (by rw[hh];exact xN)) F;have s0:=xF F (sR_nnH (a:=a) (b:=b) h2 160);unfold hfHi;exact xE s0 s
theorem hi_nn {B p:Nat}:0<=toldHi B p:=by
 unfold toldHi;have m:=mk_p2n (B/2^(p+300-(p+2))+1) (p+2);refine le_by (p2_pos (p+2)) ?_;rw[m,xw];exact nat_nonneg _
section
variable {x y:Rat} {a b p L:Nat} {v v':SV}
def BallS (a b p:Nat) (x l h:Rat):Prop:=
 (x+x<=1 /\ ∃A B:Nat,RowS a b (p+300) x A B/\A<=B/\l=toldLo A p/\h=toldHi B p) \/
 (1<x+x /\ ∃A B:Nat,RowS b a (p+300) (1-x) A B/\A<=B/\l=1-toldHi B p/\h=1-toldLo A p)
theorem rows_ab {a b w:Nat} {x:Rat} {A B:Nat} (h:RowS a b w x A B):A<=B:=by
 obtain⟨K,h⟩:=h;have g:=h K (xQ _);have r:=sq_mon (nat_nonneg A) (nat_nonneg B) (xE g.1 g.2);exact_mod_cast r
theorem ball_le {l h:Rat} (g:BallS a b p x l h):l<=h:=by
 rcases g with⟨-,A,B,-,k,rfl,rfl⟩|⟨-,A,B,-,k,rfl,rfl⟩
 ·exact told_le k
 ·have:=told_le (p:=p) k;grind
end
end Go.Proofs.YtfknkoeagjonbaaGreat
namespace Go.Proofs.YtfknkoeagjonbaaGreat
open Go.Ev
def topOk (a b:Nat):Bool:=match hfGo a b 120 0 1 1 1 with
 |(n,d,s)=>Nat.ble (s+3*n) (2048*d)
theorem top_ok1:(List.range 20).all (fun j=>topOk 1 (1+j))=true:=by decide +kernel
theorem top_ok2:(List.range 20).all (fun j=>topOk 2 (1+j))=true:=by decide +kernel
theorem top_ok3:(List.range 20).all (fun j=>topOk 3 (1+j))=true:=by decide +kernel
theorem top_ok4:(List.range 20).all (fun j=>topOk 4 (1+j))=true:=by decide +kernel
theorem top_ok5:(List.range 20).all (fun j=>topOk 5 (1+j))=true:=by decide +kernel
theorem top_ok6:(List.range 20).all (fun j=>topOk 6 (1+j))=true:=by decide +kernel
theorem top_ok7:(List.range 20).all (fun j=>topOk 7 (1+j))=true:=by decide +kernel
theorem top_ok8:(List.range 20).all (fun j=>topOk 8 (1+j))=true:=by decide +kernel
theorem top_ok9:(List.range 20).all (fun j=>topOk 9 (1+j))=true:=by decide +kernel
theorem top_ok10:(List.range 20).all (fun j=>topOk 10 (1+j))=true:=by decide +kernel
theorem top_ok11:(List.range 20).all (fun j=>topOk 11 (1+j))=true:=by decide +kernel
theorem top_ok12:(List.range 20).all (fun j=>topOk 12 (1+j))=true:=by decide +kernel
theorem top_ok13:(List.range 20).all (fun j=>topOk 13 (1+j))=true:=by decide +kernel
theorem top_ok14:(List.range 20).all (fun j=>topOk 14 (1+j))=true:=by decide +kernel
theorem top_ok15:(List.range 20).all (fun j=>topOk 15 (1+j))=true:=by decide +kernel
theorem top_ok16:(List.range 20).all (fun j=>topOk 16 (1+j))=true:=by decide +kernel
theorem top_ok17:(List.range 20).all (fun j=>topOk 17 (1+j))=true:=by decide +kernel
theorem top_ok18:(List.range 20).all (fun j=>topOk 18 (1+j))=true:=by decide +kernel
theorem top_ok19:(List.range 20).all (fun j=>topOk 19 (1+j))=true:=by decide +kernel
theorem top_ok20:(List.range 20).all (fun j=>topOk 20 (1+j))=true:=by decide +kernel
theorem top_all {a b:Nat} (h1:1<=a) (h2:a<=20) (h3:1<=b) (h4:b<=20):topOk a b=true:=by
 have g : ∀c,(List.range 20).all (fun j=>topOk c (1+j))=true->topOk c b=true:=fun c h=>by
  have:=zJ.1 h (b-1) (zX.2 (by omega));rwa [show 1+(b-1)=b by omega]at this
 have hc:a=1\/a=2\/a=3\/a=4\/a=5\/a=6\/a=7\/a=8\/a=9\/a=10\/a=11\/a=12\/a=13\/a=14\/a=15\/a=16\/a=17\/a=18\/a=19\/a=20:=by omega
 rcases hc with rfl|rfl|rfl|rfl|rfl|rfl|rfl|rfl|rfl|rfl|rfl|rfl|rfl|rfl|rfl|rfl|rfl|rfl|rfl|rfl
 ·exact g 1 top_ok1
 ·exact g 2 top_ok2
 ·exact g 3 top_ok3
 ·exact g 4 top_ok4
 ·exact g 5 top_ok5
 ·exact g 6 top_ok6
 ·exact g 7 top_ok7
 ·exact g 8 top_ok8
 ·exact g 9 top_ok9
 ·exact g 10 top_ok10
 ·exact g 11 top_ok11
 ·exact g 12 top_ok12
 ·exact g 13 top_ok13
 ·exact g 14 top_ok14
 ·exact g 15 top_ok15
 ·exact g 16 top_ok16
 ·exact g 17 top_ok17
 ·exact g 18 top_ok18
 ·exact g 19 top_ok19
 ·exact g 20 top_ok20
section
variable {a b k:Nat}
theorem rR_monoX {x y:Rat} (h0:0<=x) (h:x<=y) (k:Nat):rR x a b k<=rR y a b k:=by
 induction k with
 |zero=>exact xN
 |succ k ih=>
  have M:(0:Rat)<((a+2+2*k:Nat):Rat):=by exact_mod_cast (show 0<a+2+2*k by omega)
  refine le_by M ?_;rw[rR_step,rR_step];have r0:=rR_nn (x:=x) (a:=a) (b:=b) h0 k;have n0:=nat_nonneg (a+b+2*k);have m:=mul_both ih h (xE r0 ih) h0;exact xA m n0
theorem sR_monoX {x y:Rat} (h0:0<=x) (h:x<=y) (k:Nat):sR x a b k<=sR y a b k:=by
 induction k with
 |zero=>exact xN
 |succ k ih=>
  have:=rR_monoX (a:=a) (b:=b) h0 h (k+1);show sR x a b k+_<=sR y a b k+_;grind
theorem sR_most {z:Rat} (ha:1<=a) (ha2:a<=20) (hb:1<=b) (hb2:b<=20) (h0:0<=z) (h:z+z<=1) (k:Nat):sR z a b k<=2048:=by
 have hh:(1/2:Rat)+1/2=1:=by decide +kernel
 have h2:(0:Rat)<=1/2:=by decide +kernel
 have z2:z<=1/2:=by generalize (1/2:Rat)=hf at *;grind
 have m1:=sR_monoX (a:=a) (b:=b) h0 z2 k;have m2:=sR_top (a:=a) (b:=b) (k:=120) (m:=k) h2 (by rw[hh];exact xN);obtain⟨g1,g2,g3⟩:=hfGo_is a b 120 0 1 1 1 (show (1:Rat)*((1:Nat):Rat)=((1:Nat):Rat) by decide +kernel) (show (1:Rat)*((1:Nat):Rat)=((1:Nat):Rat) by decide +kernel) (by decide);have t:=top_all ha ha2 hb hb2;rw[yV]at g1 g2;unfold topOk at t;generalize hfGo a b 120 0 1 1 1=g at *
 obtain⟨n,d,s⟩:=g;have t1:s+3*n<=2048*d:=xj t;have t2:((s+3*n:Nat):Rat)<=((2048*d:Nat):Rat):=by exact_mod_cast t1
 have c1:((s+3*n:Nat):Rat)=(s:Rat)+3*(n:Rat):=by exact_mod_cast rfl
 have c2:((2048*d:Nat):Rat)=2048*(d:Rat):=by exact_mod_cast rfl
 have d0:(0:Rat)<(d:Rat):=by exact_mod_cast g3
 refine xE m1 (xE m2 (le_by d0 ?_));have e1:rR (1/2) a b 120*(d:Rat)=(n:Rat):=g1;have e2:sR (1/2) a b 120*(d:Rat)=(s:Rat):=g2;rw[c1,c2]at t2;generalize sR (1/2) a b 120=u at *
 generalize rR (1/2) a b 120=v at *
 generalize (n:Rat)=n' at *
 generalize (s:Rat)=s' at *
 generalize (d:Rat)=d' at *
 clear m1 m2;grind
end
end Go.Proofs.YtfknkoeagjonbaaGreat
namespace Go.Proofs.YtfknkoeagjonbaaGreat
open Go.Ev
def Lo1 (a b:Nat) (x l:Rat):Prop:=l<=0 \/ ∃K:Nat,∀m,K<=m->l*l<=fsC a b*fsC a b*shG a b m x
def Hi1 (a b:Nat) (x h:Rat):Prop:=0<=h /\ ∃K:Nat,∀m,K<=m->fsC a b*fsC a b*shG a b m x<=h*h
def LoS (a b:Nat) (x l:Rat):Prop:=(x+x<=1/\Lo1 a b x l)\/(1<x+x/\Hi1 b a (1-x) (1-l))
def HiS (a b:Nat) (x h:Rat):Prop:=(x+x<=1/\Hi1 a b x h)\/(1<x+x/\Lo1 b a (1-x) (1-h))
section
variable {a b:Nat} {x y l h d c:Rat}
theorem sq_part {l h d:Rat} (hl:0<=l) (hh:0<=h) (hd:0<=d) (hd1:d<=1) (g:l*l*(2048+2*d)<=h*h*2048):4096*l+l*d<=4096*h:=by
 have k:(4096*l+l*d)*(4096*l+l*d)<=(4096*h)*(4096*h):=by
  have e:(4096*l+l*d)*(4096*l+l*d)=l*l*(16777216+8192*d+d*d):=by grind
  have dd:d*d<=d:=by
   have:=xB hd1 hd;grind
  have m:=xB (show 16777216+8192*d+d*d<=16777216+16384*d by grind) (mul_self_nn l);rw[e];refine xE m ?_;grind
 exact sq_mon (by have:=xF hl hd;grind) (by grind) k
theorem grow1 (ha:1<=a) (ha2:a<=20) (hb:1<=b) (hb2:b<=20) (h0:0<x) (hxy:x<=y) (hy:y+y<=1) (hl:0<l) (A:Lo1 a b x l) (B:Hi1 a b y h):4096*l+l*(y-x)<=4096*h:=by
 obtain⟨B0,K',B⟩:=B;rcases A with A|⟨K,A⟩
 ·exact absurd A (by grind)
 refine sq_part (by grind) B0 (by grind) (by grind) ?_;have g:=A (max (max K K') 160) (by omega);have g':=B (max (max K K') 160) (by omega);have m:=shG_grow (a:=a) (b:=b) (k:=max (max K K') 160) (M:=2048) ha ha2 hb2 (by omega) h0 hxy hy fun z z0 z1=>sR_most ha ha2 hb hb2 z0 z1 _
 have C:0<=fsC a b*fsC a b:=mul_self_nn _;have m2:=xB m C;have g2:=xA g (show 0<=2048+2*(y-x) by grind);generalize shG a b (max (max K K') 160) x=u at *
 generalize shG a b (max (max K K') 160) y=v at *
 generalize fsC a b*fsC a b=w at *
 grind
theorem half1 (ha:1<=a) (ha2:a<=20) (hb:1<=b) (hb2:b<=20):Hi1 a b (1/2) (hfHi a b):=by
 refine⟨hfHi_nn ha ha2 hb hb2,160,fun m hm => ?_⟩;have hh:(1/2:Rat)+1/2=1:=by decide +kernel
 have h2:(0:Rat)<=1/2:=by decide +kernel
 have e1:(1:Rat)-1/2=1/2:=by decide +kernel
 have t:=sh_hi (a:=a) (b:=b) (k:=m) (x:=1/2) (sx:=S2) (sy:=S2) h2 (by decide +kernel) S2_sq.1 (by rw[e1];exact S2_sq.1);rw[fstR_is]at t;have G:=fsG_nn ha hb;have F:=xF G (xF (rtF_nn a S2_nn) (rtF_nn b S2_nn));have s:=xB (sR_top (a:=a) (b:=b) (k:=120) (m:=m) h2 (by rw[hh];exact xN)) F;have s0:=xF F (sR_nnH (a:=a) (b:=b) h2 m);unfold hfHi;exact xE t (mul_both s s (xE s0 s) s0)
theorem cross (ha:1<=a) (ha2:a<=20) (hb:1<=b) (hb2:b<=20) (h0:0<x) (hx:x+x<=1) (hl:0<l) (A:Lo1 a b x l):4096*l+l*(1/2-x)<=4096*hfHi a b:=by
 have hh:(1/2:Rat)+1/2=1:=by decide +kernel
 have H:=half1 ha ha2 hb hb2;generalize (1/2:Rat)=hf at *
 exact grow1 ha ha2 hb hb2 h0 (by grind) (by grind) hl A H
theorem gap (ha:1<=a) (ha2:a<=20) (hb:1<=b) (hb2:b<=20) (h0:0<x) (hxy:x<=y) (hy:y<1) (hc:0<c) (hl:c<=l) (hh:h<=1-c) (A:LoS a b x l) (B:HiS a b y h) :
  (4096*l+c*(y-x))*18014398509481984<=4096*h*18014398509481984+1:=by
 have l0:0<l:=by grind
 have n0:0<1-h:=by grind
 have cd:=fun (z:Rat) (hz:0<=z)=>xA hl hz
 have ce:=fun (z:Rat) (hz:0<=z)=>xA (show c<=1-h by grind) hz
 rcases A with⟨k,A⟩|⟨k,A⟩<;>rcases B with⟨k',B⟩|⟨k',B⟩
 ·have g:=grow1 ha ha2 hb hb2 h0 hxy k' l0 A B;have:=cd (y-x) (by grind);grind
 ·have g:=cross ha ha2 hb hb2 h0 k l0 A;have g':=cross hb hb2 ha ha2 (show 0<1-y by grind) (by grind) n0 B;have s:=(hf_sum ha hb ha2 hb2).2;have hf2:(1/2:Rat)+1/2=1:=by decide +kernel
  generalize (1/2:Rat)=hf at *
  have u1:=cd (hf-x) (by grind);have u2:=ce (hf-(1-y)) (by grind);have e:c*(y-x)=c*(hf-x)+c*(hf-(1-y)):=by grind
  rw[wj,e];generalize hfHi a b=w1 at *
  generalize hfHi b a=w2 at *
  generalize c*(hf-x)=c1 at *
  generalize c*(hf-(1-y))=c2 at *
  generalize l*(hf-x)=c3 at *
  generalize (1-h)*(hf-(1-y))=c4 at *
  clear cd ce A B e;grind
 ·exact absurd k (by grind)
 ·have g:=grow1 hb hb2 ha ha2 (show 0<1-y by grind) (show 1-y<=1-x by grind) (by grind) n0 B A;have:=ce (1-x-(1-y)) (by grind);have e:1-x-(1-y)=y-x:=by grind
  rw[e]at g this;grind
end
section
variable {a b:Nat} {x l h:Rat}
theorem lo_hi1 (A:Lo1 a b x l) (B:Hi1 a b x h):l<=h:=by
 obtain⟨B0,K',B⟩:=B;rcases A with A|⟨K,A⟩
 ·grind
 ·have g:=A (max K K') (by omega);have g':=B (max K K') (by omega);rcases zC (a:=l) (b:=0) with l0|l0
  ·grind
  ·exact sq_mon l0 B0 (xE g g')
theorem lo_hi (A:LoS a b x l) (B:HiS a b x h):l<=h:=by
 rcases A with⟨k,A⟩|⟨k,A⟩<;>rcases B with⟨k',B⟩|⟨k',B⟩
 ·exact lo_hi1 A B
 ·exact absurd k (by grind)
 ·exact absurd k' (by grind)
 ·have:=lo_hi1 B A;grind
end
end Go.Proofs.YtfknkoeagjonbaaGreat
namespace Go.Proofs.YtfknkoeagjonbaaGreat
open Go.Ev
section
variable {a b p A B:Nat} {x l h:Rat}
theorem told_dn (A p:Nat):toldLo A p*p2 (p+300)<=(A:Rat):=by
 have e:p2 (p+300)=p2 (p+2)*p2 (p+300-(p+2)):=by rw[<- p2_plus];congr 1;omega
 have m:=mk_p2n (A/2^(p+300-(p+2))) (p+2);unfold toldLo;rw[e,<- zG,m];exact floor_le
theorem told_up (B p:Nat):(B:Rat)<=toldHi B p*p2 (p+300):=by
 have e:p2 (p+300)=p2 (p+2)*p2 (p+300-(p+2)):=by rw[<- p2_plus];congr 1;omega
 have m:=mk_p2n (B/2^(p+300-(p+2))+1) (p+2);unfold toldHi;rw[e,<- zG,m];exact le_floor (xK (by omega))
theorem row_Lo1 (rs:RowS a b (p+300) x A B):Lo1 a b x (toldLo A p):=by
 by_cases t0:toldLo A p<=0
 ·exact .inl t0
 obtain⟨K,hK⟩:=rs;refine .inr ⟨K,fun m hm => ?_⟩;have g:=(hK m hm).1;have P:=p2_pos (p+300);have t:=told_dn A p;have tn:0<=toldLo A p*p2 (p+300):=xF (by grind) (xG P);have mm:=mul_both t t (nat_nonneg A) tn;refine le_by (xt P P) ?_;generalize toldLo A p=u at *
 generalize p2 (p+300)=w at *
 have e:u*u*(w*w)=u*w*(u*w):=by grind
 rw[e];exact xE mm g
theorem row_Hi1 (rs:RowS a b (p+300) x A B):Hi1 a b x (toldHi B p):=by
 obtain⟨K,hK⟩:=rs;refine⟨hi_nn,K,fun m hm => ?_⟩;have g:=(hK m hm).2;have P:=p2_pos (p+300);have t:=told_up B p;have mm:=mul_both t t (xE (nat_nonneg B) t) (nat_nonneg B);refine le_by (xt P P) ?_;generalize toldHi B p=u at *
 generalize p2 (p+300)=w at *
 have e:u*u*(w*w)=u*w*(u*w):=by grind
 rw[e];exact xE g mm
theorem ball_LoHi (g:BallS a b p x l h):LoS a b x l/\HiS a b x h:=by
 rcases g with⟨k,A,B,rs,-,rfl,rfl⟩|⟨k,A,B,rs,-,rfl,rfl⟩
 ·exact⟨.inl ⟨k,row_Lo1 rs⟩,.inl ⟨k,row_Hi1 rs⟩⟩
 ·refine⟨.inr ⟨k,?_⟩,.inr ⟨k,?_⟩⟩
  ·rw[show 1-(1-toldHi B p)=toldHi B p by grind];exact row_Hi1 rs
  ·rw[show 1-(1-toldLo A p)=toldLo A p by grind];exact row_Lo1 rs
theorem told_wide {A B p:Nat} (h:B<=A+2^131):(toldHi B p-toldLo A p)*p2 p<=1:=by
 unfold toldLo toldHi;obtain⟨F,hF,hF2⟩ : ∃F:Nat,F=p+300-(p+2)/\131<=F:=⟨_,rfl,by omega⟩
 rw[<- hF];have m1:=mk_p2n (A/2^F) (p+2);have m2:=mk_p2n (B/2^F+1) (p+2);have gap:B/2^F<=A/2^F+1:=by
  have h6:2^131<=2^F:=xD (by omega) hF2;have h4:B<=A+2^F:=xH h (Nat.add_le_add_left h6 _);have h5:=xf (c:=2^F) h4;rwa [Nat.add_div_right _ (xK (by omega))]at h5
 have gapR:=nat_le_rat (Nat.add_le_add_right gap 1);have c2:((A/2^F+1+1:Nat):Rat)=((A/2^F:Nat):Rat)+2:=by exact_mod_cast rfl
 rw[c2]at gapR;have hp2:p2 (p+2)=p2 p*4:=by
  rw[p2_plus];rfl
 rw[hp2]at m1 m2;clear hF gap h hp2 c2;generalize mkRat ((A/2^F:Nat):Int) (2^(p+2))=q1 at *
 generalize mkRat ((B/2^F+1:Nat):Int) (2^(p+2))=q2 at *
 generalize p2 p=w at *
 grind
theorem incb_ballX {L:Nat} {v:SV} (hv:RatA v x L) (hL1:1<=L) (hL:L<=245) (ha:1<=a) (ha2:a<=22) (hb:1<=b) (hb2:b<=22) (hp:p<=200) (h0:0<x) (h1:x<1) :
  ∃l h:Rat,Go.Ev.Fn CX 53 [.int .i64 (a:Int),.int .i64 (b:Int),v,.int .i64 (p:Int)] (.tup [ballR l h,.bool true])/\szR l 200/\szR h 200/\l<=h/\(h-l)*p2 p<=1/\BallS a b p x l h:=by
 have zx:=szR_of hv hL1;have one1:szR 1 1:=⟨lim_len_lt (by decide +kernel),lim_len_lt (by decide +kernel)⟩
 by_cases hh:x+x<=1
 ·obtain⟨A,B,f,g2,g3,rs,wd⟩:=row_sq (a:=a) (b:=b) (p:=p) zx hL1 (by omega) ha ha2 hb hb2 (by omega) (xG h0) hh;have f1:=incb_I_lo hv hL1 (by omega) ha ha2 hb hb2 (by omega) h0 hh f ⟨g2,g3⟩;obtain⟨z1,z2⟩:=told_sz (p:=p) (by omega) g2 g3;have g:BallS a b p x _ _ := .inl ⟨hh,A,B,rs,rows_ab rs,rfl,rfl⟩;exact⟨_,_,f1,szR_mono z1,szR_mono z2,ball_le g,told_wide wd,g⟩
 ·have zy:=szR_sub one1 zx;have hh':1<x+x:=by grind
  obtain⟨A,B,f,g2,g3,rs,wd⟩:=row_sq (x:=1-x) (a:=b) (b:=a) (p:=p) zy (by omega) (by omega) hb hb2 ha ha2 (by omega) (by grind) (by grind);have f1:=incb_I_hi hv hL1 (by omega) ha ha2 hb hb2 (by omega) hh' h1 f ⟨g2,g3⟩;obtain⟨z1,z2⟩:=told_sz (p:=p) (by omega) g2 g3;have g:BallS a b p x _ _ := .inr ⟨hh',A,B,rs,rows_ab rs,rfl,rfl⟩;have w:=told_wide (p:=p) wd;exact⟨_,_,f1,szR_mono (szR_sub one1 z2),szR_mono (szR_sub one1 z1),ball_le g,by rw[show 1-toldLo A p-(1-toldHi B p)=toldHi B p-toldLo A p by grind];exact w,g⟩
end
end Go.Proofs.YtfknkoeagjonbaaGreat
namespace Go.Proofs.YtfknkoeagjonbaaGreat
open Go.Ev
def Dy (J:Nat) (x:Rat):Prop := ∃A:Nat,A<=2^J/\x*p2 J=(A:Rat)
theorem p2_cat (a b:Nat):p2 (a+b)=p2 a*p2 b:=by
 have:((2^a:Nat):Rat)*((2^b:Nat):Rat)=((2^a*2^b:Nat):Rat):=by exact_mod_cast rfl
 rw[this,<- xM]
theorem p2_next (J:Nat):p2 (J+1)=p2 J*2:=by
 rw[p2_cat];rfl
end Go.Proofs.YtfknkoeagjonbaaGreat
namespace Go.Proofs.YtfknkoeagjonbaaGreat
open Go.Ev
def LowOk (a b:Nat) (q x:Rat):Prop:=0<=x/\(x=0\/(x<1 /\ ∃h,HiS a b x h/\h<q))
def HighOk (a b:Nat) (q x:Rat):Prop:=x<=1/\(x=1\/(0<x /\ ∃l,LoS a b x l/\q<l))
structure Srch (a b:Nat) (q:Rat) (k:Nat) (lo hi:Rat):Prop where
 low:LowOk a b q lo
 high:HighOk a b q hi
 lt:lo<hi
 dlo:Dy (18+k) lo
 dhi:Dy (18+k) hi
 w:(hi-lo)*((4^k:Nat):Rat)<=((3^k:Nat):Rat)
section
variable {a b k:Nat} {q lo hi lo' hi':Rat}
end
end Go.Proofs.YtfknkoeagjonbaaGreat
namespace Go.Proofs.YtfknkoeagjonbaaGreat
open Go.Ev
abbrev distV (k n m:Int) (sa:Bool) (na da:List Nat) (sb:Bool) (nb db:List Nat):SV:=
 .agg [.int .i64 k,.int .i64 n,.int .i64 m,.bool sa,natV na,natV da,.bool sb,natV nb,natV db]
def inD (k n m:Int) (a b:Rat):Bool:=
 if k=1 then decide (0<b) else if k=2 then decide (0<a) else if k=3 then decide (1<=n)&&decide (0<a)
 else if k=4 then decide (1<=n) else if k=5 then decide (1<=n) else if k=6 then decide (1<=n)&&decide (1<=m) else if k=7 then decide (1<=n)&&decide (1<=m)
 else if k=8 then decide (0<=n)&&(decide (0<=a)&&decide (a<=1)) else if k=9 then decide (0<=a) else false
def gtD (k n m:Int) (a:Rat):Bool:=
 if k=3 then decide (256<n) else if k=4 then decide (256<n) else if k=5 then decide (256<n) else if k=6 then decide (256<n)||decide (256<m) else if k=7 then decide (256<n)||decide (256<m)
 else if k=8 then decide (256<n) else if k=9 then decide (64<a) else false
def chkD (k n m:Int) (a b:Rat):Int:=if inD k n m a b then (if gtD k n m a then 7 else 0) else 4
section
variable {k n m:Int} {sa sb:Bool} {na da nb db:List Nat} {a b:Rat} {L:Nat}
theorem dist_above {v:SV} {q:Rat} {L:Nat} (hv:RatA v q L) (hL:1<=L) (h:L<=1048576) (n:Int) (hn : -9223372036854775808<=n/\n<9223372036854775808:=by omega):Go.Ev.Fn CX 133 [v,.int .i64 n] (.bool (decide ((n:Rat)<q))):=by
 have hI:=rat_Int n hn;have hC:=rat_Cmp hv (RatA_rv (int_szR (n:=n))) hL;obtain⟨s,x,d,rfl,-⟩:=hv;refine fni Tryz.f133 ?_;unfold Tryz.f133;repeat (first|simp only[go_sem,cmpR_gt]|simp (disch:=first|exact omg|fail) only[AX,cmpR_gt]|refine wki ?_|refine vpd 1 [] ?_|refine vfa ?_)
theorem dist_below {v:SV} {q:Rat} {L:Nat} (hv:RatA v q L) (hL:1<=L) (h:L<=1048576) (n:Int) (hn : -9223372036854775808<=n/\n<9223372036854775808:=by omega):Go.Ev.Fn CX 134 [v,.int .i64 n] (.bool (decide (q<(n:Rat)))):=by
 have hI:=rat_Int n hn;have hC:=rat_Cmp hv (RatA_rv (int_szR (n:=n))) hL;obtain⟨s,x,d,rfl,-⟩:=hv;refine fni Tryz.f134 ?_;unfold Tryz.f134;repeat (first|simp only[go_sem,cmpR_lt]|simp (disch:=first|exact omg|fail) only[AX,cmpR_lt]|refine wki ?_|refine vpd 1 [] ?_|refine vfa ?_)
theorem kinds (k:Int):k=1\/k=2\/k=3\/k=4\/k=5\/k=6\/k=7\/k=8\/k=9\/(k≠1/\k≠2/\k≠3/\k≠4/\k≠5/\k≠6/\k≠7/\k≠8/\k≠9):=by omega
theorem not_lt_dec {q r:Rat}:(!decide (q<r))=decide (r<=q):=by
 by_cases h:q<r
 ·rw[decide_eq_true h,decide_eq_false (show ¬r<=q by grind)];rfl
 ·rw[decide_eq_false h,decide_eq_true (show r<=q by grind)];rfl
theorem dist_isDomain (hA:RatA (ratV sa na da) a L) (hB:RatA (ratV sb nb db) b L) (hL:1<=L) (h:L<=1048576):Go.Ev.Fn CX 77 [distV k n m sa na da sb nb db] (.bool (inD k n m a b)):=by
 have a0:=dist_above hA hL h 0;have a1:=dist_above hA hL h 1;have b0:=dist_above hB hL h 0;have l0:=dist_below hA hL h 0;rw[show ((0:Int):Rat)=0 from rfl]at a0 b0 l0;rw[show ((1:Int):Rat)=1 from rfl]at a1;refine fni Tryz.f77 ?_;unfold Tryz.f77;rcases kinds k with rfl|rfl|rfl|rfl|rfl|rfl|rfl|rfl|rfl|⟨k1,k2,k3,k4,k5,k6,k7,k8,k9⟩
 ·repeat (first|simp only[go_sem]|simp (disch:=first|exact omg|fail) only[AX]|refine wki ?_)
  refine vfa ?_;repeat (first|simp only[go_sem]|simp (disch:=first|exact omg|fail) only[AX]|refine wki ?_)
  rfl
 ·repeat (first|simp only[go_sem]|simp (disch:=first|exact omg|fail) only[AX]|refine wki ?_)
  refine vfa ?_;repeat (first|simp only[go_sem]|simp (disch:=first|exact omg|fail) only[AX]|refine wki ?_)
  rfl
 ·rw[show inD 3 n m a b=(decide (1<=n)&&decide (0<a)) from rfl];by_cases hn:1<=n
  ·rw[decide_eq_true hn,yU];repeat (first|simp only[go_sem]|simp (disch:=first|exact omg|fail) only[AX]|refine wki ?_|refine vfa ?_)
  ·rw[decide_eq_false hn,yY];repeat (first|simp only[go_sem]|simp (disch:=first|exact omg|fail) only[AX]|refine wki ?_)
 ·rw[show inD 4 n m a b=decide (1<=n) from rfl];repeat (first|simp only[go_sem]|simp (disch:=first|exact omg|fail) only[AX]|refine wki ?_)
 ·rw[show inD 5 n m a b=decide (1<=n) from rfl];repeat (first|simp only[go_sem]|simp (disch:=first|exact omg|fail) only[AX]|refine wki ?_)
 ·rw[show inD 6 n m a b=(decide (1<=n)&&decide (1<=m)) from rfl];by_cases hn:1<=n
  ·rw[decide_eq_true hn,yU];repeat (first|simp only[go_sem]|simp (disch:=first|exact omg|fail) only[AX]|refine wki ?_)
  ·rw[decide_eq_false hn,yY];repeat (first|simp only[go_sem]|simp (disch:=first|exact omg|fail) only[AX]|refine wki ?_)
 ·rw[show inD 7 n m a b=(decide (1<=n)&&decide (1<=m)) from rfl];by_cases hn:1<=n
  ·rw[decide_eq_true hn,yU];repeat (first|simp only[go_sem]|simp (disch:=first|exact omg|fail) only[AX]|refine wki ?_)
  ·rw[decide_eq_false hn,yY];repeat (first|simp only[go_sem]|simp (disch:=first|exact omg|fail) only[AX]|refine wki ?_)
 ·rw[show inD 8 n m a b=(decide (0<=n)&&(decide (0<=a)&&decide (a<=1))) from rfl];by_cases hn:0<=n
  ·rw[decide_eq_true hn,yU];by_cases ha:a<0
   ·rw[decide_eq_true ha]at l0;rw[decide_eq_false (show ¬0<=a by grind),yY];repeat (first|simp only[go_sem,xL]|simp (disch:=first|exact omg|fail) only[AX,xL]|refine wki ?_|refine vfa ?_)
   ·rw[decide_eq_false ha]at l0;rw[decide_eq_true (show 0<=a by grind),yU];repeat (first|simp only[go_sem,xg,not_lt_dec]|simp (disch:=first|exact omg|fail) only[AX,xg,not_lt_dec]|refine wki ?_|refine vfa ?_)
  ·rw[decide_eq_false hn,yY];repeat (first|simp only[go_sem]|simp (disch:=first|exact omg|fail) only[AX]|refine wki ?_)
 ·rw[show inD 9 n m a b=decide (0<=a) from rfl];repeat (first|simp only[go_sem,not_lt_dec]|simp (disch:=first|exact omg|fail) only[AX,not_lt_dec]|refine wki ?_|refine vfa ?_)
 ·have e:inD k n m a b=false:=by
   unfold inD;rw[if_neg k1,if_neg k2,if_neg k3,if_neg k4,if_neg k5,if_neg k6,if_neg k7,if_neg k8,if_neg k9]
  rw[e];repeat (first|simp only[go_sem]|simp (disch:=first|exact omg|fail) only[AX]|refine wki ?_)
theorem max_gt (n m:Int):decide ((if m>n then m else n)>256)=(decide (256<n)||decide (256<m)):=by
 rw[<- Bool.decide_or];congr 1;split<;>(apply propext;omega)
theorem dist_isGreat (hA:RatA (ratV sa na da) a L) (hL:1<=L) (h:L<=1048576):Go.Ev.Fn CX 78 [distV k n m sa na da sb nb db] (.bool (gtD k n m a)):=by
 have a64:=dist_above hA hL h 64;rw[show ((64:Int):Rat)=64 from rfl]at a64;refine fni Tryz.f78 ?_;unfold Tryz.f78;rcases kinds k with rfl|rfl|rfl|rfl|rfl|rfl|rfl|rfl|rfl|⟨k1,k2,k3,k4,k5,k6,k7,k8,k9⟩
 ·repeat (first|simp only[go_sem]|simp (disch:=first|exact omg|fail) only[AX]|refine wki ?_)
  rfl
 ·repeat (first|simp only[go_sem]|simp (disch:=first|exact omg|fail) only[AX]|refine wki ?_)
  rfl
 ·repeat (first|simp only[go_sem]|simp (disch:=first|exact omg|fail) only[AX]|refine wki ?_)
  rfl
 ·repeat (first|simp only[go_sem]|simp (disch:=first|exact omg|fail) only[AX]|refine wki ?_)
  rfl
 ·repeat (first|simp only[go_sem]|simp (disch:=first|exact omg|fail) only[AX]|refine wki ?_)
  rfl
 ·repeat (first|simp only[go_sem,max_gt]|simp (disch:=first|exact omg|fail) only[AX,max_gt]|refine wki ?_)
  rfl
 ·repeat (first|simp only[go_sem,max_gt]|simp (disch:=first|exact omg|fail) only[AX,max_gt]|refine wki ?_)
  rfl
 ·repeat (first|simp only[go_sem]|simp (disch:=first|exact omg|fail) only[AX]|refine wki ?_)
  rfl
 ·repeat (first|simp only[go_sem]|simp (disch:=first|exact omg|fail) only[AX]|refine wki ?_)
  refine vfa ?_;repeat (first|simp only[go_sem]|simp (disch:=first|exact omg|fail) only[AX]|refine wki ?_)
  rfl
 ·have e:gtD k n m a=false:=by
   unfold gtD;rw[if_neg k3,if_neg k4,if_neg k5,if_neg k6,if_neg k7,if_neg k8,if_neg k9]
  rw[e];repeat (first|simp only[go_sem]|simp (disch:=first|exact omg|fail) only[AX]|refine wki ?_)
theorem dist_Check (hA:RatA (ratV sa na da) a L) (hB:RatA (ratV sb nb db) b L) (hL:1<=L:=by omega) (h:L<=1048576:=by omega):Go.Ev.Fn CX 26 [distV k n m sa na da sb nb db] (.int .i64 (chkD k n m a b)):=by
 have h1:=dist_isDomain (k:=k) (n:=n) (m:=m) hA hB hL h;have h2:=dist_isGreat (k:=k) (n:=n) (m:=m) (sb:=sb) (nb:=nb) (db:=db) hA hL h;unfold chkD;refine fni Tryz.f26 ?_;unfold Tryz.f26;generalize inD k n m a b=i at *
 generalize gtD k n m a=g at *
 cases i
 ·repeat (first|simp only[go_sem]|simp (disch:=first|exact omg|fail) only[AX]|refine wki ?_)
  refine vfa ?_;repeat (first|simp only[go_sem,xg]|simp (disch:=first|exact omg|fail) only[AX,xg]|refine wki ?_)
 ·cases g
  ·repeat (first|simp only[go_sem]|simp (disch:=first|exact omg|fail) only[AX]|refine wki ?_)
   repeat (first|simp only[go_sem,xL]|simp (disch:=first|exact omg|fail) only[AX,xL]|refine wki ?_|refine vfa ?_)
  ·repeat (first|simp only[go_sem]|simp (disch:=first|exact omg|fail) only[AX]|refine wki ?_)
   repeat (first|simp only[go_sem,xL]|simp (disch:=first|exact omg|fail) only[AX,xL]|refine wki ?_|refine vfa ?_)
def cntD (k n m:Int) (a b:Rat):Bool:=(k==8||k==9)&&(chkD k n m a b==0)
theorem dist_Counts (hA:RatA (ratV sa na da) a L) (hB:RatA (ratV sb nb db) b L) (hL:1<=L:=by omega) (h:L<=1048576:=by omega):Go.Ev.Fn CX 27 [distV k n m sa na da sb nb db] (.bool (cntD k n m a b)):=by
 have h1:=dist_Check (k:=k) (n:=n) (m:=m) hA hB hL h;unfold cntD;refine fni Tryz.f27 ?_;unfold Tryz.f27;by_cases k8:k=8
 ·rw[beqT k8,Bool.true_or,yU];repeat (first|simp only[go_sem]|simp (disch:=first|exact omg|fail) only[AX]|refine wki ?_|refine vfa ?_)
 ·rw[beqF k8,Bool.false_or];by_cases k9:k=9
  ·rw[beqT k9,yU];repeat (first|simp only[go_sem]|simp (disch:=first|exact omg|fail) only[AX]|refine wki ?_|refine vfa ?_)
  ·rw[beqF k9,yY];repeat (first|simp only[go_sem]|simp (disch:=first|exact omg|fail) only[AX]|refine wki ?_)
theorem ref14_positive {v:SV} {q:Rat} {L:Nat} (hv:RatA v q L) (hL:1<=L:=by omega) (h:L<=1048576:=by omega):Go.Ev.Fn CX 90 [v] (.bool (decide (0<q))):=by
 have hI:=ref2_Int 0;have hC:=ref2_Cmp hv (RatA_rv (int_szR (n:=0))) hL;rw[show ((0:Int):Rat)=0 from rfl]at hI hC;obtain⟨s,x,d,rfl,-⟩:=hv;refine fni Tryz.f90 ?_;unfold Tryz.f90;repeat (first|simp only[go_sem,cmpR_gt]|simp (disch:=first|exact omg|fail) only[AX,cmpR_gt]|refine wki ?_|refine vpd 1 [] ?_|refine vfa ?_)
theorem ref14_in (hA:RatA (ratV sa na da) a L) (hB:RatA (ratV sb nb db) b L) (hL:1<=L) (h:L<=524288):Go.Ev.Fn CX 89 [distV k n m sa na da sb nb db] (.bool (inD k n m a b)):=by
 have pA:=ref14_positive hA hL;have pB:=ref14_positive hB hL;have hN:=ref2_Neg hA hL;have zA:=szR_of hA hL;have pN:=ref14_positive (RatA_rv (szR_neg zA)) hL;have hI:=ref2_Int 1;have z1:=int_szR (n:=1);have hS:=ref2_Sub hA (RatA_rv z1) hL;have pS:=ref14_positive (RatA_rv (szR_sub zA z1 hL));rw[show ((1:Int):Rat)=1 from rfl]at hI hS pS;have eN:(!decide (0 < -a))=decide (0<=a):=by
  rw[not_lt_dec];exact decide_eq_decide.2 ⟨fun h=>by grind,fun h=>by grind⟩
 have eS:(!decide (0<a-1))=decide (a<=1):=by
  rw[not_lt_dec];exact decide_eq_decide.2 ⟨fun h=>by grind,fun h=>by grind⟩
 refine fni Tryz.f89 ?_;unfold Tryz.f89;rcases kinds k with rfl|rfl|rfl|rfl|rfl|rfl|rfl|rfl|rfl|⟨k1,k2,k3,k4,k5,k6,k7,k8,k9⟩
 ·repeat (first|simp only[go_sem]|simp (disch:=first|exact omg|fail) only[AX]|refine wki ?_|refine vpd 15 [] ?_)
  refine vfa ?_;repeat (first|simp only[go_sem]|simp (disch:=first|exact omg|fail) only[AX]|refine wki ?_|refine vpd 15 [] ?_)
  rfl
 ·repeat (first|simp only[go_sem]|simp (disch:=first|exact omg|fail) only[AX]|refine wki ?_|refine vpd 15 [] ?_)
  refine vfa ?_;repeat (first|simp only[go_sem]|simp (disch:=first|exact omg|fail) only[AX]|refine wki ?_|refine vpd 15 [] ?_)
  rfl
 ·rw[show inD 3 n m a b=(decide (1<=n)&&decide (0<a)) from rfl,Bool.and_comm];by_cases ha:0<a
  ·rw[decide_eq_true ha]at pA ⊢;rw[yU];repeat (first|simp only[go_sem]|simp (disch:=first|exact omg|fail) only[AX]|refine wki ?_|refine vpd 15 [] ?_|refine vfa ?_)
  ·rw[decide_eq_false ha]at pA ⊢;rw[yY];repeat (first|simp only[go_sem]|simp (disch:=first|exact omg|fail) only[AX]|refine wki ?_|refine vpd 15 [] ?_|refine vfa ?_)
 ·rw[show inD 4 n m a b=decide (1<=n) from rfl];repeat (first|simp only[go_sem]|simp (disch:=first|exact omg|fail) only[AX]|refine wki ?_|refine vpd 15 [] ?_)
 ·rw[show inD 5 n m a b=decide (1<=n) from rfl];repeat (first|simp only[go_sem]|simp (disch:=first|exact omg|fail) only[AX]|refine wki ?_|refine vpd 15 [] ?_)
 ·rw[show inD 6 n m a b=(decide (1<=n)&&decide (1<=m)) from rfl];by_cases hn:1<=n
  ·rw[decide_eq_true hn,yU];repeat (first|simp only[go_sem]|simp (disch:=first|exact omg|fail) only[AX]|refine wki ?_|refine vpd 15 [] ?_)
  ·rw[decide_eq_false hn,yY];repeat (first|simp only[go_sem]|simp (disch:=first|exact omg|fail) only[AX]|refine wki ?_|refine vpd 15 [] ?_)
 ·rw[show inD 7 n m a b=(decide (1<=n)&&decide (1<=m)) from rfl];by_cases hn:1<=n
  ·rw[decide_eq_true hn,yU];repeat (first|simp only[go_sem]|simp (disch:=first|exact omg|fail) only[AX]|refine wki ?_|refine vpd 15 [] ?_)
  ·rw[decide_eq_false hn,yY];repeat (first|simp only[go_sem]|simp (disch:=first|exact omg|fail) only[AX]|refine wki ?_|refine vpd 15 [] ?_)
 ·rw[show inD 8 n m a b=(decide (0<=n)&&(decide (0<=a)&&decide (a<=1))) from rfl,<- eN,<- eS];by_cases hn:0<=n
  ·rw[decide_eq_true hn,yU];cases hp:decide (0 < -a)
   ·rw[hp]at pN;repeat (first|simp only[go_sem,xg]|simp (disch:=first|exact omg|fail) only[AX,xg]|refine wki ?_|refine vpd 15 [] ?_|refine vfa ?_)
   ·rw[hp]at pN;repeat (first|simp only[go_sem,xL]|simp (disch:=first|exact omg|fail) only[AX,xL]|refine wki ?_|refine vpd 15 [] ?_|refine vfa ?_)
    rfl
  ·rw[decide_eq_false hn,yY];repeat (first|simp only[go_sem]|simp (disch:=first|exact omg|fail) only[AX]|refine wki ?_|refine vpd 15 [] ?_)
 ·rw[show inD 9 n m a b=decide (0<=a) from rfl];repeat (first|simp only[go_sem,eN]|simp (disch:=first|exact omg|fail) only[AX,eN]|refine wki ?_|refine vpd 15 [] ?_|refine vfa ?_)
 ·have e:inD k n m a b=false:=by
   unfold inD;rw[if_neg k1,if_neg k2,if_neg k3,if_neg k4,if_neg k5,if_neg k6,if_neg k7,if_neg k8,if_neg k9]
  rw[e];repeat (first|simp only[go_sem]|simp (disch:=first|exact omg|fail) only[AX]|refine wki ?_|refine vpd 15 [] ?_)
theorem ref14_Check (hA:RatA (ratV sa na da) a L) (hB:RatA (ratV sb nb db) b L) (hL:1<=L:=by omega) (h:L<=524288:=by omega):Go.Ev.Fn CX 36 [distV k n m sa na da sb nb db] (.int .i64 (chkD k n m a b)):=by
 have h1:=ref14_in (k:=k) (n:=n) (m:=m) hA hB hL h;have hI:=ref2_Int 64;have z1:=int_szR (n:=64);have zA:=szR_of hA hL;have hS:=ref2_Sub hA (RatA_rv z1) hL;have pS:=ref14_positive (RatA_rv (szR_sub zA z1 hL));rw[show ((64:Int):Rat)=64 from rfl]at hI hS pS;have eS:decide (0<a-64)=decide (64<a):=decide_eq_decide.2 ⟨fun h=>by grind,fun h=>by grind⟩;rw[eS]at pS;unfold chkD;refine fni Tryz.f36 ?_;unfold Tryz.f36;generalize inD k n m a b=i at *
 cases i
 ·repeat (first|simp only[go_sem]|simp (disch:=first|exact omg|fail) only[AX]|refine wki ?_|refine vpd 17 [] ?_)
  refine vfa ?_;repeat (first|simp only[go_sem,xg]|simp (disch:=first|exact omg|fail) only[AX,xg]|refine wki ?_|refine vpd 17 [] ?_)
 rw[if_pos rfl];rcases kinds k with rfl|rfl|rfl|rfl|rfl|rfl|rfl|rfl|rfl|⟨k1,k2,k3,k4,k5,k6,k7,k8,k9⟩
 ·repeat (first|simp only[go_sem]|simp (disch:=first|exact omg|fail) only[AX]|refine wki ?_|refine vpd 17 [] ?_)
  refine vfa ?_;repeat (first|simp only[go_sem,xL]|simp (disch:=first|exact omg|fail) only[AX,xL]|refine wki ?_|refine vpd 17 [] ?_)
  rfl
 ·repeat (first|simp only[go_sem]|simp (disch:=first|exact omg|fail) only[AX]|refine wki ?_|refine vpd 17 [] ?_)
  refine vfa ?_;repeat (first|simp only[go_sem,xL]|simp (disch:=first|exact omg|fail) only[AX,xL]|refine wki ?_|refine vpd 17 [] ?_)
  rfl
 ·rw[show gtD 3 n m a=decide (256<n) from rfl];by_cases hn:256<n
  ·repeat (first|simp only[go_sem]|simp (disch:=first|exact omg|fail) only[AX]|refine wki ?_|refine vpd 17 [] ?_)
   refine vfa ?_;repeat (first|simp only[go_sem,xL]|simp (disch:=first|exact omg|fail) only[AX,xL]|refine wki ?_|refine vpd 17 [] ?_)
  ·repeat (first|simp only[go_sem]|simp (disch:=first|exact omg|fail) only[AX]|refine wki ?_|refine vpd 17 [] ?_)
   refine vfa ?_;repeat (first|simp only[go_sem,xL]|simp (disch:=first|exact omg|fail) only[AX,xL]|refine wki ?_|refine vpd 17 [] ?_)
 ·rw[show gtD 4 n m a=decide (256<n) from rfl];by_cases hn:256<n
  ·repeat (first|simp only[go_sem]|simp (disch:=first|exact omg|fail) only[AX]|refine wki ?_|refine vpd 17 [] ?_)
   refine vfa ?_;repeat (first|simp only[go_sem,xL]|simp (disch:=first|exact omg|fail) only[AX,xL]|refine wki ?_|refine vpd 17 [] ?_)
  ·repeat (first|simp only[go_sem]|simp (disch:=first|exact omg|fail) only[AX]|refine wki ?_|refine vpd 17 [] ?_)
   refine vfa ?_;repeat (first|simp only[go_sem,xL]|simp (disch:=first|exact omg|fail) only[AX,xL]|refine wki ?_|refine vpd 17 [] ?_)
 ·rw[show gtD 5 n m a=decide (256<n) from rfl];by_cases hn:256<n
  ·repeat (first|simp only[go_sem]|simp (disch:=first|exact omg|fail) only[AX]|refine wki ?_|refine vpd 17 [] ?_)
   refine vfa ?_;repeat (first|simp only[go_sem,xL]|simp (disch:=first|exact omg|fail) only[AX,xL]|refine wki ?_|refine vpd 17 [] ?_)
  ·repeat (first|simp only[go_sem]|simp (disch:=first|exact omg|fail) only[AX]|refine wki ?_|refine vpd 17 [] ?_)
   refine vfa ?_;repeat (first|simp only[go_sem,xL]|simp (disch:=first|exact omg|fail) only[AX,xL]|refine wki ?_|refine vpd 17 [] ?_)
 ·rw[show gtD 6 n m a=(decide (256<n)||decide (256<m)) from rfl];by_cases hn:256<n
  ·repeat (first|simp only[go_sem]|simp (disch:=first|exact omg|fail) only[AX]|refine wki ?_|refine vpd 17 [] ?_)
   refine vfa ?_;repeat (first|simp only[go_sem,xL]|simp (disch:=first|exact omg|fail) only[AX,xL]|refine wki ?_|refine vpd 17 [] ?_)
   rfl
  ·by_cases hm:256<m
   ·repeat (first|simp only[go_sem]|simp (disch:=first|exact omg|fail) only[AX]|refine wki ?_|refine vpd 17 [] ?_)
    refine vfa ?_;repeat (first|simp only[go_sem,xL]|simp (disch:=first|exact omg|fail) only[AX,xL]|refine wki ?_|refine vpd 17 [] ?_)
    rfl
   ·repeat (first|simp only[go_sem]|simp (disch:=first|exact omg|fail) only[AX]|refine wki ?_|refine vpd 17 [] ?_)
    refine vfa ?_;repeat (first|simp only[go_sem,xL]|simp (disch:=first|exact omg|fail) only[AX,xL]|refine wki ?_|refine vpd 17 [] ?_)
    rfl
 ·rw[show gtD 7 n m a=(decide (256<n)||decide (256<m)) from rfl];by_cases hn:256<n
  ·repeat (first|simp only[go_sem]|simp (disch:=first|exact omg|fail) only[AX]|refine wki ?_|refine vpd 17 [] ?_)
   refine vfa ?_;repeat (first|simp only[go_sem,xL]|simp (disch:=first|exact omg|fail) only[AX,xL]|refine wki ?_|refine vpd 17 [] ?_)
   rfl
  ·by_cases hm:256<m
   ·repeat (first|simp only[go_sem]|simp (disch:=first|exact omg|fail) only[AX]|refine wki ?_|refine vpd 17 [] ?_)
    refine vfa ?_;repeat (first|simp only[go_sem,xL]|simp (disch:=first|exact omg|fail) only[AX,xL]|refine wki ?_|refine vpd 17 [] ?_)
    rfl
   ·repeat (first|simp only[go_sem]|simp (disch:=first|exact omg|fail) only[AX]|refine wki ?_|refine vpd 17 [] ?_)
    refine vfa ?_;repeat (first|simp only[go_sem,xL]|simp (disch:=first|exact omg|fail) only[AX,xL]|refine wki ?_|refine vpd 17 [] ?_)
    rfl
 ·rw[show gtD 8 n m a=decide (256<n) from rfl];by_cases hn:256<n
  ·repeat (first|simp only[go_sem]|simp (disch:=first|exact omg|fail) only[AX]|refine wki ?_|refine vpd 17 [] ?_)
   refine vfa ?_;repeat (first|simp only[go_sem,xL]|simp (disch:=first|exact omg|fail) only[AX,xL]|refine wki ?_|refine vpd 17 [] ?_)
  ·repeat (first|simp only[go_sem]|simp (disch:=first|exact omg|fail) only[AX]|refine wki ?_|refine vpd 17 [] ?_)
   refine vfa ?_;repeat (first|simp only[go_sem,xL]|simp (disch:=first|exact omg|fail) only[AX,xL]|refine wki ?_|refine vpd 17 [] ?_)
 ·rw[show gtD 9 n m a=decide (64<a) from rfl];cases hd:decide (64<a)
  ·rw[hd]at pS;repeat (first|simp only[go_sem,xL]|simp (disch:=first|exact omg|fail) only[AX,xL]|refine wki ?_|refine vpd 17 [] ?_|refine vfa ?_)
  ·rw[hd]at pS;repeat (first|simp only[go_sem,xL]|simp (disch:=first|exact omg|fail) only[AX,xL]|refine wki ?_|refine vpd 17 [] ?_|refine vfa ?_)
 ·have e:gtD k n m a=false:=by
   unfold gtD;rw[if_neg k3,if_neg k4,if_neg k5,if_neg k6,if_neg k7,if_neg k8,if_neg k9]
  rw[e];repeat (first|simp only[go_sem,xL]|simp (disch:=first|exact omg|fail) only[AX,xL]|refine wki ?_|refine vpd 17 [] ?_|refine vfa ?_)
theorem ref14_Counts (hA:RatA (ratV sa na da) a L) (hB:RatA (ratV sb nb db) b L) (hL:1<=L:=by omega) (h:L<=524288:=by omega):Go.Ev.Fn CX 37 [distV k n m sa na da sb nb db] (.bool (cntD k n m a b)):=by
 have h1:=ref14_Check (k:=k) (n:=n) (m:=m) hA hB hL h;unfold cntD;refine fni Tryz.f37 ?_;unfold Tryz.f37;generalize chkD k n m a b=c at *
 by_cases hc:c=0
 ·rw[beqT hc,Bool.and_true];by_cases k8:k=8
  ·rw[beqT k8,Bool.true_or];repeat (first|simp only[go_sem]|simp (disch:=first|exact omg|fail) only[AX]|refine wki ?_|refine vfa ?_)
  ·rw[beqF k8,Bool.false_or];repeat (first|simp only[go_sem]|simp (disch:=first|exact omg|fail) only[AX]|refine wki ?_|refine vfa ?_)
 ·rw[beqF hc,Bool.and_false];repeat (first|simp only[go_sem]|simp (disch:=first|exact omg|fail) only[AX]|refine wki ?_|refine vfa ?_)
end
end Go.Proofs.YtfknkoeagjonbaaGreat
namespace Go.Proofs.YtfknkoeagjonbaaGreat
open Go.Ev
section
variable {k n m:Int} {sa sb:Bool} {na da nb db:List Nat} {a b:Rat} {L:Nat}
theorem dist_over {v w:SV} {q r:Rat} {L M:Nat} (hv:RatA v q L) (hw:RatA w r M) (hL:1<=L:=by omega) (hM:1<=M:=by omega) (h:L+M<=268435456:=by omega):Go.Ev.Fn CX 207 [v,w] (rv (q/r)):=by
 have hd:=rat_Div hv hw hL hM h;obtain⟨s,x,d,rfl,-⟩:=hv;obtain⟨s',x',d',rfl,-⟩:=hw;refine fni Tryz.f207 ?_;unfold Tryz.f207;repeat (first|simp only[go_sem]|simp (disch:=first|exact omg|fail) only[AX]|refine wki ?_|refine vfa ?_)
theorem dist_part (n d:Int) (hn : -9223372036854775808<=n/\n<9223372036854775808:=by omega) (hd : -9223372036854775808<=d/\d<9223372036854775808:=by omega):Go.Ev.Fn CX 270 [.int .i64 n,.int .i64 d] (rv ((n:Rat)/(d:Rat))):=by
 have h1:=rat_Int n hn;have h2:=rat_Int d hd;have ho:=dist_over (RatA_rv (int_szR (n:=n))) (RatA_rv (int_szR (n:=d)));refine fni Tryz.f270 ?_;unfold Tryz.f270;repeat (first|simp only[go_sem]|simp (disch:=first|exact omg|fail) only[AX]|refine wki ?_|refine vfa ?_)
theorem ref14_frac {v w:SV} {q r:Rat} {L M:Nat} (hv:RatA v q L) (hw:RatA w r M) (hL:1<=L:=by omega) (hM:1<=M:=by omega) (h:L+M<=8388608:=by omega):Go.Ev.Fn CX 97 [v,w] (rv (q/r)):=by
 have hd:=ref2_Div hv hw hL hM h;obtain⟨s,x,d,rfl,-⟩:=hv;obtain⟨s',x',d',rfl,-⟩:=hw;refine fni Tryz.f97 ?_;unfold Tryz.f97;repeat (first|simp only[go_sem]|simp (disch:=first|exact omg|fail) only[AX]|refine wki ?_|refine vfa ?_)
theorem chk_zero (h:chkD k n m a b=0):inD k n m a b=true/\gtD k n m a=false:=by
 unfold chkD at h;cases hi:inD k n m a b<;>cases hg:gtD k n m a<;>rw[hi,hg]at h<;>simp_all
end
end Go.Proofs.YtfknkoeagjonbaaGreat
namespace Go.Proofs.YtfknkoeagjonbaaGreat
open Go.Ev
def mnR (m x:Rat):Rat:=if x<m then x else m
def mxR (m x:Rat):Rat:=if m<x then x else m
def loL (f:Rat) (l:List Rat):Rat:=l.foldl mnR f
def hiL (f:Rat) (l:List Rat):Rat:=l.foldl mxR f
theorem loL_snoc (f:Rat) (l:List Rat) {i:Nat} (h:i<l.length):loL f (l.take (i+1))=mnR (loL f (l.take i)) (l.getD i 0):=by
 unfold loL;rw[List.take_add_one,List.foldl_append,xW,xX h];rfl
theorem hiL_snoc (f:Rat) (l:List Rat) {i:Nat} (h:i<l.length):hiL f (l.take (i+1))=mxR (hiL f (l.take i)) (l.getD i 0):=by
 unfold hiL;rw[List.take_add_one,List.foldl_append,xW,xX h];rfl
end Go.Proofs.YtfknkoeagjonbaaGreat
namespace Go.Proofs.YtfknkoeagjonbaaGreat
open Go.Ev
abbrev ballC (a b:Rat):List SV:=[.bool (decide (a.num<0)),natV (lim a.num.natAbs),natV (lim a.den),.bool (decide (b.num<0)),natV (lim b.num.natAbs),natV (lim b.den)]
theorem loL_sz {f:Rat} {l:List Rat} {L:Nat} (hf:szR f L) (hl : ∀x∈l,szR x L):szR (loL f l) L:=by
 induction l generalizing f with
 |nil=>exact hf
 |cons x l ih=>
  refine ih (f:=mnR f x) ?_ (fun y hy=>hl y (yb _ hy));unfold mnR;split
  ·exact hl x yW
  ·exact hf
theorem hiL_sz {f:Rat} {l:List Rat} {L:Nat} (hf:szR f L) (hl : ∀x∈l,szR x L):szR (hiL f l) L:=by
 induction l generalizing f with
 |nil=>exact hf
 |cons x l ih=>
  refine ih (f:=mxR f x) ?_ (fun y hy=>hl y (yb _ hy));unfold mxR;split
  ·exact hl x yW
  ·exact hf
set_option maxHeartbeats 1000000 in
theorem ball_around {f:Rat} {l:List Rat} {L:Nat} (hf:szR f L) (hl : ∀x∈l,szR x L) (hL1:1<=L) (hL:L<=10000) (hn:l.length<=10):Go.Ev.Fn CX 302 [rv f,.sl l.length (rvsC l)] (ballR (loL f l) (hiL f l)):=by
 have o:=ball_Of (RatA_rv hf);have hat:=fun {i:Nat} (h:i<l.length)=>rvsC_at (l:=l) (i:=i) h
 have hlen:=rvsC_len l;have zlo:=fun i=>loL_sz (f:=f) (l:=l.take i) hf (fun x hx=>hl x (List.mem_of_mem_take hx))
 have zhi:=fun i=>hiL_sz (f:=f) (l:=l.take i) hf (fun x hx=>hl x (List.mem_of_mem_take hx))
 have zx:=fun {i:Nat} (h:i<l.length)=>hl _ (getD_mem (l:=l) h)
 have slo:=fun {i:Nat} (h:i<l.length)=>loL_snoc f l h
 have shi:=fun {i:Nat} (h:i<l.length)=>hiL_snoc f l h
 generalize hcs:rvsC l=cs at *
 clear hl hf;refine fni Tryz.f302 ?_;unfold Tryz.f302;repeat (first|simp only[go_sem]|simp (disch:=first|exact omg|fail) only[AX]|refine wki ?_|refine vfa ?_)
 refine vp_loop_inv (fun s=>s.tmp 4 = .ptr 4 0 0/\s.obj 4 0=some [.bool false,.sl 0 [],.sl 0 [],.bool false,.sl 0 [],.sl 0 []]/\s.tmp 5 = .ptr 5 0 0/\s.tmp 10 = .sv (.sl l.length cs)/\s.tmp 11 = .sv (.int .i64 (l.length:Int)) /\
   ∃i:Nat,s.tmp 12 = .sv (.int .i64 (i:Int))/\i<=l.length/\s.obj 5 0=some (ballC (loL f (l.take i)) (hiL f (l.take i))))
  (fun s=>match s.tmp 12 with | .sv (.int _ i)=>l.length-i.toNat|_=>0) ⟨rfl,rfl,rfl,rfl,rfl,0,rfl,by omega,rfl⟩ ?_
 rintro s ⟨i4,o4,i5,i10,i11,i,i12,hi,o5⟩
 by_cases hend:i=l.length
 ·subst hend;rw[wV]at o5;clear hat zlo zhi zx slo shi;generalize loL f l=lo at *
  generalize hiL f l=hh at *
  repeat (first|simp only[go_sem,i4,o4,i5,i10,i11,i12,o5,ballC]|simp (disch:=first|exact omg|fail) only[AX,i4,o4,i5,i10,i11,i12,o5,ballC]|refine wki ?_)
 ·obtain⟨rest,g1⟩:=hat (i:=i) (by omega);have a1:=zlo i;have a2:=zhi i;have a3:=zx (i:=i) (by omega);have b1:=slo (i:=i) (by omega);have b2:=shi (i:=i) (by omega);generalize hlo':loL f (l.take (i+1))=lo' at *
  generalize hhi':hiL f (l.take (i+1))=hi' at *
  generalize loL f (l.take i)=lo at *
  generalize hiL f (l.take i)=hh at *
  generalize l.getD i 0=x at *
  have c1:=rat_Cmp (RatA_rv a3) (RatA_rv a1) hL1 hL1;have c2:=rat_Cmp (RatA_rv a3) (RatA_rv a2) hL1 hL1;have nx:=rat_Norm (RatA_rv a3);have e1:=cmpR_lt (q:=x) (r:=lo);have e2:=cmpR_gt (q:=x) (r:=hh);clear hat zlo zhi zx slo shi a1 a2 a3;generalize cmpR x lo=z1 at *
  generalize cmpR x hh=z2 at *
  unfold ballC at o5;by_cases k1:x<lo
  ·rw[decide_eq_true k1]at e1;rw[mnR,if_pos k1]at b1;by_cases k2:hh<x
   ·rw[decide_eq_true k2]at e2;rw[mxR,if_pos k2]at b2;clear k1 k2;repeat (first|simp only[go_sem,i4,o4,i5,i10,i11,i12,o5,g1,hlen,e1,e2]|simp (disch:=first|exact omg|fail) only[AX,i4,o4,i5,i10,i11,i12,o5,g1,hlen,e1,e2]|refine wki ?_|refine vfa ?_)
    exact⟨⟨i+1,rfl,by omega,by rw[hlo',hhi',b1,b2]⟩,by omega⟩
   ·rw[decide_eq_false k2]at e2;rw[mxR,if_neg k2]at b2;clear k1 k2;repeat (first|simp only[go_sem,i4,o4,i5,i10,i11,i12,o5,g1,hlen,e1,e2]|simp (disch:=first|exact omg|fail) only[AX,i4,o4,i5,i10,i11,i12,o5,g1,hlen,e1,e2]|refine wki ?_|refine vfa ?_)
    exact⟨⟨i+1,rfl,by omega,by rw[hlo',hhi',b1,b2]⟩,by omega⟩
  ·rw[decide_eq_false k1]at e1;rw[mnR,if_neg k1]at b1;by_cases k2:hh<x
   ·rw[decide_eq_true k2]at e2;rw[mxR,if_pos k2]at b2;clear k1 k2;repeat (first|simp only[go_sem,i4,o4,i5,i10,i11,i12,o5,g1,hlen,e1,e2]|simp (disch:=first|exact omg|fail) only[AX,i4,o4,i5,i10,i11,i12,o5,g1,hlen,e1,e2]|refine wki ?_|refine vfa ?_)
    exact⟨⟨i+1,rfl,by omega,by rw[hlo',hhi',b1,b2]⟩,by omega⟩
   ·rw[decide_eq_false k2]at e2;rw[mxR,if_neg k2]at b2;clear k1 k2;repeat (first|simp only[go_sem,i4,o4,i5,i10,i11,i12,o5,g1,hlen,e1,e2]|simp (disch:=first|exact omg|fail) only[AX,i4,o4,i5,i10,i11,i12,o5,g1,hlen,e1,e2]|refine wki ?_|refine vfa ?_)
    exact⟨⟨i+1,rfl,by omega,by rw[hlo',hhi',b1,b2]⟩,by omega⟩
theorem ball_Mul {a b c d:Rat} {L:Nat} (ha:szR a L) (hb:szR b L) (hc:szR c L) (hd:szR d L) (hL1:1<=L:=by omega) (hL:L<=1000:=by omega) :
  Go.Ev.Fn CX 269 [ballR a b,ballR c d] (ballR (loL (a*c) [a*d,b*c,b*d]) (hiL (a*c) [a*d,b*c,b*d])):=by
 have m1:=rat_Mul (RatA_rv ha) (RatA_rv hc) hL1 hL1;have m2:=rat_Mul (RatA_rv ha) (RatA_rv hd) hL1 hL1;have m3:=rat_Mul (RatA_rv hb) (RatA_rv hc) hL1 hL1;have m4:=rat_Mul (RatA_rv hb) (RatA_rv hd) hL1 hL1;have z1:=szR_mul ha hc hL1;have z2:=szR_mul ha hd hL1;have z3:=szR_mul hb hc hL1;have z4:=szR_mul hb hd hL1;generalize a*c=p1 at *
 generalize a*d=p2 at *
 generalize b*c=p3 at *
 generalize b*d=p4 at *
 have ar:=ball_around (f:=p1) (l:=[p2,p3,p4]) (L:=L+L) z1 (by
  intro x hx;simp only[List.mem_cons,List.not_mem_nil,or_false]at hx;rcases hx with rfl|rfl|rfl<;>assumption) (by omega) (by omega) (by simp)
 have ar':Go.Ev.Fn CX 302 [rv p1,.sl 3 [.bool (decide (p2.num<0)),natV (lim p2.num.natAbs),natV (lim p2.den),.bool (decide (p3.num<0)),natV (lim p3.num.natAbs),natV (lim p3.den),.bool (decide (p4.num<0)),natV (lim p4.num.natAbs),natV (lim p4.den)]] (ballR (loL p1 [p2,p3,p4]) (hiL p1 [p2,p3,p4])):=ar;clear ar;generalize loL p1 [p2,p3,p4]=lo at *
 generalize hiL p1 [p2,p3,p4]=hi at *
 refine fni Tryz.f269 ?_;unfold Tryz.f269;repeat (first|simp only[go_sem]|simp (disch:=first|exact omg|fail) only[AX]|refine wki ?_|refine vpd 1 [25] ?_|refine vfa ?_)
end Go.Proofs.YtfknkoeagjonbaaGreat
namespace Go.Proofs.YtfknkoeagjonbaaGreat
open Go.Ev
theorem hfQ_len:szR (1/2) 1:=⟨lim_len_lt (by decide +kernel),lim_len_lt (by decide +kernel)⟩
theorem one_len:szR 1 1:=⟨lim_len_lt (by decide +kernel),lim_len_lt (by decide +kernel)⟩
theorem lo_half {l h:Rat} (g:l<=h):loL (l*(1/2)) [l*(1/2),h*(1/2),h*(1/2)]=l*(1/2)/\hiL (l*(1/2)) [l*(1/2),h*(1/2),h*(1/2)]=h*(1/2):=by
 have g2:=xA g (show (0:Rat)<=1/2 by decide +kernel);generalize l*(1/2)=u at *
 generalize h*(1/2)=v at *
 constructor
 ·simp only[loL,List.foldl_cons,List.foldl_nil,mnR];repeat (first|rw[if_neg (by grind)]|rfl)
 ·simp only[hiL,List.foldl_cons,List.foldl_nil,mxR];rw[if_neg (show ¬u<u by grind)];by_cases e:u<v
  ·rw[if_pos e,if_neg (show ¬v<v by grind)]
  ·rw[if_neg e,if_neg e];grind
theorem dist_one:Go.Ev.Fn CX 105 [] (ballR 1 1):=by
 have i1:=rat_Int 1;have o:=ball_Of (RatA_rv (int_szR (n:=1)));rw[show ((1:Int):Rat)=1 from rfl]at i1 o;refine fni Tryz.f105 ?_;unfold Tryz.f105;repeat (first|simp only[go_sem]|simp (disch:=first|exact omg|fail) only[AX]|refine wki ?_|refine vfa ?_)
section
variable {n m p:Int} {x l h:Rat} {v:SV} {L:Nat}
def stuY (n:Int) (x:Rat):Rat:=(n:Rat)/((n:Rat)+x*x)
theorem stuY_sz (hn:1<=n/\n<=256) (hx:szR x L) (hL1:1<=L:=by omega):szR (stuY n x) (2*L+8):=by
 have i:=int_szR (n:=n);exact szR_mono (szR_div i (szR_add i (szR_mul hx hx hL1)))
def stuB (x l h:Rat):Rat×Rat:=if x<0 then (l*(1/2),h*(1/2)) else (1-h*(1/2),1-l*(1/2))
theorem dist_student (hn:1<=n/\n<=256) (hx:RatA v x L) (hL1:1<=L) (hL:L<=80) (f:Go.Ev.Fn CX 53 [.int .i64 n,.int .i64 1,rv (stuY n x),.int .i64 p] (.tup [ballR l h,.bool true])) (z1:szR l 200) (z2:szR h 200) (g:l<=h) :
  Go.Ev.Fn CX 208 [.int .i64 n,v,.int .i64 p] (.tup [ballR (stuB x l h).1 (stuB x l h).2,.bool true]):=by
 have zx:=szR_of hx hL1;have i:=int_szR (n:=n);have rn:=rat_Int n;have mu:=rat_Mul hx hx hL1 hL1;have ad:=rat_Add (RatA_rv i) (RatA_rv (szR_mul zx zx hL1));have ov:=dist_over (RatA_rv i) (RatA_rv (szR_add i (szR_mul zx zx hL1)));have pt:=dist_part 1 2;rw[show ((1:Int):Rat)/((2:Int):Rat)=1/2 from rfl]at pt;have o:=ball_Of (RatA_rv hfQ_len);have bm:=ball_Mul (L:=200) z1 z2 (szR_mono hfQ_len) (szR_mono hfQ_len);rw[(lo_half g).1,(lo_half g).2]at bm;have bl:=dist_below hx hL1 (by omega) 0;rw[show ((0:Int):Rat)=0 from rfl]at bl;have d1:=dist_one
 have bs:=ball_Sub (a:=1) (b:=1) (L:=300) (szR_mono one_len) (szR_mono one_len) (szR_mono (szR_mul z1 hfQ_len)) (szR_mono (szR_mul z2 hfQ_len));unfold stuB;unfold stuY at f;clear g z1 z2 zx i;obtain⟨s,nn,dd,rfl,-⟩:=hx;generalize (n:Rat)/((n:Rat)+x*x)=y at *
 generalize (n:Rat)+x*x=y2 at *
 generalize x*x=y3 at *
 generalize l*(1/2)=l2 at *
 generalize h*(1/2)=h2 at *
 generalize (1/2:Rat)=hf at *
 by_cases hx0:x<0
 ·rw[decide_eq_true hx0]at bl;rw[if_pos hx0];refine fni Tryz.f208 ?_;unfold Tryz.f208;repeat (first|simp only[go_sem,xL]|simp (disch:=first|exact omg|fail) only[AX,xL]|refine wki ?_|refine vpd 2 [] ?_|refine vpd 3 [] ?_|refine vpd 5 [] ?_|refine vfa ?_)
 ·rw[decide_eq_false hx0]at bl;rw[if_neg hx0];generalize 1-h2=u1 at *
  generalize 1-l2=u2 at *
  refine fni Tryz.f208 ?_;unfold Tryz.f208;repeat (first|simp only[go_sem,xg]|simp (disch:=first|exact omg|fail) only[AX,xg]|refine wki ?_|refine vpd 2 [] ?_|refine vpd 3 [] ?_|refine vpd 5 [] ?_|refine vf_of (by first|exact rn|exact mu|exact ad|exact ov|exact f|exact pt|exact o|exact bm|exact bl|exact d1|exact bs) ?_)
theorem chance_student {sa sb:Bool} {na da nb db:List Nat} {m:Int} {r:SV} (hx:RatA v x L) (f:Go.Ev.Fn CX 208 [.int .i64 n,v,.int .i64 p] r) (hr : ∃a b:Rat,r = .tup [ballR a b,.bool true]) :
  Go.Ev.Fn CX 137 [distV 5 n m sa na da sb nb db,v,.int .i64 p] r:=by
 obtain⟨s,nn,dd,rfl,-⟩:=hx;obtain⟨a,b,rfl⟩:=hr;refine fni Tryz.f137 ?_;unfold Tryz.f137;repeat (first|simp only[go_sem]|simp (disch:=first|exact omg|fail) only[AX]|refine wki ?_|refine vpd 3 [] ?_|refine vpd 11 [] ?_|refine vpd 13 [] ?_|refine vpd 15 [] ?_|refine vpd 17 [] ?_|refine vpd 18 [] ?_|refine vpd 24 [] ?_|refine vpd 26 [] ?_|refine vfa ?_)
def fisY (n m:Int) (x:Rat):Rat:=(n:Rat)*x/((n:Rat)*x+(m:Rat))
theorem fisY_sz (hn:1<=n/\n<=256) (hm:1<=m/\m<=256) (hx:szR x L) (hL1:1<=L:=by omega):szR (fisY n m x) (2*L+8):=by
 have i:=int_szR (n:=n);have j:=int_szR (n:=m);exact szR_mono (szR_div (szR_mul i hx) (szR_add (szR_mul i hx) j))
theorem chance_fisher {sa sb:Bool} {na da nb db:List Nat} (hn:1<=n/\n<=256) (hm:1<=m/\m<=256) (hx:RatA v x L) (hL1:1<=L) (hL:L<=200) (hx0:0<x) (f:Go.Ev.Fn CX 53 [.int .i64 n,.int .i64 m,rv (fisY n m x),.int .i64 p] (.tup [ballR l h,.bool true])) :
  Go.Ev.Fn CX 137 [distV 6 n m sa na da sb nb db,v,.int .i64 p] (.tup [ballR l h,.bool true]):=by
 have zx:=szR_of hx hL1;have i:=int_szR (n:=n);have j:=int_szR (n:=m);have rn:=rat_Int n;have rm:=rat_Int m;have mu:=rat_Mul (RatA_rv i) hx (by omega) hL1;have ad:=rat_Add (RatA_rv (szR_mul i zx)) (RatA_rv j);have ov:=dist_over (RatA_rv (szR_mul i zx)) (RatA_rv (szR_add (szR_mul i zx) j));have bl:=dist_below hx hL1 (by omega) 0;have ab:=dist_above hx hL1 (by omega) 0;rw[show ((0:Int):Rat)=0 from rfl]at bl ab;rw[decide_eq_false (by grind)]at bl;rw[decide_eq_true hx0]at ab;unfold fisY at f;clear zx i j hx0;obtain⟨s,nn,dd,rfl,-⟩:=hx;generalize (n:Rat)*x/((n:Rat)*x+(m:Rat))=y at *
 generalize (n:Rat)*x+(m:Rat)=y2 at *
 generalize (n:Rat)*x=y3 at *
 refine fni Tryz.f137 ?_;unfold Tryz.f137;repeat (first|simp only[go_sem,xL]|simp (disch:=first|exact omg|fail) only[AX,xL]|refine wki ?_|refine vpd 3 [] ?_|refine vpd 11 [] ?_|refine vpd 13 [] ?_|refine vpd 15 [] ?_|refine vpd 17 [] ?_|refine vpd 18 [] ?_|refine vpd 24 [] ?_|refine vpd 26 [] ?_|refine vfa ?_)
end
end Go.Proofs.YtfknkoeagjonbaaGreat
namespace Go.Proofs.YtfknkoeagjonbaaGreat
open Go.Ev
theorem one_q:szR 1 1:=⟨lim_len_lt (by decide +kernel),lim_len_lt (by decide +kernel)⟩
theorem dist_one1:Go.Ev.Fn CX 105 [] (ballR 1 1):=by
 have i1:=rat_Int 1;have o:=ball_Of (RatA_rv (int_szR (n:=1)));rw[show ((1:Int):Rat)=1 from rfl]at i1 o;refine fni Tryz.f105 ?_;unfold Tryz.f105;repeat (first|simp only[go_sem]|simp (disch:=first|exact omg|fail) only[AX]|refine wki ?_|refine vfa ?_)
section
variable {n p:Int} {x l h:Rat} {v:SV} {L:Nat}
end
theorem q_over {v w:SV} {q r:Rat} {L M:Nat} (hv:RatA v q L) (hw:RatA w r M) (hL:1<=L:=by omega) (hM:1<=M:=by omega) (h:L+M<=100000:=by omega):Go.Ev.Fn CX 82 [v,w] (rv (q/r)):=by
 have d:=rat_Div hv hw hL hM;obtain⟨s,n,e,rfl,-⟩:=hv;obtain⟨s',n',e',rfl,-⟩:=hw;refine fni Tryz.f82 ?_;unfold Tryz.f82;repeat (first|simp only[go_sem]|simp (disch:=first|exact omg|fail) only[AX]|refine wki ?_|refine vfa ?_)
theorem q_bit (P:Nat) (hP:P<=40:=by omega):Go.Ev.Fn CX 35 [.int .i64 (P:Int)] (rv (mkRat 1 (2^P))):=by
 have o:=nat_Of 1;have sh:=nat_shl (N:=1) (m:=P) (by decide);rw[xe]at sh;have l2:(lim (2^P)).length<=2:=by
  have h1:2^P<=2^40:=xD (by omega) hP;exact lim_len_lt (yM h1 (by decide))
 have r:=rat_OfL (s:=false) (n:=1) (d:=2^P) (by decide);rw[show sgn false 1=1 from rfl]at r;generalize 2^P=E at *
 refine fni Tryz.f35 ?_;unfold Tryz.f35;repeat (first|simp only[go_sem]|simp (disch:=first|exact omg|fail) only[AX]|refine wki ?_|refine vfa ?_)
def sideR (l h q:Rat):Int:=if h<q then -1 else if q<l then 1 else 0
theorem q_Side {l h q:Rat} {L M:Nat} (z1:szR l L) (z2:szR h L) (z3:szR q M) (hL:1<=L:=by omega) (hM:1<=M:=by omega) (hLM:L+M<=100000:=by omega):Go.Ev.Fn CX 71 [ballR l h,ballR q q] (.int .i64 (sideR l h q)):=by
 have c1:=rat_Cmp (RatA_rv z2) (RatA_rv z3) hL hM;have c2:=rat_Cmp (RatA_rv z1) (RatA_rv z3) hL hM;have e1:=cmpR_lt (q:=h) (r:=q);have e2:=cmpR_gt (q:=l) (r:=q);unfold sideR;by_cases h1:h<q
 ·rw[if_pos h1];rw[decide_eq_true h1]at e1;refine fni Tryz.f71 ?_;unfold Tryz.f71;repeat (first|simp only[go_sem,e1]|simp (disch:=first|exact omg|fail) only[AX,e1]|refine wki ?_|refine vfa ?_)
 ·rw[if_neg h1];rw[decide_eq_false h1]at e1;by_cases h2:q<l
  ·rw[if_pos h2];rw[decide_eq_true h2]at e2;refine fni Tryz.f71 ?_;unfold Tryz.f71;repeat (first|simp only[go_sem,e1,e2]|simp (disch:=first|exact omg|fail) only[AX,e1,e2]|refine wki ?_|refine vfa ?_)
  ·rw[if_neg h2];rw[decide_eq_false h2]at e2;refine fni Tryz.f71 ?_;unfold Tryz.f71;repeat (first|simp only[go_sem,e1,e2]|simp (disch:=first|exact omg|fail) only[AX,e1,e2]|refine wki ?_|refine vfa ?_)
end Go.Proofs.YtfknkoeagjonbaaGreat
namespace Go.Proofs.YtfknkoeagjonbaaGreat
open Go.Ev
theorem exp_side {s:St} {cs:List SV} {v:SV}:expOf s [.imp cs,.sv v]=[s.obj 1000000 0,none]:=rfl
theorem exp_wide {s:St} {cs:List SV}:expOf s [.imp cs]=[s.obj 1000000 0]:=rfl
end Go.Proofs.YtfknkoeagjonbaaGreat
namespace Go.Proofs.YtfknkoeagjonbaaGreat
open Go.Ev
theorem same_natV (xs:List Nat):sameSV (natV xs) (natV xs)=true:=by
 have key : ∀xs:List Nat,sameL (xs.map limb) (xs.map limb)=true:=by
  intro xs;induction xs with
  |nil=>rfl
  |cons x xs ih=>
   rw[wL];unfold sameL;rw[ih,Bool.and_true];unfold limb sameSV;simp
 unfold natV sameSV;rw[key];simp
end Go.Proofs.YtfknkoeagjonbaaGreat
namespace Go.Proofs.YtfknkoeagjonbaaGreat
open Go.Ev
abbrev seC (k n m:Int) (sa:Bool) (na da:List Nat) (sb:Bool) (nb db:List Nat) (q lo hi:Rat):List SV:=[.int .i64 k,.int .i64 n,.int .i64 m,.bool sa,natV na,natV da,.bool sb,natV nb,natV db,
 .bool (decide (q.num<0)),natV (lim q.num.natAbs),natV (lim q.den),.bool (decide (q.num<0)),natV (lim q.num.natAbs),natV (lim q.den),
 .bool (decide (lo.num<0)),natV (lim lo.num.natAbs),natV (lim lo.den),.bool (decide (hi.num<0)),natV (lim hi.num.natAbs),natV (lim hi.den)]
abbrev Tells:=Rat->Rat->Prop
def NearK (κ:Rat) (Lo Hi:Tells) (q x:Rat):Prop := ∃l h,Lo x l/\Hi x h/\l<=q/\q<=h/\(h-l)*κ<=1
def ToldK (κ:Rat) (Lo Hi:Tells) (q x:Rat) (s:Int):Prop:=(s = -1 /\ ∃h,Hi x h/\h<q)\/(s=1 /\ ∃l,Lo x l/\q<l)\/(s=0/\NearK κ Lo Hi q x)
section
variable {k n m:Int} {sa sb:Bool} {na da nb db:List Nat} {Lo Hi:Tells} {κ:Rat}
def CdfK (κ:Rat) (d:SV) (Lo Hi:Tells) (x:Rat):Prop := ∀P:Nat,(P=32\/P=64\/P=128\/P=256) ->
 ∃l h:Rat,Go.Ev.Fn CX 84 [d,rv x,.int .i64 (P:Int)] (.tup [ballR l h,.int .i64 0])/\szR l 500/\szR h 500/\(P=256->(h-l)*κ<=1)/\Lo x l/\Hi x h
set_option maxHeartbeats 1000000 in
theorem side_K {q lo hi x:Rat} (zq:szR q 1) (zx:szR x 20) (hc:CdfK κ (distV k n m sa na da sb nb db) Lo Hi x) :
  ∃r exps,(∃s:Int,ToldK κ Lo Hi q x s/\r = .int .i64 s/\exps=[some (seC k n m sa na da sb nb db q lo hi),none])/\FnI CX 33 [.imp (seC k n m sa na da sb nb db q lo hi),.sv (rv x)] r exps:=by
 refine FnI_of (fn:=Tryz.f33) (body:=(Tryz.f33).body.get!) (by kernel_rfl) (by kernel_rfl) (by kernel_rfl) (fun _=>rfl) (xj (by kernel_rfl)) ?_;unfold Tryz.f33;simp only[Option.get!_some,exp_side];repeat (first|simp only[go_sem,N0]|simp (disch:=first|exact omg|fail) only[AX,N0]|refine wki ?_)
 refine vp_loop_inv (fun s=>s.tmp 0 = .ptr 1000000 0 0/\s.obj 1000000 0=some (seC k n m sa na da sb nb db q lo hi)/\s.tmp 3 = .ptr 3 0 0/\s.obj 3 0=some [.bool (decide (x.num<0)),natV (lim x.num.natAbs),natV (lim x.den)] /\
   ∃P:Nat,s.tmp 5 = .sv (.int .i64 (P:Int))/\(P=32\/P=64\/P=128\/P=256))
  (fun s=>match s.tmp 5 with | .sv (.int _ i)=>300-i.toNat|_=>0) ?_ ?_
 ·exact⟨rfl,rfl,rfl,rfl,32,rfl,.inl rfl⟩
 rintro s ⟨i0,iO,i3,oX,P,i5,hP⟩
 obtain⟨l,h,c,y1,y2,w,A,B⟩:=hc P hP;have sd:=q_Side y1 y2 zq;clear hc y1 y2;unfold sideR at sd;by_cases k1:h<q
 ·rw[if_pos k1]at sd;repeat (first|simp only[go_sem,i0,iO,i3,oX,i5]|simp (disch:=first|exact omg|fail) only[AX,i0,iO,i3,oX,i5]|refine wki ?_|refine vpx [] ?_|refine vfa ?_)
  exact⟨_,_,⟨-1,.inl ⟨rfl,h,B,k1⟩,rfl,rfl⟩,rfl,rfl⟩
 ·rw[if_neg k1]at sd;by_cases k2:q<l
  ·rw[if_pos k2]at sd;repeat (first|simp only[go_sem,i0,iO,i3,oX,i5]|simp (disch:=first|exact omg|fail) only[AX,i0,iO,i3,oX,i5]|refine wki ?_|refine vpx [] ?_|refine vfa ?_)
   exact⟨_,_,⟨1,.inr (.inl ⟨rfl,l,A,k2⟩),rfl,rfl⟩,rfl,rfl⟩
  ·rw[if_neg k2]at sd;by_cases hP2:P=256
   ·subst hP2;have w2:=w rfl;repeat (first|simp only[go_sem,i0,iO,i3,oX,i5]|simp (disch:=first|exact omg|fail) only[AX,i0,iO,i3,oX,i5]|refine wki ?_|refine vpx [] ?_|refine vfa ?_)
    exact⟨_,_,⟨0,.inr (.inr ⟨rfl,l,h,A,B,by grind,by grind,w2⟩),rfl,rfl⟩,rfl,rfl⟩
   ·have hP3:P<200:=by omega
    clear A B w k1 k2;repeat (first|simp only[go_sem,i0,iO,i3,oX,i5]|simp (disch:=first|exact omg|fail) only[AX,i0,iO,i3,oX,i5]|refine wki ?_|refine vpx [] ?_|refine vfa ?_)
    exact⟨⟨P*2,rfl,by omega⟩,by omega⟩
theorem wide_T {q lo hi:Rat} (z1:szR lo 20) (z2:szR hi 20) :
  ∃r exps,(r=rv (hi-lo)/\exps=[some (seC k n m sa na da sb nb db q lo hi)])/\FnI CX 85 [.imp (seC k n m sa na da sb nb db q lo hi)] r exps:=by
 have sb':=rat_Sub (RatA_rv z2) (RatA_rv z1);generalize hi-lo=d at *
 refine FnI_of (fn:=Tryz.f85) (body:=(Tryz.f85).body.get!) (by kernel_rfl) (by kernel_rfl) (by kernel_rfl) (fun _=>rfl) (xj (by kernel_rfl)) ?_;unfold Tryz.f85;simp only[Option.get!_some,exp_wide];repeat (first|simp only[go_sem,N0]|simp (disch:=first|exact omg|fail) only[AX,N0]|refine wki ?_|refine vpx [] ?_|refine vfa ?_)
 exact⟨_,_,⟨rfl,rfl⟩,rfl,rfl⟩
set_option maxHeartbeats 1000000 in
theorem takes_K {q lo hi x:Rat} (zq:szR q 1) (zx:szR x 20) (zl:szR lo 20) (zh:szR hi 20) (hc:CdfK κ (distV k n m sa na da sb nb db) Lo Hi x) (hl:lo<x) (hh:x<hi) :
  ∃r exps,(∃ (b:Bool) (lo' hi':Rat),r = .bool b/\exps=[some (seC k n m sa na da sb nb db q lo' hi'),none] /\
    ((b=true/\lo'=x/\hi'=hi /\ ∃h,Hi x h/\h<q)\/(b=true/\lo'=lo/\hi'=x /\ ∃l,Lo x l/\q<l)\/(b=false/\lo'=lo/\hi'=hi/\NearK κ Lo Hi q x))) /\
   FnI CX 86 [.imp (seC k n m sa na da sb nb db q lo hi),.sv (rv x)] r exps:=by
 obtain⟨r,exps,⟨s,ht,rfl,rfl⟩,hf⟩:=side_K (lo:=lo) (hi:=hi) zq zx hc;have c1:=rat_Cmp (RatA_rv zx) (RatA_rv zl);have c2:=rat_Cmp (RatA_rv zx) (RatA_rv zh);have e1:=cmpR_le (q:=x) (r:=lo);have e2:=cmpR_ge (q:=x) (r:=hi);rw[decide_eq_false (show ¬x<=lo by grind)]at e1;rw[decide_eq_false (show ¬hi<=x by grind)]at e2;refine FnI_of (fn:=Tryz.f86) (body:=(Tryz.f86).body.get!) (by kernel_rfl) (by kernel_rfl) (by kernel_rfl) (fun _=>rfl) (xj (by kernel_rfl)) ?_;unfold Tryz.f86;simp only[Option.get!_some,exp_side]
 repeat (first|simp only[go_sem,N0,e1,e2]|simp (disch:=first|exact omg|fail) only[AX,N0,e1,e2]|refine wki ?_|refine vpx [] ?_|refine vfa ?_)
 refine vi_of hf rfl ?_;rcases ht with⟨rfl,ht⟩|⟨rfl,ht⟩|⟨rfl,ht⟩
 ·repeat (first|simp only[go_sem,N0]|simp (disch:=first|exact omg|fail) only[AX,N0]|refine wki ?_|refine vpx [] ?_)
  exact⟨_,_,⟨true,x,hi,rfl,rfl,.inl ⟨rfl,rfl,rfl,ht⟩⟩,rfl,rfl⟩
 ·repeat (first|simp only[go_sem,N0]|simp (disch:=first|exact omg|fail) only[AX,N0]|refine wki ?_|refine vpx [] ?_)
  exact⟨_,_,⟨true,lo,x,rfl,rfl,.inr (.inl ⟨rfl,rfl,rfl,ht⟩)⟩,rfl,rfl⟩
 ·repeat (first|simp only[go_sem,N0]|simp (disch:=first|exact omg|fail) only[AX,N0]|refine wki ?_|refine vpx [] ?_)
  exact⟨_,_,⟨false,lo,hi,rfl,rfl,.inr (.inr ⟨rfl,rfl,rfl,ht⟩)⟩,rfl,rfl⟩
theorem takes_outT {q lo hi x:Rat} (zx:szR x 20) (zl:szR lo 20) (zh:szR hi 20) (hl:lo<x) (hh:hi<=x) :
  ∃r exps,(r = .bool false/\exps=[some (seC k n m sa na da sb nb db q lo hi),none])/\FnI CX 86 [.imp (seC k n m sa na da sb nb db q lo hi),.sv (rv x)] r exps:=by
 have c1:=rat_Cmp (RatA_rv zx) (RatA_rv zl);have c2:=rat_Cmp (RatA_rv zx) (RatA_rv zh);have e1:=cmpR_le (q:=x) (r:=lo);have e2:=cmpR_ge (q:=x) (r:=hi);rw[decide_eq_false (show ¬x<=lo by grind)]at e1;rw[decide_eq_true hh]at e2;refine FnI_of (fn:=Tryz.f86) (body:=(Tryz.f86).body.get!) (by kernel_rfl) (by kernel_rfl) (by kernel_rfl) (fun _=>rfl) (xj (by kernel_rfl)) ?_;unfold Tryz.f86;simp only[Option.get!_some,exp_side];repeat (first|simp only[go_sem,N0,e1,e2]|simp (disch:=first|exact omg|fail) only[AX,N0,e1,e2]|refine wki ?_|refine vpx [] ?_|refine vfa ?_)
 exact⟨_,_,⟨rfl,rfl⟩,rfl,rfl⟩
theorem same_se (q lo hi:Rat):sameL (seC k n m sa na da sb nb db q lo hi) (seC k n m sa na da sb nb db q lo hi)=true:=by
 simp only[sameL,same_natV,Bool.and_true,yU];simp[sameSV]
end
end Go.Proofs.YtfknkoeagjonbaaGreat
namespace Go.Proofs.YtfknkoeagjonbaaGreat
open Go.Ev
set_option maxHeartbeats 1000000 in
theorem low_ok:(List.range 16).all (fun j=>decide ((1:Rat)<=fsG 1 (1+j)*(rtF 1 S2*rtF (1+j) S2)*1048576)&&decide ((1:Rat)<=fsC 1 (1+j)*fsC 1 (1+j)*1048576))=true:=by decide +kernel
section
variable {n:Nat} {x y l h t:Rat}
theorem low_all (hn:1<=n/\n<=16):1<=fsG 1 n*(rtF 1 S2*rtF n S2)*1048576/\1<=fsC 1 n*fsC 1 n*1048576:=by
 have h:=zJ.1 low_ok (n-1) (zX.2 (by omega));rw[show 1+(n-1)=n by omega,xh,decide_eq_true_eq,decide_eq_true_eq]at h;exact h
theorem half_less (hn:1<=n/\n<=16):hfHi n 1<=1-1/2097152:=by
 have s:=(hf_sum (a:=n) (b:=1)).2;have g:=(low_all hn).1;have h2:(0:Rat)<=1/2:=by decide +kernel
 have u:=sR_up (x:=1/2) (a:=1) (b:=n) h2 (show 0<=120 by omega);have v:=rR_nn (x:=1/2) (a:=1) (b:=n) h2 120;have e:hfHi 1 n=fsG 1 n*(rtF 1 S2*rtF n S2)*(sR (1/2) 1 n 120+3*rR (1/2) 1 n 120):=rfl;have u1:(1:Rat)<=sR (1/2) 1 n 120+3*rR (1/2) 1 n 120:=by
  have:sR (1/2) 1 n 0=1:=rfl;rw[this]at u;generalize sR (1/2) 1 n 120=a at *
  generalize rR (1/2) 1 n 120=b at *
  grind
 have F:0<=fsG 1 n*(rtF 1 S2*rtF n S2):=xF (fsG_nn) (xF (rtF_nn 1 S2_nn) (rtF_nn n S2_nn));have m:=xB u1 F;rw[<- e,yA]at m;have c:(1/2097152:Rat)*2097152=1:=by decide +kernel
 generalize (1/2097152:Rat)=d at *
 generalize fsG 1 n*(rtF 1 S2*rtF n S2)=G at *
 grind
theorem lo1_half (hn:1<=n/\n<=16) (h0:0<y) (hy:y+y<=1) (A:Lo1 n 1 y l):l<=1-1/2097152:=by
 have c:(1/2097152:Rat)<=1:=by decide +kernel
 have k:=half_less hn;rcases zC (a:=l) (b:=0) with g|g
 ·generalize (1/2097152:Rat)=d at *
  grind
 by_cases e:l=0
 ·generalize (1/2097152:Rat)=d at *
  grind
 have cr:=cross (a:=n) (b:=1) (by omega) (by omega) (by omega) (by omega) h0 hy (show 0<l by grind) A;have p:=xF g (show 0<=1/2-y by
  have hh:(1/2:Rat)+1/2=1:=by decide +kernel
  generalize (1/2:Rat)=q at *
  grind)
 generalize (1/2097152:Rat)=d at *
 generalize l*(1/2-y)=q at *
 grind
theorem los_one (hn:1<=n/\n<=16) (h0:0<y) (A:LoS n 1 y l):l<=1:=by
 rcases A with⟨k,A⟩|⟨-,A⟩
 ·have:=lo1_half hn h0 k A;have c:(0:Rat)<=1/2097152:=by decide +kernel
  generalize (1/2097152:Rat)=d at *
  grind
 ·have:=A.1;grind
theorem pwR_most (h:1<=2*y) : ∀n,1<=pwR y n*((2^n:Nat):Rat)
 |0=>by show (1:Rat)<=1*((1:Nat):Rat);decide +kernel
 |n+1=>by
  have ih:=pwR_most h n;rw[pwR_succ,xU];have e:((2^n*2:Nat):Rat)=((2^n:Nat):Rat)*2:=by exact_mod_cast rfl
  rw[e];have m:=xB h (show 0<=pwR y n*((2^n:Nat):Rat) by grind);generalize ((2^n:Nat):Rat)=d at *
  generalize pwR y n=p at *
  grind
theorem stu_y (hn:1<=n) (hx:x≠0):0<stuY (n:Int) x/\stuY (n:Int) x<1/\stuY (n:Int) x*((n:Rat)+x*x)=(n:Rat):=by
 have N1:(1:Rat)<=(n:Rat):=by exact_mod_cast hn
 have xx:0<x*x:=by
  rcases zC (a:=0) (b:=x) with g|g
  ·exact xt (by grind) (by grind)
  ·have:=xt (show 0 < -x by grind) (show 0 < -x by grind);grind
 unfold stuY;rw[zM];generalize x*x=u at *
 generalize (n:Rat)=N at *
 have e:N/(N+u)*(N+u)=N:=xd (by grind);generalize N/(N+u)=q at *
 have s:0<N+u:=by grind
 refine⟨?_,?_,e⟩
 ·refine wv.1 fun g => ?_
  have:=xA g (xG s);grind
 ·refine wv.1 fun g => ?_
  have:=xA g (xG s);grind
end
end Go.Proofs.YtfknkoeagjonbaaGreat
namespace Go.Proofs.YtfknkoeagjonbaaGreat
open Go.Ev
def hfNW (a b:Nat):Nat×Nat×Nat:=
 pin ((beta2 a b).den*2) fun D2=>pin ((beta2 a b).num.natAbs*a) fun N2=>
 pin (rtH^(a%2+b%2)*D2*(if a%2*(b%2)=1 then 2^700 else 1)) fun u=>pin (2^(a/2+b/2)*2^(700*(a%2+b%2))*N2*(if a%2*(b%2)=1 then piW else 1)) fun v=>
 match hfGo a b 270 0 1 1 1 with
 |(n,d,s)=>pin (u*s) fun l=>pin (u*(s+3*n)) fun h=>pin (v*d) fun e=>(l,h,e)
def hfOkW (a b:Nat):Bool:=match hfNW a b with
 |(_,h1,e1)=>match hfNW b a with
  |(_,h2,e2)=>pin (h1*e2+h2*e1) fun hi=>pin (e1*e2) fun ee=>Nat.ble (2^210*hi) ((2^210+1)*ee)
theorem hf_okW1:(List.range 20).all (fun j=>hfOkW 1 (1+j))=true:=by decide +kernel
theorem hf_okW2:(List.range 19).all (fun j=>hfOkW 2 (2+j))=true:=by decide +kernel
theorem hf_okW3:(List.range 18).all (fun j=>hfOkW 3 (3+j))=true:=by decide +kernel
theorem hf_okW4:(List.range 17).all (fun j=>hfOkW 4 (4+j))=true:=by decide +kernel
theorem hf_okW5:(List.range 16).all (fun j=>hfOkW 5 (5+j))=true:=by decide +kernel
theorem hf_okW6:(List.range 15).all (fun j=>hfOkW 6 (6+j))=true:=by decide +kernel
theorem hf_okW7:(List.range 14).all (fun j=>hfOkW 7 (7+j))=true:=by decide +kernel
theorem hf_okW8:(List.range 13).all (fun j=>hfOkW 8 (8+j))=true:=by decide +kernel
theorem hf_okW9:(List.range 12).all (fun j=>hfOkW 9 (9+j))=true:=by decide +kernel
theorem hf_okW10:(List.range 11).all (fun j=>hfOkW 10 (10+j))=true:=by decide +kernel
theorem hf_okW11:(List.range 10).all (fun j=>hfOkW 11 (11+j))=true:=by decide +kernel
theorem hf_okW12:(List.range 9).all (fun j=>hfOkW 12 (12+j))=true:=by decide +kernel
theorem hf_okW13:(List.range 8).all (fun j=>hfOkW 13 (13+j))=true:=by decide +kernel
theorem hf_okW14:(List.range 7).all (fun j=>hfOkW 14 (14+j))=true:=by decide +kernel
theorem hf_okW15:(List.range 6).all (fun j=>hfOkW 15 (15+j))=true:=by decide +kernel
theorem hf_okW16:(List.range 5).all (fun j=>hfOkW 16 (16+j))=true:=by decide +kernel
theorem hf_okW17:(List.range 4).all (fun j=>hfOkW 17 (17+j))=true:=by decide +kernel
theorem hf_okW18:(List.range 3).all (fun j=>hfOkW 18 (18+j))=true:=by decide +kernel
theorem hf_okW19:(List.range 2).all (fun j=>hfOkW 19 (19+j))=true:=by decide +kernel
theorem hf_okW20:(List.range 1).all (fun j=>hfOkW 20 (20+j))=true:=by decide +kernel
theorem hf_allW {a b:Nat} (h1:1<=a) (h2:a<=b) (h3:b<=20):hfOkW a b=true:=by
 have g : ∀c,(List.range (21-c)).all (fun j=>hfOkW c (c+j))=true->c<=b->hfOkW c b=true:=fun c h hc=>by
  have:=zJ.1 h (b-c) (zX.2 (by omega));rwa [show c+(b-c)=b by omega]at this
 have hc:a=1\/a=2\/a=3\/a=4\/a=5\/a=6\/a=7\/a=8\/a=9\/a=10\/a=11\/a=12\/a=13\/a=14\/a=15\/a=16\/a=17\/a=18\/a=19\/a=20:=by omega
 rcases hc with rfl|rfl|rfl|rfl|rfl|rfl|rfl|rfl|rfl|rfl|rfl|rfl|rfl|rfl|rfl|rfl|rfl|rfl|rfl|rfl
 ·exact g 1 hf_okW1 h2
 ·exact g 2 hf_okW2 h2
 ·exact g 3 hf_okW3 h2
 ·exact g 4 hf_okW4 h2
 ·exact g 5 hf_okW5 h2
 ·exact g 6 hf_okW6 h2
 ·exact g 7 hf_okW7 h2
 ·exact g 8 hf_okW8 h2
 ·exact g 9 hf_okW9 h2
 ·exact g 10 hf_okW10 h2
 ·exact g 11 hf_okW11 h2
 ·exact g 12 hf_okW12 h2
 ·exact g 13 hf_okW13 h2
 ·exact g 14 hf_okW14 h2
 ·exact g 15 hf_okW15 h2
 ·exact g 16 hf_okW16 h2
 ·exact g 17 hf_okW17 h2
 ·exact g 18 hf_okW18 h2
 ·exact g 19 hf_okW19 h2
 ·exact g 20 hf_okW20 h2
theorem hf_ptW {a b l h e:Nat} (ha:1<=a) (hb:1<=b) (ha2:a<=20) (hb2:b<=20) (hN:hfNW a b=(l,h,e)) :
  fsG a b*(rtF a S2*rtF b S2)*sR (1/2) a b 270*(e:Rat)=(l:Rat)/\fsG a b*(rtF a S2*rtF b S2)*(sR (1/2) a b 270+3*rR (1/2) a b 270)*(e:Rat)=(h:Rat)/\(0:Rat)<(e:Rat):=by
 have hk:=(bet_ok ha hb).2;have g:=hfGo_is a b 270 0 1 1 1 (by show (1:Rat)*((1:Nat):Rat)=_;decide +kernel) (by show (1:Rat)*((1:Nat):Rat)=_;decide +kernel) (by omega);unfold hfNW at hN;simp only[pin_eq]at hN;rw[yV]at g;generalize hfGo a b 270 0 1 1 1=G at *
 obtain⟨n,d,s⟩:=G;simp only[Prod.mk.injEq]at hN;simp only at g;obtain⟨g1,g2,g3⟩:=g;obtain⟨rfl,rfl,rfl⟩:=hN;obtain⟨D2,hD2⟩ : ∃D,D=(beta2 a b).den*2:=⟨_,rfl⟩
 obtain⟨N2,hN2⟩ : ∃N,N=(beta2 a b).num.natAbs*a:=⟨_,rfl⟩
 have p1:=pw_half (a/2);have p3:=pw_half (b/2);have r1:=rtF_S2 a;have r2:=rtF_S2 b;unfold fsG;rw[<- hD2,<- hN2];rw[<- hN2]at hk;have N:(0:Rat)<(N2:Rat):=by exact_mod_cast hk
 have dv : ∀y:Rat,y/(N2:Rat)*(N2:Rat)=y:=fun y=>xd (by grind)
 have pq:(if a%2*(b%2)=1 then 1/PI0 else 1)*(((if a%2*(b%2)=1 then piW else 1:Nat)):Rat)=((if a%2*(b%2)=1 then 2^700 else 1:Nat):Rat):=by
  split
  ·have P:=PI0_pos;rw[<- PI0_mul,xk,xc,<- zG,Rat.inv_mul_cancel _ (by grind),xc]
  ·decide +kernel
 have n0:0<(if a%2*(b%2)=1 then piW else 1):=by split<;>decide +kernel
 have cS:((2^(700*(a%2+b%2)):Nat):Rat)=((2^(700*(a%2)):Nat):Rat)*((2^(700*(b%2)):Nat):Rat):=by
  rw[<- cmN,<- xM,<- xY]
 have cH:((2^(a/2+b/2):Nat):Rat)=((2^(a/2):Nat):Rat)*((2^(b/2):Nat):Rat):=by rw[<- cmN,<- xM]
 have cR:((rtH^(a%2+b%2):Nat):Rat)=((rtH^(a%2):Nat):Rat)*((rtH^(b%2):Nat):Rat):=by rw[<- cmN,<- xM]
 have c3:((s+3*n:Nat):Rat)=(s:Rat)+3*(n:Rat):=by exact_mod_cast rfl
 obtain⟨q1,hq1⟩ : ∃z:Rat,z=(if a%2*(b%2)=1 then 1/PI0 else 1):=⟨_,rfl⟩
 obtain⟨q2,hq2⟩ : ∃z:Nat,z=(if a%2*(b%2)=1 then piW else 1):=⟨_,rfl⟩
 obtain⟨q3,hq3⟩ : ∃z:Nat,z=(if a%2*(b%2)=1 then 2^700 else 1):=⟨_,rfl⟩
 rw[<- hq1,<- hq2,<- hq3]at pq;rw[<- hq2]at n0;rw[<- hq1,<- hq2,<- hq3];clear hq1 hq2 hq3;obtain⟨z1,hz1⟩ : ∃z:Nat,z=2^(700*(a%2)):=⟨_,rfl⟩
 obtain⟨z2,hz2⟩ : ∃z:Nat,z=2^(700*(b%2)):=⟨_,rfl⟩
 obtain⟨z5,hz5⟩ : ∃z:Nat,z=2^(700*(a%2+b%2)):=⟨_,rfl⟩
 have n5:0<z5:=by rw[hz5];exact xK (by omega)
 have n6:0<2^(a/2+b/2):=xK (by omega);rw[<- hz1]at r1;rw[<- hz2]at r2;rw[<- hz1,<- hz2,<- hz5]at cS;rw[<- hz5];clear hz1 hz2 hz5;generalize pwR (1/2) (a/2)=w1 at *
 generalize pwR (1/2) (b/2)=w2 at *
 generalize rtF a S2=f1 at *
 generalize rtF b S2=f2 at *
 generalize sR (1/2) a b 270=sr at *
 generalize rR (1/2) a b 270=rr at *
 generalize rtH^(a%2+b%2)=h5 at *
 generalize rtH^(a%2)=h3 at *
 generalize rtH^(b%2)=h4 at *
 generalize 2^(a/2+b/2)=z6 at *
 generalize 2^(a/2)=z3 at *
 generalize 2^(b/2)=z4 at *
 have d2:=dv (w1*w2*(D2:Rat));generalize w1*w2*(D2:Rat)/(N2:Rat)=y at *
 have key:y*q1*(f1*f2)*((z6*z5*N2*q2:Nat):Rat)=((h5*D2*q3:Nat):Rat):=by
  rw[cmN,cmN,cmN z6,cS,cH,cmN,cmN h5,cR,<- pq,<- r1,<- r2];have e1:y*q1*(f1*f2)*((z3:Rat)*(z4:Rat)*((z1:Rat)*(z2:Rat))*(N2:Rat)*(q2:Rat))=(y*(N2:Rat))*((z3:Rat)*(z4:Rat))*(q1*(q2:Rat))*(f1*(z1:Rat)*(f2*(z2:Rat))):=by grind
  have e2:(w1*w2*(D2:Rat))*((z3:Rat)*(z4:Rat))*(q1*(q2:Rat))*(f1*(z1:Rat)*(f2*(z2:Rat)))=(w1*(z3:Rat))*(w2*(z4:Rat))*(f1*(z1:Rat)*(f2*(z2:Rat))*(D2:Rat)*(q1*(q2:Rat))):=by grind
  rw[e1,d2,e2,p1,p3,xc,xc]
 have vp:0<z6*z5*N2*q2:=yu (yu (yu n6 n5) hk) n0;generalize z6*z5*N2*q2=v at *
 generalize h5*D2*q3=u at *
 clear d2 dv cS cH cR pq r1 r2 p1 p3 N n0 n5 n6 hk hN2 hD2;generalize y*q1*(f1*f2)=C at *
 refine⟨?_,?_,?_⟩
 ·rw[cmN,cmN,<- key,<- g2];grind
 ·rw[cmN,cmN,c3,<- key,<- g2,<- g1];grind
 ·exact_mod_cast yu vp g3
def hfHiW (a b:Nat):Rat:=fsG a b*(rtF a S2*rtF b S2)*(sR (1/2) a b 270+3*rR (1/2) a b 270)
theorem hf_sumW1 {a b:Nat} (ha:1<=a) (hb:1<=b) (ha2:a<=20) (hb2:b<=20) (h:hfOkW a b=true):p2 210*(hfHiW a b+hfHiW b a)<=p2 210+1:=by
 unfold hfHiW;have p1:=hf_ptW (l:=(hfNW a b).1) (h:=(hfNW a b).2.1) (e:=(hfNW a b).2.2) ha hb ha2 hb2 rfl;have p2':=hf_ptW (l:=(hfNW b a).1) (h:=(hfNW b a).2.1) (e:=(hfNW b a).2.2) hb ha hb2 ha2 rfl;unfold hfOkW at h;generalize hfNW a b=X1 at *
 generalize hfNW b a=X2 at *
 obtain⟨l1,h1,e1⟩:=X1;obtain⟨l2,h2,e2⟩:=X2;simp only[pin_eq]at h;have m2:=nat_le_rat (xj h);obtain⟨-,a2,a3⟩:=p1;obtain⟨-,b2,b3⟩:=p2';simp only at a2 a3 b2 b3;have E:=xt a3 b3;rw[cmN,cmN,cmN,cnN,cmN h1,cmN h2,<- a2,<- b2,cnN]at m2;rw[show ((2^210:Nat):Rat)=p2 210 from rfl,show ((1:Nat):Rat)=1 from rfl]at m2;clear a2 b2 h;generalize fsG a b*(rtF a S2*rtF b S2)*(sR (1/2) a b 270+3*rR (1/2) a b 270)=u3 at *
 generalize fsG b a*(rtF b S2*rtF a S2)*(sR (1/2) b a 270+3*rR (1/2) b a 270)=u4 at *
 generalize (e1:Rat)=x1 at *
 generalize (e2:Rat)=x2 at *
 generalize p2 210=P at *
 refine le_by E ?_;have:P*(u3+u4)*(x1*x2)=P*(u3*x1*x2+u4*x2*x1):=by grind
 rw[this];exact m2
theorem hf_sumW {a b:Nat} (ha:1<=a) (hb:1<=b) (ha2:a<=20) (hb2:b<=20):p2 210*(hfHiW a b+hfHiW b a)<=p2 210+1:=by
 rcases Nat.le_total a b with h|h
 ·exact hf_sumW1 ha hb ha2 hb2 (hf_allW ha h hb2)
 ·have:=hf_sumW1 hb ha hb2 ha2 (hf_allW hb h ha2);rw[Rat.add_comm (hfHiW a b)];exact this
section
variable {a b:Nat} {x y l h:Rat}
theorem hfHiW_nn (ha:1<=a) (ha2:a<=20) (hb:1<=b) (hb2:b<=20):0<=hfHiW a b:=by
 have G:=fsG_nn ha hb;have F:=xF G (xF (rtF_nn a S2_nn) (rtF_nn b S2_nn));have h2:(0:Rat)<=1/2:=by decide +kernel
 have s0:=xE (sR_nnH (a:=a) (b:=b) h2 270) (sR_top (a:=a) (b:=b) (k:=270) (m:=270) h2 (by decide +kernel));exact xF F s0
theorem half1W (ha:1<=a) (ha2:a<=20) (hb:1<=b) (hb2:b<=20):Hi1 a b (1/2) (hfHiW a b):=by
 refine⟨hfHiW_nn ha ha2 hb hb2,310,fun m hm => ?_⟩;have hh:(1/2:Rat)+1/2=1:=by decide +kernel
 have h2:(0:Rat)<=1/2:=by decide +kernel
 have e1:(1:Rat)-1/2=1/2:=by decide +kernel
 have t:=sh_hi (a:=a) (b:=b) (k:=m) (x:=1/2) (sx:=S2) (sy:=S2) h2 (by decide +kernel) S2_sq.1 (by rw[e1];exact S2_sq.1);rw[fstR_is]at t;have G:=fsG_nn ha hb;have F:=xF G (xF (rtF_nn a S2_nn) (rtF_nn b S2_nn));have s:=xB (sR_top (a:=a) (b:=b) (k:=270) (m:=m) h2 (by rw[hh];exact xN)) F;have s0:=xF F (sR_nnH (a:=a) (b:=b) h2 m);unfold hfHiW;exact xE t (mul_both s s (xE s0 s) s0)
end
end Go.Proofs.YtfknkoeagjonbaaGreat
namespace Go.Proofs.YtfknkoeagjonbaaGreat
open Go.Ev
def Dya (l:Rat):Prop := ∃Z:Int,l*p2 202=(Z:Rat)
section
variable {a b n m p:Nat} {x y l h:Rat}
theorem dya_mk (N:Nat) (hp:p<=200):Dya (mkRat (N:Int) (2^(p+2))):=by
 refine⟨((N*2^(200-p):Nat):Int),?_⟩;have e:p2 202=p2 (p+2)*p2 (200-p):=by rw[<- p2_plus];congr 1;omega
 rw[e,<- zG,mk_p2n N (p+2),zM];exact_mod_cast rfl
theorem dya_sub (h:Dya l):Dya (1-l):=by
 obtain⟨Z,e⟩:=h;refine⟨((2^202:Nat):Int)-Z,?_⟩;rw[Rat.intCast_sub,<- e,zM,show ((2^202:Nat):Rat)=p2 202 from rfl];generalize p2 202=P;grind
theorem ball_dya (hp:p<=200) (g:BallS a b p x l h):Dya l/\Dya h:=by
 rcases g with⟨-,A,B,-,-,rfl,rfl⟩|⟨-,A,B,-,-,rfl,rfl⟩
 ·exact⟨dya_mk _ hp,dya_mk _ hp⟩
 ·exact⟨dya_sub (dya_mk _ hp),dya_sub (dya_mk _ hp)⟩
def LoB (a b:Nat):Tells:=fun y l=>(y<=0/\l=0)\/(0<y/\y<1/\LoS a b y l/\Dya l)\/1<=y
def HiB (a b:Nat):Tells:=fun y h=>(y<=0/\h=0)\/(0<y/\y<1/\HiS a b y h/\Dya h)\/(1<=y/\h=1)
def LoF (n m:Nat):Tells:=fun x l=>(x<=0/\l=0)\/(0<x/\LoS n m (fisY (n:Int) (m:Int) x) l/\Dya l)
def HiF (n m:Nat):Tells:=fun x h=>(x<=0/\h=0)\/(0<x/\HiS n m (fisY (n:Int) (m:Int) x) h/\Dya h)
theorem fis_y (hn:1<=n) (hm:1<=m) (hx:0<x):0<fisY (n:Int) (m:Int) x/\fisY (n:Int) (m:Int) x<1/\(1-fisY (n:Int) (m:Int) x)*((n:Rat)*x+(m:Rat))=(m:Rat):=by
 have N1:(1:Rat)<=(n:Rat):=by exact_mod_cast hn
 have M1:(1:Rat)<=(m:Rat):=by exact_mod_cast hm
 have nx:=xt (show (0:Rat)<(n:Rat) by grind) hx;unfold fisY;rw[zM,zM];generalize (n:Rat)*x=u at *
 generalize (m:Rat)=M at *
 have e:u/(u+M)*(u+M)=u:=xd (by grind);have s:0<u+M:=by grind
 generalize u/(u+M)=q at *
 refine⟨?_,?_,by grind⟩
 ·refine wv.1 fun g => ?_
  have:=xA g (xG s);grind
 ·refine wv.1 fun g => ?_
  have:=xA g (xG s);grind
def LoV (n:Nat):Tells:=fun x l=>(x=0/\l=1/2)\/(x<0 /\ ∃l',LoS n 1 (stuY (n:Int) x) l'/\Dya l'/\l=l'*(1/2))\/(0<x /\ ∃h',HiS n 1 (stuY (n:Int) x) h'/\Dya h'/\l=1-h'*(1/2))
def HiV (n:Nat):Tells:=fun x h=>(x=0/\h=1/2)\/(x<0 /\ ∃h',HiS n 1 (stuY (n:Int) x) h'/\Dya h'/\h=h'*(1/2))\/(0<x /\ ∃l',LoS n 1 (stuY (n:Int) x) l'/\Dya l'/\h=1-l'*(1/2))
end
end Go.Proofs.YtfknkoeagjonbaaGreat
namespace Go.Proofs.YtfknkoeagjonbaaGreat
open Go.Ev
def Dz (c:Rat) (W J:Nat) (x:Rat):Prop := ∃Z:Int,(x-c)*((W:Rat)*p2 J)=(Z:Rat)
section
variable {c x y t:Rat} {W J s:Nat}
theorem dz_up (h:Dz c W J x):Dz c W (J+1) x:=by
 obtain⟨Z,e⟩:=h;refine⟨Z*2,?_⟩;rw[p2_next,wb,<- e,show ((2:Int):Rat)=2 from rfl];generalize p2 J=P;grind
theorem dz_mid (h:Dz c W J x) (k:Dz c W J y):Dz c W (J+1) ((x+y)/2):=by
 obtain⟨Z,e⟩:=h;obtain⟨Y,f⟩:=k;refine⟨Z+Y,?_⟩;have d:=xd (a:=x+y) (b:=2) (by decide);rw[p2_next,Rat.intCast_add,<- e,<- f];generalize (x+y)/2=m at *
 generalize p2 J=P;grind
theorem dz_part (hs:s<=J) (ht:t*p2 s=1):t*((W:Rat)*p2 J)=(((W*2^(J-s):Nat):Int):Rat):=by
 have e:p2 J=p2 s*p2 (J-s):=by rw[<- p2_cat];congr 1;omega
 rw[e,zM,show ((W*2^(J-s):Nat):Rat)=(W:Rat)*p2 (J-s) by exact_mod_cast rfl];generalize p2 (J-s)=a;generalize p2 s=b at *
 grind
theorem dz_add (h:Dz c W J x) (hs:s<=J) (ht:t*p2 s=1):Dz c W J (x+t):=by
 obtain⟨Z,e⟩:=h;refine⟨Z+((W*2^(J-s):Nat):Int),?_⟩;rw[Rat.intCast_add,<- e,<- dz_part hs ht];grind
theorem dz_sub (h:Dz c W J x) (hs:s<=J) (ht:t*p2 s=1):Dz c W J (x-t):=by
 obtain⟨Z,e⟩:=h;refine⟨Z-((W*2^(J-s):Nat):Int),?_⟩;rw[Rat.intCast_sub,<- e,<- dz_part hs ht];grind
theorem frac_sz {z:Rat} {D B L:Nat} {Z:Int} (h:z*(D:Rat)=(Z:Rat)) (D0:0<D) (hz : -(B:Rat)<=z/\z<=(B:Rat)) (hD:D*(B+1)<4294967296^L:=by omega) (hL:1<=L:=by omega):szR z L:=by
 have DR:(0:Rat)<(D:Rat):=by exact_mod_cast D0
 have hN:Z.natAbs<=B*D:=by
  have u:=xA hz.2 (xG DR);have v:=xA hz.1 (xG DR);rw[h]at u v;have a:Z<=((B*D:Nat):Int):=by
   have:(Z:Rat)<=(((B*D:Nat):Int):Rat):=by
    rw[zM,show ((B*D:Nat):Rat)=(B:Rat)*(D:Rat) by exact_mod_cast rfl];exact u
   exact zo.1 this
  have b : -((B*D:Nat):Int)<=Z:=by
   have:((-((B*D:Nat):Int):Int):Rat)<=(Z:Rat):=by
    rw[Rat.intCast_neg,zM,show ((B*D:Nat):Rat)=(B:Rat)*(D:Rat) by exact_mod_cast rfl];grind
   exact zo.1 this
  omega
 have e2:z=mkRat Z D:=by
  rw[wk,<- h];generalize (D:Rat)=d at *
  grind
 have m:D*(B+1)=B*D+D:=by rw[xY,yD,xV]
 rw[e2];rcases Int.le_total 0 Z with g|g
 ·have:Z=sgn false Z.natAbs:=by show Z=((Z.natAbs:Nat):Int);omega
  rw[this];exact szR_mk (lim_len_lt) (lim_len_lt) hL
 ·have:Z=sgn true Z.natAbs:=by show Z = -((Z.natAbs:Nat):Int);omega
  rw[this];exact szR_mk (lim_len_lt) (lim_len_lt) hL
theorem dz_sz {L:Nat} (h:Dz c W J x) (W0:0<W) (hW:W<18446744073709551616) (hJ:J<=140) (zc:szR c L) (hL:1<=L) (hx:c-134217728<=x/\x<=c+134217728):szR x (L+9):=by
 obtain⟨Z,e⟩:=h;have e1:(x-c)*((W*2^J:Nat):Rat)=(Z:Rat):=by
  rw[<- e,show ((W*2^J:Nat):Rat)=(W:Rat)*p2 J by exact_mod_cast rfl]
 have hp:2^J<=2^140:=xD (by omega) hJ;have hm:W*2^J<=18446744073709551616*2^140:=xO (by omega) hp;have z:=frac_sz (L:=8) (B:=134217728) e1 (yu W0 (xK (by omega))) (by constructor<;>grind);have ex:x=c+(x-c):=by grind
 rw[ex];exact szR_mono (szR_add zc z)
end
structure SrG (Lo Hi:Tells) (q c:Rat) (W:Nat) (lo0 hi0:Rat) (k:Nat) (lo hi:Rat):Prop where
 low:lo=lo0\/(lo0<lo /\ ∃h,Hi lo h/\h<q)
 high:hi=hi0\/(hi<hi0 /\ ∃l,Lo hi l/\q<l)
 lt:lo<hi
 dlo:Dz c W (22+k) lo
 dhi:Dz c W (22+k) hi
 w:(hi-lo)*((4^k:Nat):Rat)<=134217728*((3^k:Nat):Rat)
section
variable {Lo Hi:Tells} {q c lo0 hi0 lo hi lo' hi':Rat} {W k:Nat}
theorem srg_k (h:SrG Lo Hi q c W lo0 hi0 k lo hi) (hw:1<(hi-lo)*1048576):k<114:=by
 rcases xi k 114 with h1|h1
 ·exact h1
 ·exfalso;obtain⟨r,rfl⟩ : ∃r,k=114+r:=⟨k-114,by omega⟩
  have hh:=h.w;have e4:((4^(114+r):Nat):Rat)=((4^114:Nat):Rat)*((4^r:Nat):Rat):=by rw[xM];exact_mod_cast rfl
  have e3:((3^(114+r):Nat):Rat)=((3^114:Nat):Rat)*((3^r:Nat):Rat):=by rw[xM];exact_mod_cast rfl
  have m:((3^r:Nat):Rat)<=((4^r:Nat):Rat):=nat_le_rat (zP (by omega) r);have r0:(0:Rat)<((4^r:Nat):Rat):=by exact_mod_cast xK (a:=4) (by omega)
  have g:(134217728*((3^114:Nat):Rat))*1048576<=((4^114:Nat):Rat):=by decide +kernel
  have p4:(0:Rat)<((4^114:Nat):Rat):=by decide +kernel
  have p3:(0:Rat)<=134217728*((3^114:Nat):Rat):=by decide +kernel
  rw[e4,e3]at hh;generalize ((4^114:Nat):Rat)=A at *
  generalize ((3^114:Nat):Rat)=B at *
  generalize ((4^r:Nat):Rat)=R at *
  generalize ((3^r:Nat):Rat)=T at *
  have a1:=xB m p3;have a2:=xA g (xG r0);have a3:=Rat.mul_lt_mul_of_pos_right hw (xt p4 r0);grind
theorem srg_next (h:SrG Lo Hi q c W lo0 hi0 k lo hi) (l':lo'=lo0\/(lo0<lo' /\ ∃h,Hi lo' h/\h<q)) (h':hi'=hi0\/(hi'<hi0 /\ ∃l,Lo hi' l/\q<l)) (hlt:lo'<hi')
  (d1:Dz c W (22+(k+1)) lo') (d2:Dz c W (22+(k+1)) hi') (hw:(hi'-lo')*4<=(hi-lo)*3):SrG Lo Hi q c W lo0 hi0 (k+1) lo' hi':=by
 refine⟨l',h',hlt,d1,d2,?_⟩;have e4:((4^(k+1):Nat):Rat)=((4^k:Nat):Rat)*4:=by rw[xU];exact_mod_cast rfl
 have e3:((3^(k+1):Nat):Rat)=((3^k:Nat):Rat)*3:=by rw[xU];exact_mod_cast rfl
 have p4:(0:Rat)<=((4^k:Nat):Rat):=nat_nonneg _;have hh:=h.w;rw[e4,e3];generalize ((4^k:Nat):Rat)=F at *
 generalize ((3^k:Nat):Rat)=T at *
 have m:=xA hw p4;grind
theorem srg_ends (h:SrG Lo Hi q c W lo0 hi0 k lo hi):lo0<=lo/\hi<=hi0:=by
 constructor
 ·rcases h.low with e|⟨e,_⟩<;>grind
 ·rcases h.high with e|⟨e,_⟩<;>grind
theorem srg_round {p:Nat} {t:Rat} (S:SrG Lo Hi q c W lo0 hi0 k lo hi) (hp:p<=20) (ht:t*p2 (p+2)=1) (t0:0<t) (hw:4*t<hi-lo) :
  ∃m,m=(lo+hi)/2/\lo<m-t/\m-t<m/\m<m+t/\m+t<hi/\Dz c W (22+(k+1)) lo/\Dz c W (22+(k+1)) hi/\Dz c W (22+(k+1)) m/\Dz c W (22+(k+1)) (m-t)/\Dz c W (22+(k+1)) (m+t) /\
   (hi-(m-t))*4<=(hi-lo)*3/\(m+t-lo)*4<=(hi-lo)*3:=by
 have dm:=dz_mid S.dlo S.dhi;refine⟨_,rfl,by grind,by grind,by grind,by grind,dz_up S.dlo,dz_up S.dhi,dm,dz_sub dm (by omega) ht,dz_add dm (by omega) ht,by grind,by grind⟩
end
end Go.Proofs.YtfknkoeagjonbaaGreat
namespace Go.Proofs.YtfknkoeagjonbaaGreat
open Go.Ev
theorem to_factsG {p:Nat} (hp:p<=20) : ∃to t:Rat,to=mkRat 1 (2^p)/\t=to/4/\t*p2 (p+2)=1/\0<t/\to=4*t/\1<=to*1048576/\szR to 1/\szR t 1:=by
 have m:=mk_mulP (1:Int) (b:=2^p) (xK (by omega));have P:=p2_pos p;have le:p2 p<=1048576:=by
  have h:2^p<=1048576:=by
   have:=xD (n:=2) (by omega) hp;exact this
  exact_mod_cast h
 have e2:p2 (p+2)=p2 p*4:=by rw[p2_cat];rfl
 have m1:mkRat 1 (2^p)*p2 p=1:=m;have z1:szR (mkRat 1 (2^p)) 1:=by
  have h:2^p<4294967296^1:=by
   have:=xD (n:=2) (by omega) hp;omega
  exact szR_mk (s:=false) (n:=1) (by decide) (lim_len_lt h)
 have e4:mkRat 1 (2^p)/4=mkRat 1 (2^(p+2)):=by
  have m2:=mk_mulP (1:Int) (b:=2^(p+2)) (xK (by omega));have m3:mkRat 1 (2^(p+2))*p2 (p+2)=1:=m2;rw[e2]at m3;generalize mkRat 1 (2^(p+2))=y at *
  generalize mkRat 1 (2^p)=x at *
  generalize p2 p=w at *
  grind
 have z2:szR (mkRat 1 (2^p)/4) 1:=by
  rw[e4];have h:2^(p+2)<4294967296^1:=by
   have:=xD (n:=2) (by omega) (show p+2<=22 by omega);omega
  exact szR_mk (s:=false) (n:=1) (by decide) (lim_len_lt h)
 clear e4;have x0:0<=mkRat 1 (2^p):=by
  clear m z1 z2 e2;generalize mkRat 1 (2^p)=x at *
  generalize p2 p=w at *
  rcases zC (a:=x) (b:=0) with h|h
  ·have:=xA h (xG P);grind
  ·exact h
 have l:=xB le x0;refine⟨_,_,rfl,rfl,?_,?_,?_,?_,z1,z2⟩<;>clear m z1 z2
 ·rw[e2];generalize mkRat 1 (2^p)=x at *
  generalize p2 p=w at *
  grind
 ·generalize mkRat 1 (2^p)=x at *
  generalize p2 p=w at *
  by_cases e:x=0
  ·subst e;grind
  ·grind
 ·generalize mkRat 1 (2^p)=x at *
  grind
 ·generalize mkRat 1 (2^p)=x at *
  generalize p2 p=w at *
  grind
section
variable {k n m:Int} {sa sb:Bool} {na da nb db:List Nat} {Lo Hi:Tells} {κ:Rat}
def CdfA (κ:Rat) (d:SV) (Lo Hi:Tells) (c:Rat) (W:Nat) (lo0 hi0:Rat):Prop := ∀x,(∃J,J<=140/\Dz c W J x)->lo0<=x->x<=hi0->CdfK κ d Lo Hi x
def Stuck (κ:Rat) (Lo Hi:Tells) (q t lo0 hi0:Rat):Prop := ∃x,lo0<x/\x+2*t<hi0/\NearK κ Lo Hi q x/\NearK κ Lo Hi q (x+2*t)
theorem srg_sz {q c lo0 hi0 x:Rat} {W J:Nat} (h:Dz c W J x) (hJ:J<=140) (W0:0<W) (hW:W<18446744073709551616) (zc:szR c 10) (hl:c<=lo0) (hh:hi0<=c+134217728) (a:lo0<=x) (b:x<=hi0):szR x 20:=
 szR_mono (dz_sz h W0 hW hJ zc (by omega) ⟨by grind,by grind⟩)
set_option maxHeartbeats 8000000 in
theorem narrows_G {p W:Nat} (hp:p<=20) {q to t c lo0 hi0:Rat} (W0:0<W) (hW:W<18446744073709551616) (zc:szR c 10) (zq:szR q 1)
  (htt:t=to/4) (ht:t*p2 (p+2)=1) (t0:0<t) (hto:to=4*t) (h65:1<=to*1048576) (z1:szR to 1) (z2:szR t 1) (S0:SrG Lo Hi q c W lo0 hi0 0 lo0 hi0) (hl0:c<=lo0) (hh0:hi0<=c+134217728)
  (hcdf:CdfA κ (distV k n m sa na da sb nb db) Lo Hi c W lo0 hi0) :
  ∃r exps,(∃b k' lo hi,SrG Lo Hi q c W lo0 hi0 k' lo hi/\k'<=114/\(b=true->hi-lo<=to)/\(b=false->Stuck κ Lo Hi q t lo0 hi0)/\r = .bool b/\exps=[some (seC k n m sa na da sb nb db q lo hi),none])/\FnI CX 34 [.imp (seC k n m sa na da sb nb db q lo0 hi0),.sv (rv to)] r exps:=by
 have r4:=rat_Int 4;have r2:=rat_Int 2;have ov4:=q_over (RatA_rv z1) (RatA_rv (int_szR (n:=4)));have c4:((4:Int):Rat)=4:=rfl;have c2:((2:Int):Rat)=2:=rfl;rw[c4]at r4 ov4;rw[<- htt]at ov4;rw[c2]at r2;refine FnI_of (fn:=Tryz.f34) (body:=(Tryz.f34).body.get!) (by kernel_rfl) (by kernel_rfl) (by kernel_rfl) (fun _=>rfl) (xj (by kernel_rfl)) ?_;unfold Tryz.f34;simp only[Option.get!_some,exp_side];repeat (first|simp only[go_sem,N0]|simp (disch:=first|exact omg|fail) only[AX,N0]|refine wki ?_|refine vpx [] ?_|refine vfa ?_)
 refine vp_loop_fam (fun m0 s=>s.tmp 0 = .ptr 1000000 0 0/\s.tmp 3 = .ptr 3 0 0/\s.obj 3 0=some [.bool (decide (to.num<0)),natV (lim to.num.natAbs),natV (lim to.den)]/\s.tmp 5 = .ptr 5 0 0/\s.obj 5 0=some [.bool (decide (t.num<0)),natV (lim t.num.natAbs),natV (lim t.den)] /\
   ∃k' lo hi,s.obj 1000000 0=some (seC k n m sa na da sb nb db q lo hi)/\SrG Lo Hi q c W lo0 hi0 k' lo hi/\k'<=114/\m0=120-k') 120 ?_ ?_
 ·exact⟨rfl,rfl,rfl,rfl,rfl,0,lo0,hi0,rfl,S0,by omega,rfl⟩
 rintro m0 s ⟨i0,i3,o3,i5,o5,k',lo,hi,oS,S,hk,rfl⟩
 obtain⟨l0,h1⟩:=srg_ends S;have lt:=S.lt;have zl:szR lo 20:=srg_sz (q:=q) S.dlo (by omega) W0 hW zc hl0 hh0 l0 (by grind);have zh:szR hi 20:=srg_sz (q:=q) S.dhi (by omega) W0 hW zc hl0 hh0 (by grind) h1;obtain⟨_,_,⟨rfl,rfl⟩,wd⟩:=wide_T (k:=k) (n:=n) (m:=m) (sa:=sa) (na:=na) (da:=da) (sb:=sb) (nb:=nb) (db:=db) (q:=q) zl zh;have cw:=rat_Cmp (RatA_rv (szR_sub zh zl)) (RatA_rv z1);have ew:=cmpR_gt (q:=hi-lo) (r:=to);by_cases hw:to<hi-lo
 ·rw[decide_eq_true hw]at ew;have hk39:=srg_k S (by grind);obtain⟨md,hm,a1,a2,a3,a4,d1,d2,d3,d4,d5,w1,w2⟩:=srg_round S hp ht t0 (by rw[<- hto];exact hw);have ad:=rat_Add (RatA_rv zl) (RatA_rv zh);have zs:=szR_add zl zh;have ov:=q_over (RatA_rv zs) (RatA_rv (int_szR (n:=2)));rw[c2,<- hm]at ov;have zm:szR md 20:=srg_sz (q:=q) d3 (by omega) W0 hW zc hl0 hh0 (by grind) (by grind);have zm1:szR (md-t) 20:=srg_sz (q:=q) d4 (by omega) W0 hW zc hl0 hh0 (by grind) (by grind);have zm2:szR (md+t) 20:=srg_sz (q:=q) d5 (by omega) W0 hW zc hl0 hh0 (by grind) (by grind)
  obtain⟨_,_,⟨b,lo1,hi1,rfl,rfl,cm⟩,tk⟩:=takes_K zq zm zl zh (hcdf (md) ⟨_,by omega,d3⟩ (by grind) (by grind)) (show lo<md by grind) (show md<hi by grind);have sb':=rat_Sub (RatA_rv zm) (RatA_rv z2);have ad2:=rat_Add (RatA_rv zm) (RatA_rv z2);obtain⟨_,_,⟨b2,lo2,hi2,rfl,rfl,cx⟩,tk2⟩:=takes_K zq zm1 zl zh (hcdf (md-t) ⟨_,by omega,d4⟩ (by grind) (by grind)) (show lo<md-t by grind) (show md-t<hi by grind);repeat (first|simp only[go_sem,i0,i3,o3,i5,o5,oS]|simp (disch:=first|exact omg|fail) only[AX,i0,i3,o3,i5,o5,oS]|refine wki ?_|refine vpx [] ?_)
  refine vr_of wd (by kernel_rfl) (by kernel_rfl) ?_ (same_se _ _ _) ?_
  ·simp only[go_sem,i0,i3,o3,i5,o5,oS]
  repeat (first|simp only[go_sem,i0,i3,o3,i5,o5,oS,ew]|simp (disch:=first|exact omg|fail) only[AX,i0,i3,o3,i5,o5,oS,ew]|refine wki ?_|refine vpx [] ?_|refine vfa ?_)
  refine vi_of tk rfl ?_;rcases cm with⟨rfl,e1,e2,hc⟩|⟨rfl,e1,e2,hc⟩|⟨rfl,e1,e2,-⟩
  ·have e1:=e1.symm;have e2:=e2.symm;subst e1 e2;repeat (first|simp only[go_sem,i0,i3,o3,i5,o5,oS]|simp (disch:=first|exact omg|fail) only[AX,i0,i3,o3,i5,o5,oS]|refine wki ?_|refine vpx [] ?_)
   exact⟨120-(k'+1),by omega,k'+1,_,_,rfl,srg_next S (.inr ⟨by grind,hc⟩) S.high (by grind) d3 d2 (by grind),by omega,rfl⟩
  ·have e1:=e1.symm;have e2:=e2.symm;subst e1 e2;repeat (first|simp only[go_sem,i0,i3,o3,i5,o5,oS]|simp (disch:=first|exact omg|fail) only[AX,i0,i3,o3,i5,o5,oS]|refine wki ?_|refine vpx [] ?_)
   exact⟨120-(k'+1),by omega,k'+1,_,_,rfl,srg_next S S.low (.inr ⟨by grind,hc⟩) (by grind) d1 d3 (by grind),by omega,rfl⟩
  ·have e1:=e1.symm;have e2:=e2.symm;subst e1 e2;repeat (first|simp only[go_sem,i0,i3,o3,i5,o5,oS]|simp (disch:=first|exact omg|fail) only[AX,i0,i3,o3,i5,o5,oS]|refine wki ?_|refine vpx [] ?_|refine vfa ?_)
   refine vi_of tk2 rfl ?_;rcases cx with⟨rfl,e1,e2,hc⟩|⟨rfl,e1,e2,hc⟩|⟨rfl,e1,e2,hc⟩
   ·have e1:=e1.symm;have e2:=e2.symm;subst e1 e2;obtain⟨_,_,⟨b3,lo3,hi3,rfl,rfl,cy⟩,tk3⟩:=takes_K zq zm2 zm1 zh (hcdf (md+t) ⟨_,by omega,d5⟩ (by grind) (by grind)) (show md-t<md+t by grind) (show md+t<hi by grind);repeat (first|simp only[go_sem,i0,i3,o3,i5,o5,oS]|simp (disch:=first|exact omg|fail) only[AX,i0,i3,o3,i5,o5,oS]|refine wki ?_|refine vpx [] ?_|refine vfa ?_)
    refine vi_of tk3 rfl ?_;rcases cy with⟨rfl,e3,e4,hc3⟩|⟨rfl,e3,e4,hc3⟩|⟨rfl,e3,e4,-⟩
    ·have e3:=e3.symm;have e4:=e4.symm;subst e3 e4;repeat (first|simp only[go_sem,i0,i3,o3,i5,o5,oS,xL,xg]|simp (disch:=first|exact omg|fail) only[AX,i0,i3,o3,i5,o5,oS,xL,xg]|refine wki ?_|refine vpx [] ?_)
     exact⟨120-(k'+1),by omega,k'+1,_,_,rfl,srg_next S (.inr ⟨by grind,hc3⟩) S.high (by grind) d5 d2 (by grind),by omega,rfl⟩
    ·have e3:=e3.symm;have e4:=e4.symm;subst e3 e4;repeat (first|simp only[go_sem,i0,i3,o3,i5,o5,oS,xL,xg]|simp (disch:=first|exact omg|fail) only[AX,i0,i3,o3,i5,o5,oS,xL,xg]|refine wki ?_|refine vpx [] ?_)
     exact⟨120-(k'+1),by omega,k'+1,_,_,rfl,srg_next S (.inr ⟨by grind,hc⟩) (.inr ⟨by grind,hc3⟩) (by grind) d4 d5 (by grind),by omega,rfl⟩
    ·have e3:=e3.symm;have e4:=e4.symm;subst e3 e4;repeat (first|simp only[go_sem,i0,i3,o3,i5,o5,oS,xL,xg]|simp (disch:=first|exact omg|fail) only[AX,i0,i3,o3,i5,o5,oS,xL,xg]|refine wki ?_|refine vpx [] ?_)
     exact⟨120-(k'+1),by omega,k'+1,_,_,rfl,srg_next S (.inr ⟨by grind,hc⟩) S.high (by grind) d4 d2 w1,by omega,rfl⟩
   ·have e1:=e1.symm;have e2:=e2.symm;subst e1 e2;obtain⟨_,_,⟨rfl,rfl⟩,tk3⟩:=takes_outT (k:=k) (n:=n) (m:=m) (sa:=sa) (na:=na) (da:=da) (sb:=sb) (nb:=nb) (db:=db) (q:=q) zm2 zl zm1 (show lo<md+t by grind) (show md-t<=md+t by grind);repeat (first|simp only[go_sem,i0,i3,o3,i5,o5,oS]|simp (disch:=first|exact omg|fail) only[AX,i0,i3,o3,i5,o5,oS]|refine wki ?_|refine vpx [] ?_|refine vfa ?_)
    refine vi_of tk3 rfl ?_;repeat (first|simp only[go_sem,i0,i3,o3,i5,o5,oS,xL,xg]|simp (disch:=first|exact omg|fail) only[AX,i0,i3,o3,i5,o5,oS,xL,xg]|refine wki ?_|refine vpx [] ?_)
    exact⟨120-(k'+1),by omega,k'+1,_,_,rfl,srg_next S S.low (.inr ⟨by grind,hc⟩) (by grind) d1 d4 (by grind),by omega,rfl⟩
   ·have e1:=e1.symm;have e2:=e2.symm;subst e1 e2;obtain⟨_,_,⟨b3,lo3,hi3,rfl,rfl,cy⟩,tk3⟩:=takes_K zq zm2 zl zh (hcdf (md+t) ⟨_,by omega,d5⟩ (by grind) (by grind)) (show lo<md+t by grind) (show md+t<hi by grind);repeat (first|simp only[go_sem,i0,i3,o3,i5,o5,oS]|simp (disch:=first|exact omg|fail) only[AX,i0,i3,o3,i5,o5,oS]|refine wki ?_|refine vpx [] ?_|refine vfa ?_)
    refine vi_of tk3 rfl ?_;rcases cy with⟨rfl,e3,e4,hc3⟩|⟨rfl,e3,e4,hc3⟩|⟨rfl,e3,e4,hc3⟩
    ·have e3:=e3.symm;have e4:=e4.symm;subst e3 e4;repeat (first|simp only[go_sem,i0,i3,o3,i5,o5,oS,xL,xg]|simp (disch:=first|exact omg|fail) only[AX,i0,i3,o3,i5,o5,oS,xL,xg]|refine wki ?_|refine vpx [] ?_)
     exact⟨120-(k'+1),by omega,k'+1,_,_,rfl,srg_next S (.inr ⟨by grind,hc3⟩) S.high (by grind) d5 d2 (by grind),by omega,rfl⟩
    ·have e3:=e3.symm;have e4:=e4.symm;subst e3 e4;repeat (first|simp only[go_sem,i0,i3,o3,i5,o5,oS,xL,xg]|simp (disch:=first|exact omg|fail) only[AX,i0,i3,o3,i5,o5,oS,xL,xg]|refine wki ?_|refine vpx [] ?_)
     exact⟨120-(k'+1),by omega,k'+1,_,_,rfl,srg_next S S.low (.inr ⟨by grind,hc3⟩) (by grind) d1 d5 w2,by omega,rfl⟩
    ·have e3:=e3.symm;have e4:=e4.symm;subst e3 e4;repeat (first|simp only[go_sem,i0,i3,o3,i5,o5,oS,xL,xg]|simp (disch:=first|exact omg|fail) only[AX,i0,i3,o3,i5,o5,oS,xL,xg]|refine wki ?_|refine vpx [] ?_)
     exact⟨_,_,⟨false,k',lo,hi,S,hk,(fun h=>nomatch h),(fun _=>⟨md-t,by grind,by grind,hc,by rw[show md-t+2*t=md+t by grind];exact hc3⟩),rfl,rfl⟩,rfl,rfl⟩
 ·rw[decide_eq_false hw]at ew;repeat (first|simp only[go_sem,i0,i3,o3,i5,o5,oS]|simp (disch:=first|exact omg|fail) only[AX,i0,i3,o3,i5,o5,oS]|refine wki ?_|refine vpx [] ?_)
  refine vr_of wd (by kernel_rfl) (by kernel_rfl) ?_ (same_se _ _ _) ?_
  ·simp only[go_sem,i0,i3,o3,i5,o5,oS]
  repeat (first|simp only[go_sem,i0,i3,o3,i5,o5,oS,ew]|simp (disch:=first|exact omg|fail) only[AX,i0,i3,o3,i5,o5,oS,ew]|refine wki ?_|refine vpx [] ?_|refine vfa ?_)
  exact⟨_,_,⟨true,k',lo,hi,S,hk,(fun _=>by grind),(fun h=>nomatch h),rfl,rfl⟩,rfl,rfl⟩
end
end Go.Proofs.YtfknkoeagjonbaaGreat
