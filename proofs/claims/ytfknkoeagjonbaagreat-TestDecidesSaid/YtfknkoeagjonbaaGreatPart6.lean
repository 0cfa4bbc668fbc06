/- Part 6 of the proof: the evaluator, contracts of functions and their plain laws (joined by program). No condition. -/
import Derived.Test.YtfknkoeagjonbaaGreatPart5
set_option linter.unusedVariables false
set_option linter.unusedSimpArgs false
set_option maxRecDepth 100000
namespace Go.Proofs.YtfknkoeagjonbaaGreat
open Go.Ev
theorem times_le {x k:Nat}:(x+1)*(2*k)/(2*k+1)+1<=x+2:=by
 have h:(x+1)*(2*k)/(2*k+1)<=x+1:=(yR (by omega)).2 (by have:=xF (x+1) (show 2*k<=2*k+1 by omega);omega);omega
set_option maxHeartbeats 1000000 in
theorem arcs_angle {n d w A B:Nat} (hn:n<=1000) (hd:d<=1000) (hd0:0<d) (hw:w<=900) (hw0:0<w) (h:angF n d w=some (A,B)):Go.Ev.Fn CX 311 [natV (lim n),natV (lim d),.int .i64 (w:Int)] (spanV A B):=by
 unfold angF at h;rw[pin_eq,pin_eq]at h;have ln:(lim n).length<=1:=lim_len_one;have ld:(lim d).length<=1:=lim_len_one;have m1:=nat_MulL (N:=n) (D:=n);have m2:=nat_MulL (N:=d) (D:=d);have m3:=nat_MulL (N:=n) (D:=d);have lnn:=lim_len_mul (a:=n) (b:=n);have ldd:=lim_len_mul (a:=d) (b:=d);have lnd:=lim_len_mul (a:=n) (b:=d);have s1:=nat_AddL (N:=n*n) (D:=d*d);have lsq:=lim_len_add (a:=n*n) (b:=d*d) (L:=2);have hdd:0<d*d:=zI hd0 hd0;have hnd:n*d<=n*n+d*d:=by
  rcases Nat.le_total n d with g|g
  ·have:=xB d g;omega
  ·have:=xF n g;omega
 have o1:=fix_Of (n:=n*n) (d:=n*n+d*d) (w:=w);have o2:=fix_Of (n:=n*d) (d:=n*n+d*d) (w:=w);have hb1:n*n*2^w/(n*n+d*d)<2^w:=by
  rw[yA (by omega),xV (2^w)];exact zF (by omega) (xM (by omega))
 have ht1:n*d*2^w/(n*n+d*d)<=2^w:=(yR (by omega)).2 (by have:=xB (2^w) hnd;rw[xV (2^w)];omega);generalize n*n*2^w/(n*n+d*d)=b1 at *
 generalize n*d*2^w/(n*n+d*d)=t0 at *
 generalize n*n+d*d=sq at *
 generalize n*n=nn at *
 generalize d*d=dd at *
 generalize n*d=nd at *
 have hP:0<2^w:=xM (by omega);have lb:=lim_len_p2 (n:=b1) (w:=w);have lb2:=lim_len_p2 (n:=b1+1) (w:=w);have big:2^w*2048=2^(w+11):=by rw[xN]
 have big2:2^(w+11)*2048=2^(w+22):=by rw[show w+22=(w+11)+11 by omega,xN 2 (w+11) 11]
 refine fni Tryz.f311 ?_;unfold Tryz.f311;repeat (first|simp only[go_sem]|simp (disch:=first|exact omg|fail) only[AX]|refine wki ?_|refine vfa ?_)
 refine vp_loop_inv (fun s=>s.tmp 2 = .sv (.int .i64 (w:Int))/\s.tmp 6 = .ptr 6 0 0/\s.obj 6 0=some [.sl 0 [],.sl 0 []]/\s.tmp 8 = .ptr 8 0 0/\s.obj 8 0=some [natV (lim b1),natV (lim (b1+1))]/\s.tmp 9 = .ptr 9 0 0/\s.tmp 10 = .ptr 10 0 0 /\
   ∃f k t1 t2 a1 a2:Nat,s.tmp 11 = .sv (.int .u64 (k:Int))/\f+k=1001/\1<=k/\angGo w b1 (b1+1) f k t1 t2 a1 a2=some (A,B)/\s.obj 9 0=some [natV (lim t1),natV (lim t2)]/\s.obj 10 0=some [natV (lim a1),natV (lim a2)] /\
    t1<=t2/\t2<=2^w+2*k/\a1<=a2/\a2<=k*2^(w+11))
  (fun s=>match s.tmp 11 with | .sv (.int _ i)=>1002-i.toNat|_=>0) ⟨rfl,rfl,rfl,rfl,rfl,rfl,rfl,1000,1,t0,t0+1,t0,t0+1,rfl,rfl,by omega,h,rfl,rfl,by omega,by omega,by omega,by omega⟩ ?_
 rintro s ⟨i2,i6,o6,i8,o8,i9,i10,f,k,t1,t2,a1,a2,i11,hfk,hk,hg,o9,o10,g1,g2,g3,g4⟩
 have hk2:k*2^(w+11)<=1001*2^(w+11):=xB _ (by omega);have lt2:=lim_len_p2 (n:=t2) (w:=w+11);have lt1:=lim_len_p2 (n:=t1) (w:=w+11);have la2:=lim_len_p2 (n:=a2) (w:=w+22);have la1:=lim_len_p2 (n:=a1) (w:=w+22);have sm:=fix_Small (a:=t1) (b:=t2) (k:=2);cases f with
 |zero=>simp only[angGo]at hg;cases hg
 |succ f=>
  rw[angGo]at hg;simp only[pin_eq]at hg;by_cases hs:t2<2^2
  ·rw[decide_eq_true hs]at sm;rw[if_pos (show t2<4 from hs)]at hg;obtain⟨rfl,rfl⟩:a1=A/\a2+8=B:=by simpa using hg
   have wd:=fix_Wider (a:=a1) (b:=a2) (n:=8);clear hg;repeat (first|simp only[go_sem,i2,i6,o6,i8,o8,i9,i10,i11,o9,o10,xQ]|simp (disch:=first|exact omg|fail) only[AX,i2,i6,o6,i8,o8,i9,i10,i11,o9,o10,xQ]|refine wki ?_|refine vfa ?_)
  ·rw[decide_eq_false hs]at sm;rw[if_neg (show ¬t2<4 from hs)]at hg;have mu:=fix_Mul (a:=t1) (b:=t2) (c:=b1) (d:=b1+1) (w:=w) (by omega) (by omega) (by omega) (by omega) (by omega) hw0;have q1:=nat_Of (2*k);have q2:=nat_Of (2*k+1);have l1:(lim (2*k)).length<=1:=lim_len_one;have l2:(lim (2*k+1)).length<=1:=lim_len_one;have hx:t2*(b1+1)/2^w<=t2:=(yR hP).2 (by have:=xF t2 (show b1+1<=2^w by omega);omega);have hy:t1*b1/2^w<=t2*(b1+1)/2^w:=xg (xJ g1 (by omega));generalize t1*b1/2^w=x1 at *
   generalize t2*(b1+1)/2^w=x2 at *
   have lx2:=lim_len_p2 (n:=x2+1) (w:=w+11);have lx1:=lim_len_p2 (n:=x1) (w:=w+11);have ti:=fix_Times (a:=x1) (b:=x2+1) (n:=2*k) (d:=2*k+1);have hz:=times_le (x:=x2) (k:=k);have hz2:x1*(2*k)/(2*k+1)<=(x2+1)*(2*k)/(2*k+1)+1:=yZ (xg (xB _ (by omega)));generalize x1*(2*k)/(2*k+1)=u1 at *
   generalize (x2+1)*(2*k)/(2*k+1)+1=u2 at *
   have lu2:=lim_len_p2 (n:=u2) (w:=w+11);have lu1:=lim_len_p2 (n:=u1) (w:=w+11);have ad:=fix_Add (a:=a1) (b:=a2) (c:=u1) (d:=u2);have e1:((2*k:Nat):Int)=2*(k:Int):=by omega
   have e2:((2*k+1:Nat):Int)=2*(k:Int)+1:=by omega
   rw[e1]at q1;rw[e2]at q2;repeat (first|simp only[go_sem,i2,i6,o6,i8,o8,i9,i10,i11,o9,o10,xn]|simp (disch:=first|exact omg|fail) only[AX,i2,i6,o6,i8,o8,i9,i10,i11,o9,o10,xn]|refine wki ?_|refine vfa ?_)
   exact⟨⟨f,k+1,u1,u2,a1+u1,a2+u2,rfl,by omega,by omega,hg,rfl,rfl,by omega,by omega,by omega,by rw[xY,xe];omega⟩,by omega⟩
theorem fix_Certain1 {p sp lo hi:Nat} {f:FuncId} (hf:Go.Ev.Fn CX f [.int .i64 ((p+sp:Nat):Int)] (spanV lo hi)) (hlo:(lim lo).length<=1000) (hhi:(lim hi).length<=1000) (hp:p<=10000) (hsp:sp<=1000) (hs0:0<sp) (hc:lo/2^sp=(hi-1)/2^sp) :
  Go.Ev.Fn CX 231 [.int .i64 (p:Int),.int .i64 (sp:Int),.fn f []] (ballR (mkRat ((lo/2^sp:Nat):Int) (2^p)) (mkRat ((lo/2^sp+1:Nat):Int) (2^p))):=by
 have fl:=fix_Floor (a:=lo) (b:=hi) (w:=p+sp) (p:=p);rw[Nat.add_sub_cancel_left,decide_eq_true hc]at fl;have o:=fix_One;have l1:=lim_len1;have sh:=fix_shl (a:=1) (m:=p);have lp:=lim_len_shl (a:=1) (n:=p);rw[xe]at sh lp;have ll:=lim_len_mono (xt lo (2^sp));have n1:=fix_Next (a:=lo/2^sp);have l2:=lim_len_add (a:=lo/2^sp) (b:=1) (L:=1000);have r1:=rat_OfL (s:=false) (n:=lo/2^sp) (d:=2^p);have r2:=rat_OfL (s:=false) (n:=lo/2^sp+1) (d:=2^p);rw[show sgn false (lo/2^sp)=((lo/2^sp:Nat):Int) from rfl]at r1;rw[show sgn false (lo/2^sp+1)=((lo/2^sp+1:Nat):Int) from rfl]at r2
 generalize mkRat ((lo/2^sp:Nat):Int) (2^p)=q1 at *
 generalize mkRat ((lo/2^sp+1:Nat):Int) (2^p)=q2 at *
 generalize lo/2^sp+1=a' at *
 generalize lo/2^sp=a at *
 generalize 2^p=P at *
 rw[show ((p+sp:Nat):Int)=(p:Int)+(sp:Int) from rfl]at hf fl;refine fni Tryz.f231 ?_;unfold Tryz.f231;repeat (first|simp only[go_sem]|simp (disch:=first|exact omg|fail) only[AX]|refine wki ?_)
 refine vp_loop_inv (fun s=>s.tmp 0 = .sv (.int .i64 (p:Int))/\s.tmp 2 = .sv (.fn f [])/\s.tmp 6 = .ptr 6 0 0/\s.obj 6 0=some [.bool false,.sl 0 [],.sl 0 [],.bool false,.sl 0 [],.sl 0 []]/\s.tmp 7 = .sv (.int .i64 ((p:Int)+(sp:Int)))) (fun _=>0) ⟨rfl,rfl,rfl,rfl,rfl⟩ ?_;rintro s ⟨i0,i2,i6,o6,i7⟩
 repeat (first|simp only[go_sem,i0,i2,i6,o6,i7]|simp (disch:=first|exact omg|fail) only[AX,i0,i2,i6,o6,i7]|refine wki ?_|refine vfa ?_)
theorem arcs_held (p:Int):Go.Ev.Fn CX 290 [.int .i64 p] (.int .i64 (if p<0 then 0 else if 512<p then 512 else p)):=by
 by_cases h1:p<0
 ·rw[if_pos h1];have e1:(if (0:Int)>p then (0:Int) else p)=0:=if_pos (by omega);refine fni Tryz.f290 ?_;unfold Tryz.f290;repeat (first|simp only[go_sem,e1]|simp (disch:=first|exact omg|fail) only[AX,e1]|refine wki ?_)
 ·rw[if_neg h1];have e1:(if (0:Int)>p then (0:Int) else p)=p:=if_neg (by omega);by_cases h2:512<p
  ·rw[if_pos h2];have e2:(if (512:Int)<p then (512:Int) else p)=512:=if_pos h2;refine fni Tryz.f290 ?_;unfold Tryz.f290;repeat (first|simp only[go_sem,e1,e2]|simp (disch:=first|exact omg|fail) only[AX,e1,e2]|refine wki ?_)
  ·rw[if_neg h2];have e2:(if (512:Int)<p then (512:Int) else p)=p:=if_neg h2;refine fni Tryz.f290 ?_;unfold Tryz.f290;repeat (first|simp only[go_sem,e1,e2]|simp (disch:=first|exact omg|fail) only[AX,e1,e2]|refine wki ?_)
theorem angGo_bd {w b1 b2 T:Nat} (hb:b1<=b2) (hb2:b2<=2^w) : ∀ (f k t1 t2 a1 a2:Nat) {A B:Nat},angGo w b1 b2 f k t1 t2 a1 a2=some (A,B)->t1<=t2->t2+2*f<=T->a1<=a2->A<=B/\B<=a2+f*T+8:=by
 intro f;induction f with
 |zero=>intro k t1 t2 a1 a2 A B h;simp only[angGo]at h;cases h
 |succ f ih=>
  intro k t1 t2 a1 a2 A B h ht hT ha;have hP:0<2^w:=xM (by omega);rw[angGo]at h;simp only[pin_eq]at h;rw[xY,xe];by_cases hs:t2<4
  ·rw[if_pos hs]at h;obtain⟨rfl,rfl⟩:a1=A/\a2+8=B:=by simpa using h
   omega
  ·rw[if_neg hs]at h;have hx:t2*b2/2^w<=t2:=(yR hP).2 (by have:=xF t2 hb2;omega);have hy:t1*b1/2^w<=t2*b2/2^w:=xg (xJ ht hb);have hz:=times_le (x:=t2*b2/2^w) (k:=k);have hz2:t1*b1/2^w*(2*k)/(2*k+1)<=(t2*b2/2^w+1)*(2*k)/(2*k+1)+1:=yZ (xg (xB _ (by omega)));generalize t1*b1/2^w*(2*k)/(2*k+1)=u1 at *
   generalize (t2*b2/2^w+1)*(2*k)/(2*k+1)+1=u2 at *
   have:=ih _ _ _ _ _ h hz2 (by omega) (by omega);omega
theorem angF_bd {n d w A B:Nat} (hn0:0<n) (hnd:n<=d) (hw:w<=900) (hw0:11<=w) (h:angF n d w=some (A,B)):(lim A).length<=40/\(lim B).length<=40:=by
 unfold angF at h;rw[pin_eq,pin_eq]at h;have hP:0<2^w:=xM (by omega);have h1:=xJ hnd hnd;have h2:n*d<=d*d:=xB _ hnd;have h3:0<n*n:=zI hn0 hn0;have hb1:n*n*2^w/(n*n+d*d)<2^w:=by
  rw[yA (by omega),xV (2^w)];exact zF (by omega) hP
 have ht1:n*d*2^w/(n*n+d*d)<=2^w:=(yR (by omega)).2 (by have:=xB (2^w) (show n*d<=n*n+d*d by omega);rw[xV (2^w)];omega);have hb:=angGo_bd (T:=2^w+2001) (yq _) (by omega) _ _ _ _ _ _ h (by omega) (by omega) (by omega);have hbig:2^w*4096=2^(w+12):=by rw[xN]
 have h11:2^11<=2^w:=xE (by omega) hw0;exact⟨lim_len_p2 (w:=w+12),lim_len_p2 (w:=w+12)⟩
theorem arcs_pi {w A B:Nat} (hw:w<=900) (hw0:11<=w) (h:piF w=some (A,B)):Go.Ev.Fn CX 291 [.int .i64 (w:Int)] (spanV A B)/\(lim A).length<=100/\(lim B).length<=100:=by
 unfold piF at h;split at h
 ·rename_i a1 a2 b1 b2 h1 h2;obtain⟨rfl,rfl⟩:a1*16-(b2*4+1)=A/\a2*16+1-b1*4+1=B:=by simpa using h
  clear h;have an1:=arcs_angle (n:=1) (d:=5) (by omega) (by omega) (by omega) hw (by omega) h1;have an2:=arcs_angle (n:=1) (d:=239) (by omega) (by omega) (by omega) hw (by omega) h2;obtain⟨g1,g2⟩:=angF_bd (by omega) (by omega) (by omega) hw0 h1;obtain⟨g3,g4⟩:=angF_bd (by omega) (by omega) (by omega) hw0 h2;have o:=fix_One;have q5:=nat_Of 5;have q239:=nat_Of 239;have q16:=nat_Of 16;have q4:=nat_Of 4;have l16:(lim 16).length<=1:=lim_len_one (by decide);have l4:(lim 4).length<=1:=lim_len_one (by decide);have l1:=lim_len1;have t1:=fix_Times (a:=a1) (b:=a2) (n:=16) (d:=1)
  have t2:=fix_Times (a:=b1) (b:=b2) (n:=4) (d:=1);rw[wI,wI]at t1 t2;have e1:=lim_len_mul (a:=a1) (b:=16);have e2:=lim_len_mul (a:=a2) (b:=16);have e3:=lim_len_mul (a:=b1) (b:=4);have e4:=lim_len_mul (a:=b2) (b:=4);have e5:=lim_len_add (a:=a2*16) (b:=1) (L:=50);have e6:=lim_len_add (a:=b2*4) (b:=1) (L:=50);have sb:=fix_Sub (a:=a1*16) (b:=a2*16+1) (c:=b1*4) (d:=b2*4+1);have e7:=lim_len_mono (zY (a1*16) (b2*4+1));have e8:=lim_len_mono (zY (a2*16+1) (b1*4));have e9:=lim_len_add (a:=a2*16+1-b1*4) (b:=1) (L:=60);refine⟨?_,by omega,by omega⟩;generalize a1*16-(b2*4+1)=x1 at *
  generalize a2*16+1-b1*4+1=x2 at *
  generalize a2*16+1=x3 at *
  generalize b2*4+1=x4 at *
  generalize a1*16=x5 at *
  generalize b1*4=x6 at *
  refine fni Tryz.f291 ?_;unfold Tryz.f291;repeat (first|simp only[go_sem]|simp (disch:=first|exact omg|fail) only[AX]|refine wki ?_|refine vpd 2 [14,15,18,19] ?_|refine vf_of (by first|exact o|exact q5|exact an1|exact q239|exact an2|exact q16|exact t1|exact q4|exact t2|exact sb) ?_)
 ·cases h
theorem allFrom_at {f:Nat->Bool} : ∀ {n k:Nat},allFrom f n k=true -> ∀i,k<=i->i<k+n->f i=true:=by
 intro n;induction n with
 |zero=>intro k _ i h1 h2;omega
 |succ n ih=>
  intro k h i h1 h2;rw[allFrom,xj]at h;rcases Nat.eq_or_lt_of_le h1 with h3|h3
  ·rw[<- h3];exact h.1
  ·exact ih h.2 i h3 (by omega)
end Go.Proofs.YtfknkoeagjonbaaGreat
namespace Go.Proofs.YtfknkoeagjonbaaGreat
open Go.Ev
theorem four_mul_le (x y:Nat):4*(x*y)<=(x+y)*(x+y):=by
 rcases Nat.le_total x y with h|h
 ·obtain⟨k,rfl⟩:=wX h;have:(x+(x+k))*(x+(x+k))=4*(x*(x+k))+k*k:=by grind
  omega
 ·obtain⟨k,rfl⟩:=wX h;have:(y+k+y)*(y+k+y)=4*((y+k)*y)+k*k:=by grind
  omega
theorem newton_up {a x:Nat} (hx:0<x):a<((x+a/x)/2+1)*((x+a/x)/2+1):=by
 have h1:a<x*(a/x+1):=by
  have:=ym a x;have:=yG a hx;rw[xZ,xu];omega
 have h2:=four_mul_le x (a/x+1);generalize a/x=q at *
 have h3:x+(q+1)<=2*((x+q)/2+1):=by omega
 have h4:=xJ h3 h3;generalize (x+q)/2+1=m at *
 have h5:2*m*(2*m)=4*(m*m):=by grind
 omega
theorem newton_stop {a x:Nat} (hx:0<x) (h:x<=(x+a/x)/2):x*x<=a:=by
 have h1:x<=a/x:=by omega
 have h2:=xF x h1;have h3:=Nat.mul_div_le a x;omega
def vN (v:SV):Nat:=match decV v with
 |some xs=>wth xs
 |none=>0
theorem vN_lim {x:Nat} (h:(lim x).length<=137438953472:=by omega):vN (natV (lim x))=x:=by
 unfold vN;rw[decV_nat (okL_lim x) h];exact wth_lim x
theorem lim_p32 (n:Nat):lim (4294967296^n)=List.replicate n 0++[1]:=by
 have h:=lim_unique (xs:=List.replicate n 0++[1]) (okL_append.2 ⟨okL_replicate _,by simp[okL]⟩) (.inr ⟨_,1,rfl,by decide⟩);rw[wth_append,wth_replicate,yW,yf,show wth [1]=1 from rfl,xu]at h;exact h.symm
theorem set_last (n:Nat):((List.replicate (n+1) 0).set n 1:List Nat)=List.replicate n 0++[1]:=by
 rw[List.replicate_succ',List.set_append_right _ _ (by simp),yW,Nat.sub_self];rfl
set_option maxHeartbeats 1000000 in
theorem root_Int {a:Nat} (h:(lim a).length<=1000:=by omega):Go.Ev.Fn CX 308 [natV (lim a)] (natV (lim (rtN a))):=by
 have b:=nat_Bits (N:=a);have hb:a<2^blen a:=blen_iff.1 (xU _);by_cases h0:a=0
 ·subst h0;have e:rtN 0=0:=(rtN_eq (a:=0) (r:=0)).symm;rw[e,lim_zero];rw[lim_zero,show blen 0=0 from rfl]at b;refine fni Tryz.f308 ?_;unfold Tryz.f308;repeat (first|simp only[go_sem]|simp (disch:=first|exact omg|fail) only[AX]|refine wki ?_|refine vfa ?_)
  rfl
 have hB0:blen a≠0:=fun e=>by rw[e]at hb;omega
 have hBl:blen a<=32000:=by
  obtain⟨K,hK⟩ : ∃K:Nat,K=32000:=⟨_,rfl⟩
  rw[<- hK];refine blen_iff.2 (xr lim_len_pow ?_);rw[show (4294967296:Nat)=2^32 from rfl,<- zJ];exact xE (by omega) (by omega)
 generalize blen a=B at *
 have ha0:a<4294967296^(B/64+1)*4294967296^(B/64+1):=by
  refine xr hb ?_;rw[<- xN,show (4294967296:Nat)=2^32 from rfl,<- zJ];exact xE (by omega) (by omega)
 have l0:=lim_p32 (B/64+1);have hn:B/64+1<=501:=by omega
 have tq:(B:Int).tdiv 64=((B/64:Nat):Int):=_root_.id rfl;have sl:=set_last (B/64+1);rw[<- l0]at sl;have x0pos:0<4294967296^(B/64+1):=xM (by omega);have ll:(lim (4294967296^(B/64+1))).length=B/64+2:=by rw[l0];simp
 have wp:=wth_lim (4294967296^(B/64+1));generalize 4294967296^(B/64+1)=x0 at *
 -- one round
 have round : ∀x,0<x->(lim x).length<=1000->Go.Ev.Fn CX 140 [natV (lim a),natV (lim x)] (.tup [natV (lim (a/x)),natV (lim (a%x)),.bool true])/\Go.Ev.Fn CX 113 [natV (lim x),natV (lim (a/x))] (natV (lim (x+a/x))) /\
   Go.Ev.Fn CX 88 [natV (lim (x+a/x)),.int .i64 (-1)] (natV (lim ((x+a/x)/2)))/\Go.Ev.Fn CX 125 [natV (lim ((x+a/x)/2)),natV (lim x)] (.int .i64 (cmpN ((x+a/x)/2) x)):=by
  intro x hx hl;have l1:=lim_len_mono (xt a x);have l2:=lim_len_add (a:=x) (b:=a/x) (L:=1000);have l3:=lim_len_mono (xt (x+a/x) 2);have s:=nat_shr (N:=x+a/x) (m:=1);rw[Nat.pow_one]at s;exact⟨nat_DivL,nat_AddL,s,nat_CmpL⟩
 have tr : ∀x,(lim x).length<=1000->Go.Ev.Fn CX 138 [natV (lim x)] (natV (lim x)):=by
  intro x hl;have:=nat_Trim (lim x) (okL_lim x);rwa [wth_lim]at this
 have tn:(((B/64:Nat):Int)+2).toNat=B/64+2:=by omega
 refine fni Tryz.f308 ?_;unfold Tryz.f308;repeat (first|simp only[go_sem,tq,tn]|simp (disch:=first|exact omg|fail) only[AX,tq,tn]|refine wki ?_|refine vfa ?_)
 have hstep : ∀x,0<x->a<(x+1)*(x+1) -> ∀y,y=(x+a/x)/2 -> ¬x<=y->0<y/\a<(y+1)*(y+1)/\y<x:=by
  rintro x hx-y rfl hxy
  have:=newton_up (a:=a) hx;refine⟨?_,this,by omega⟩;rcases xl ((x+a/x)/2) with e|e
  ·rw[e]at this;omega
  ·exact e
 refine vp_loop_inv (fun s=>s.tmp 0 = .sv (natV (lim a)) /\ ∃x:Nat,0<x/\(lim x).length<=600/\x<=x0/\a<(x+1)*(x+1)/\(s.tmp 3 = .sv (natV (lim x))\/x=x0/\s.tmp 3 = .ref 15 0 1 0 (B/64+2)/\s.obj 15 0=some ((lim x0).map limb)))
  (fun s=>match s.tmp 3 with | .sv v=>vN v|_=>x0+1) ?_ ?_
 ·refine⟨rfl,x0,x0pos,by omega,xU _,by have:=xJ (show x0<=x0+1 by omega) (show x0<=x0+1 by omega);omega,.inr ⟨rfl,by first|rfl|(rw[<- tn];rfl),?_⟩⟩;refine(?_:some (List.map limb (List.take (B/64+2-1) (List.replicate (B/64+2) 0))++[SV.int IntKind.u32 1]++List.map limb (List.drop (B/64+2-1+1) (List.replicate (B/64+2) 0)))=_);rw[l0,List.take_replicate,List.drop_replicate,yO (by omega),show B/64+2-(B/64+2-1+1)=0 by omega,show B/64+2-1=B/64+1 by omega,wl,List.replicate_zero,wg,List.append_nil];rfl
 rintro s ⟨i0,x,hx,lx,hxx,hax,i3⟩
 obtain⟨r1,r2,r3,r4⟩:=round x hx (by omega);have hst:=hstep x hx hax _ rfl;have e1:decide (cmpN ((x+a/x)/2) x>=0)=decide (x<=(x+a/x)/2):=decide_eq_decide.2 (by unfold cmpN;split<;>(try split)<;>omega);have hstop:=newton_stop (a:=a) (x:=x) hx;have t1:=tr x (by omega);have l1:=lim_len_mono (xt (x+a/x) 2);generalize (x+a/x)/2=y at *
 generalize x+a/x=u at *
 generalize a/x=q at *
 generalize cmpN y x=z at *
 rcases i3 with i3|⟨rfl,i3,o3⟩
 ·by_cases hle:x<=y
  ·rw[decide_eq_true hle]at e1;obtain rfl:=rtN_eq (hstop hle) hax;repeat (first|simp only[go_sem,i0,i3,e1]|simp (disch:=first|exact omg|fail) only[AX,i0,i3,e1]|refine wki ?_|refine vfa ?_)
  ·rw[decide_eq_false hle]at e1;obtain⟨y1,y2,y3⟩:=hst hle;repeat (first|simp only[go_sem,i0,i3,e1]|simp (disch:=first|exact omg|fail) only[AX,i0,i3,e1]|refine wki ?_|refine vfa ?_)
   exact⟨⟨y,y1,xG (lim_len_mono (wR y3)) lx,by omega,y2,.inl rfl⟩,by rw[vN_lim (by have:=lim_len_mono (wR y3);omega),vN_lim];exact y3⟩
 ·have hle : ¬x<=y:=fun g=>by have:=hstop g;have:=ha0;omega
  rw[decide_eq_false hle]at e1;obtain⟨y1,y2,y3⟩:=hst hle;have f1:Go.Ev.Fn CX 140 [natV (lim a),.sl (B/64+2) ((lim x).map limb)] (.tup [natV (lim q),natV (lim (a%x)),.bool true]):=by rw[<- ll];exact r1
  have f2:Go.Ev.Fn CX 113 [.sl (B/64+2) ((lim x).map limb),natV (lim q)] (natV (lim u)):=by rw[<- ll];exact r2
  have f4:Go.Ev.Fn CX 125 [natV (lim y),.sl (B/64+2) ((lim x).map limb)] (.int .i64 z):=by rw[<- ll];exact r4
  have hlm:((lim x).map limb).length=B/64+2:=by rw[xd,ll]
  have htk:((lim x).map limb).take (B/64+2)=(lim x).map limb:=xH (by omega);generalize ((lim x).map limb)=cs at *
  repeat (first|simp only[go_sem,i0,i3,o3,htk,hlm,xf,N0,xu,e1]|simp (disch:=first|exact omg|fail) only[AX,i0,i3,o3,htk,hlm,xf,N0,xu,e1]|refine wki ?_|refine vfa ?_)
  exact⟨⟨y,y1,xG (lim_len_mono (wR y3)) lx,by omega,y2,.inl rfl⟩,by rw[vN_lim (by have:=lim_len_mono (wR y3);omega)];omega⟩
theorem root_whole {a:Nat} (h:(lim a).length<=1000:=by omega):Go.Ev.Fn CX 314 [natV (lim a)] (.tup [natV (lim (rtN a)),.bool (decide (rtN a*rtN a=a))]):=by
 have r:=root_Int h;have l:=lim_len_mono (rtN_self a);have m:=nat_MulL (N:=rtN a) (D:=rtN a);have l2:=lim_len_mono (rtN_le a);have c:=nat_CmpL (N:=rtN a*rtN a) (D:=a);have e:(cmpN (rtN a*rtN a) a==0)=decide (rtN a*rtN a=a):=by
  rw[show (cmpN (rtN a*rtN a) a==0)=decide (cmpN (rtN a*rtN a) a=0) from by by_cases h:cmpN (rtN a*rtN a) a=0<;>simp[h]];exact decide_eq_decide.2 (by unfold cmpN;split<;>(try split)<;>omega)
 rw[<- e];generalize cmpN (rtN a*rtN a) a=z at *
 generalize rtN a*rtN a=y at *
 generalize rtN a=x at *
 refine fni Tryz.f314 ?_;unfold Tryz.f314;repeat (first|simp only[go_sem]|simp (disch:=first|exact omg|fail) only[AX]|refine wki ?_|refine vfa ?_)
theorem szR_nat {n d L:Nat} (hn:(lim n).length<=L:=by omega) (hd:(lim d).length<=L:=by omega) (hL:1<=L:=by omega):szR (mkRat (n:Int) d) L:=szR_mk (s:=false) hn hd hL
theorem natAbs_num {q:Rat} (h:0<=q):(q.num.natAbs:Int)=q.num:=wb (zP.2 h)
theorem mk_mulP (a:Int) {b:Nat} (hb:0<b):mkRat a b*(b:Rat)=(a:Rat):=by
 rw[Rat.mkRat_eq_div];refine yD ?_;have:(0:Rat)<(b:Rat):=by exact_mod_cast hb
 grind
theorem num_den (q:Rat):q*(q.den:Rat)=(q.num:Rat):=by
 have h:=mk_mulP q.num q.den_pos;rwa [wh]at h
theorem root_Square {v:SV} {q:Rat} {L:Nat} (hv:RatA v q L) (hq:0<=q) (hL1:1<=L) (hL:L<=1000:=by omega) :
  Go.Ev.Fn CX 307 [v] (if rtN q.num.natAbs*rtN q.num.natAbs=q.num.natAbs/\rtN q.den*rtN q.den=q.den then .tup [rv (mkRat (rtN q.num.natAbs:Int) (rtN q.den)),.bool true] else .tup [rv 0,.bool false]):=by
 have n1:=rat_Norm hv;obtain⟨z1,z2⟩:=szR_of hv hL1;have w1:=root_whole (a:=q.num.natAbs);have w2:=root_whole (a:=q.den);have l1:=lim_len_mono (rtN_self q.num.natAbs);have l2:=lim_len_mono (rtN_self q.den);have o:=rat_OfL (s:=false) (n:=rtN q.num.natAbs) (d:=rtN q.den);rw[show sgn false (rtN q.num.natAbs)=(rtN q.num.natAbs:Int) from rfl]at o;have r0:=rat_Int 0;rw[show ((0:Int):Rat)=0 from rfl]at r0;have hs:decide (q.num<0)=false:=decide_eq_false (by have:=zP.2 hq;omega);obtain⟨s,n,d,rfl,-⟩:=hv;generalize mkRat (rtN q.num.natAbs:Int) (rtN q.den)=r at *
 by_cases h1:rtN q.num.natAbs*rtN q.num.natAbs=q.num.natAbs
 ·rw[decide_eq_true h1]at w1;by_cases h2:rtN q.den*rtN q.den=q.den
  ·rw[decide_eq_true h2]at w2;rw[if_pos ⟨h1,h2⟩];clear h1 h2;generalize rtN q.num.natAbs=x at *
   generalize rtN q.den=y at *
   refine fni Tryz.f307 ?_;unfold Tryz.f307;repeat (first|simp only[go_sem,hs,xQ]|simp (disch:=first|exact omg|fail) only[AX,hs,xQ]|refine wki ?_|refine vfa ?_)
  ·rw[decide_eq_false h2]at w2;rw[if_neg (fun h=>h2 h.2)];clear h1 h2;generalize rtN q.num.natAbs=x at *
   generalize rtN q.den=y at *
   refine fni Tryz.f307 ?_;unfold Tryz.f307;repeat (first|simp only[go_sem,hs,xQ,xn]|simp (disch:=first|exact omg|fail) only[AX,hs,xQ,xn]|refine wki ?_|refine vfa ?_)
 ·rw[decide_eq_false h1]at w1;rw[if_neg (fun h=>h1 h.1)];clear h1;generalize rtN q.num.natAbs=x at *
  generalize hz:decide (rtN q.den*rtN q.den=q.den)=z at *
  generalize rtN q.den=y at *
  refine fni Tryz.f307 ?_;unfold Tryz.f307;repeat (first|simp only[go_sem,hs,xQ,xn]|simp (disch:=first|exact omg|fail) only[AX,hs,xQ,xn]|refine wki ?_|refine vfa ?_)
theorem nn_mul {a b:Nat}:((a*b:Nat):Rat)=(a:Rat)*(b:Rat):=by exact_mod_cast rfl
theorem nat_le_rat {a b:Nat} (h:a<=b:=by omega):(a:Rat)<=(b:Rat):=by exact_mod_cast h
theorem root_Sqrt {v:SV} {q:Rat} {L p:Nat} (hv:RatA v q L) (hq:0<=q) (hL1:1<=L:=by omega) (hL:L<=300:=by omega) (hp:p<=512:=by omega) :
  ∃lo hi:Rat,Go.Ev.Fn CX 286 [v,.int .i64 (p:Int)] (.tup [ballR lo hi,.bool true])/\0<=lo/\lo<=hi/\lo*lo<=q/\q<=hi*hi/\(hi-lo)*p2 p<=1/\szR lo (L+40)/\szR hi (L+40):=by
 have n1:=rat_Norm hv;obtain⟨z1,z2⟩:=szR_of hv hL1;have sq:=root_Square (RatA_rv ⟨z1,z2⟩) hq hL1;have l1:=lim_len_mono (rtN_self q.num.natAbs);have l2:=lim_len_mono (rtN_self q.den);have hs:decide (q.num<0)=false:=decide_eq_false (by have:=zP.2 hq;omega);have e1:(if (0:Int)>(p:Int) then (0:Int) else (p:Int))=(p:Int):=if_neg (by omega);have e2:(if (512:Int)<(p:Int) then (512:Int) else (p:Int))=(p:Int):=if_neg (by omega);have qn:=num_den q;have qa:((q.num.natAbs:Nat):Rat)=(q.num:Rat):=by
  rw[<- natAbs_num hq];rfl
 have D:=q.den_pos;have DR:(0:Rat)<(q.den:Rat):=by exact_mod_cast D
 have erv:rv q=ratV false (lim q.num.natAbs) (lim q.den):=by show ratV (decide (q.num<0)) _ _=_;rw[hs]
 rw[erv]at n1 sq;by_cases h:rtN q.num.natAbs*rtN q.num.natAbs=q.num.natAbs/\rtN q.den*rtN q.den=q.den
 ·rw[if_pos h]at sq;have hd0:0<rtN q.den:=by
   rcases xl (rtN q.den) with e|e
   ·have:=h.2;rw[e]at this;omega
   ·exact e
  have mm:=mk_mulP (rtN q.num.natAbs:Int) hd0;have YR:(0:Rat)<(rtN q.den:Rat):=by exact_mod_cast hd0
  have x2:((rtN q.num.natAbs:Nat):Rat)*((rtN q.num.natAbs:Nat):Rat)=(q.num:Rat):=by rw[<- nn_mul,h.1,qa]
  have y2:((rtN q.den:Nat):Rat)*((rtN q.den:Nat):Rat)=(q.den:Rat):=by rw[<- nn_mul,h.2]
  have x0:=nat_nonneg (rtN q.num.natAbs);have mm':mkRat (rtN q.num.natAbs:Int) (rtN q.den)*(rtN q.den:Rat)=((rtN q.num.natAbs:Nat):Rat):=mm;have r0:(0:Rat)<=mkRat (rtN q.num.natAbs:Int) (rtN q.den):=le_by YR (by rw[mm',yM];exact x0);have rr:mkRat (rtN q.num.natAbs:Int) (rtN q.den)*mkRat (rtN q.num.natAbs:Int) (rtN q.den)=q:=by
   generalize mkRat (rtN q.num.natAbs:Int) (rtN q.den)=r at *
   generalize ((rtN q.num.natAbs:Nat):Rat)=X at *
   generalize ((rtN q.den:Nat):Rat)=Y at *
   have e:(r*r-q)*(Y*Y)=0:=by
    have e3:(r*r-q)*(Y*Y)=(r*Y)*(r*Y)-q*(Y*Y):=by grind
    rw[e3,mm',x2,y2,qn,Rat.sub_self]
   rcases Rat.mul_eq_zero.1 e with g|g
   ·grind
   ·rw[y2]at g;grind
  have zz:szR (mkRat (rtN q.num.natAbs:Int) (rtN q.den)) L:=szR_nat (by omega) (by omega) hL1;have bo:=ball_Of (RatA_rv zz);refine⟨_,_,?_,r0,xi,by rw[rr];exact xi,by rw[rr];exact xi,by rw[Rat.sub_self,yM];decide,szR_mono zz,szR_mono zz⟩;clear rr r0 zz mm;obtain⟨s,n,d,rfl,-⟩:=hv;generalize mkRat (rtN q.num.natAbs:Int) (rtN q.den)=r at *
  refine fni Tryz.f286 ?_;unfold Tryz.f286;repeat (first|simp only[go_sem,hs,e1,e2]|simp (disch:=first|exact omg|fail) only[AX,hs,e1,e2]|refine wki ?_|refine vpd 8 [32,35,37] ?_|refine vfa ?_)
 ·rw[if_neg h]at sq;clear h;have s1:=nat_shl (N:=q.num.natAbs) (m:=2*p);have l3:=lim_len_shl (a:=q.num.natAbs) (n:=2*p);have dv:=nat_DivL (N:=q.num.natAbs*2^(2*p)) (D:=q.den);have l4:=lim_len_mono (xt (q.num.natAbs*2^(2*p)) q.den);have rt:=root_Int (a:=q.num.natAbs*2^(2*p)/q.den);have l5:=lim_len_mono (rtN_self (q.num.natAbs*2^(2*p)/q.den));have o1:=nat_Of 1;have l1':=lim_len1;have s2:=nat_shl (N:=1) (m:=p);have l6:=lim_len_shl (a:=1) (n:=p);rw[xe]at s2 l6;have l7:=lim_len_add (a:=rtN (q.num.natAbs*2^(2*p)/q.den)) (b:=1) (L:=L+34);have ad:=nat_AddL (N:=rtN (q.num.natAbs*2^(2*p)/q.den)) (D:=1)
  have f1:=rat_OfL (s:=false) (n:=rtN (q.num.natAbs*2^(2*p)/q.den)) (d:=2^p);have f2:=rat_OfL (s:=false) (n:=rtN (q.num.natAbs*2^(2*p)/q.den)+1) (d:=2^p);have P:0<2^p:=xM (by omega);have g1:=rtN_le (q.num.natAbs*2^(2*p)/q.den);have g2:=lt_rtN (q.num.natAbs*2^(2*p)/q.den);have m1:=mk_mulP (rtN (q.num.natAbs*2^(2*p)/q.den):Int) P;have m2:=mk_mulP ((rtN (q.num.natAbs*2^(2*p)/q.den)+1:Nat):Int) P;refine⟨_,_,?_,?_,?_,?_,?_,?_,szR_nat (n:=rtN (q.num.natAbs*2^(2*p)/q.den)) (d:=2^p),szR_nat (n:=rtN (q.num.natAbs*2^(2*p)/q.den)+1) (d:=2^p)⟩
  ·rw[show sgn false (rtN (q.num.natAbs*2^(2*p)/q.den))=(rtN (q.num.natAbs*2^(2*p)/q.den):Int) from rfl]at f1;rw[show sgn false (rtN (q.num.natAbs*2^(2*p)/q.den)+1)=((rtN (q.num.natAbs*2^(2*p)/q.den)+1:Nat):Int) from rfl]at f2;clear g1 g2 m1 m2;rw[show ((2*p:Nat):Int)=2*(p:Int) by omega]at s1;obtain⟨s,n,d,rfl,-⟩:=hv;generalize mkRat (rtN (q.num.natAbs*2^(2*p)/q.den):Int) (2^p)=r1 at *
   generalize mkRat ((rtN (q.num.natAbs*2^(2*p)/q.den)+1:Nat):Int) (2^p)=r2 at *
   generalize rtN (q.num.natAbs*2^(2*p)/q.den)+1=R1 at *
   generalize rtN (q.num.natAbs*2^(2*p)/q.den)=R at *
   generalize q.num.natAbs*2^(2*p)/q.den=u at *
   generalize q.num.natAbs*2^(2*p)%q.den=u' at *
   generalize q.num.natAbs*2^(2*p)=t at *
   generalize 2^p=P' at *
   refine fni Tryz.f286 ?_;unfold Tryz.f286;repeat (first|simp only[go_sem,hs,e1,e2]|simp (disch:=first|exact omg|fail) only[AX,hs,e1,e2]|refine wki ?_|refine vpd 8 [32,35,37] ?_|refine vfa ?_)
  all_goals
   have m1':mkRat (rtN (q.num.natAbs*2^(2*p)/q.den):Int) (2^p)*p2 p=((rtN (q.num.natAbs*2^(2*p)/q.den):Nat):Rat):=m1;have m2':mkRat ((rtN (q.num.natAbs*2^(2*p)/q.den)+1:Nat):Int) (2^p)*p2 p=((rtN (q.num.natAbs*2^(2*p)/q.den)+1:Nat):Rat):=m2;have PR:=p2_pos p;have eS:((rtN (q.num.natAbs*2^(2*p)/q.den)+1:Nat):Rat)=((rtN (q.num.natAbs*2^(2*p)/q.den):Nat):Rat)+1:=by exact_mod_cast rfl
   have R0:=nat_nonneg (rtN (q.num.natAbs*2^(2*p)/q.den))
  ·exact le_by PR (by rw[yM];exact xO R0 (by rw[<- m1'];exact xi))
  ·refine le_by PR ?_;show mkRat (rtN (q.num.natAbs*2^(2*p)/q.den):Int) (2^p)*p2 p<=mkRat ((rtN (q.num.natAbs*2^(2*p)/q.den)+1:Nat):Int) (2^p)*p2 p;rw[m1',m2',eS];grind
  ·show mkRat (rtN (q.num.natAbs*2^(2*p)/q.den):Int) (2^p)*mkRat (rtN (q.num.natAbs*2^(2*p)/q.den):Int) (2^p)<=q;have a1:=nat_le_rat (xB q.den g1);have a2:=nat_le_rat (wk (q.num.natAbs*2^(2*p)) q.den);have a3:=xO a1 a2;rw[show 2^(2*p)=2^p*2^p by rw[<- xN];congr 1;omega]at *
   rw[nn_mul,nn_mul,nn_mul,nn_mul,qa]at a3;generalize mkRat (rtN (q.num.natAbs*(2^p*2^p)/q.den):Int) (2^p)=r at *
   generalize ((rtN (q.num.natAbs*(2^p*2^p)/q.den):Nat):Rat)=R at *
   have PP:(0:Rat)<p2 p*p2 p*(q.den:Rat):=ya (ya PR PR) DR;refine le_by PP ?_;have e1:r*r*(p2 p*p2 p*(q.den:Rat))=(r*p2 p)*(r*p2 p)*(q.den:Rat):=by grind
   have e2:q*(p2 p*p2 p*(q.den:Rat))=q*(q.den:Rat)*(p2 p*p2 p):=by grind
   rw[e1,e2,m1',qn];exact a3
  ·show q<=mkRat ((rtN (q.num.natAbs*2^(2*p)/q.den)+1:Nat):Int) (2^p)*mkRat ((rtN (q.num.natAbs*2^(2*p)/q.den)+1:Nat):Int) (2^p);have a1:=nat_le_rat (xB q.den (show q.num.natAbs*2^(2*p)/q.den+1<=_ from g2));have a2:=le_floor (a:=q.num.natAbs*2^(2*p)) (d:=q.den) D;rw[<- nn_mul]at a2;have a3:=xO a2 a1;rw[show 2^(2*p)=2^p*2^p by rw[<- xN];congr 1;omega]at *
   rw[nn_mul,nn_mul,nn_mul,nn_mul,qa]at a3;generalize mkRat ((rtN (q.num.natAbs*(2^p*2^p)/q.den)+1:Nat):Int) (2^p)=r at *
   generalize ((rtN (q.num.natAbs*(2^p*2^p)/q.den)+1:Nat):Rat)=R at *
   have PP:(0:Rat)<p2 p*p2 p*(q.den:Rat):=ya (ya PR PR) DR;refine le_by PP ?_;have e1:r*r*(p2 p*p2 p*(q.den:Rat))=(r*p2 p)*(r*p2 p)*(q.den:Rat):=by grind
   have e2:q*(p2 p*p2 p*(q.den:Rat))=q*(q.den:Rat)*(p2 p*p2 p):=by grind
   rw[e1,e2,m2',qn];exact a3
  ·show (mkRat ((rtN (q.num.natAbs*2^(2*p)/q.den)+1:Nat):Int) (2^p)-mkRat (rtN (q.num.natAbs*2^(2*p)/q.den):Int) (2^p))*p2 p<=1;have e : ∀a b c:Rat,(a-b)*c=a*c-b*c:=by intro a b c;grind
   rw[e,m1',m2',eS];grind
theorem root_Of {A B:Rat} {L p:Nat} (hA:0<=A) (hB:0<=B) (zA:szR A L) (zB:szR B L) (hL1:1<=L:=by omega) (hL:L<=300:=by omega) (hp:p<=512:=by omega) :
  ∃lo lo' hi' hi:Rat,Go.Ev.Fn CX 287 [ballR A B,.int .i64 (p:Int)] (.tup [ballR lo hi,.bool true])/\0<=lo/\lo<=lo'/\lo*lo<=A/\A<=lo'*lo'/\(lo'-lo)*p2 p<=1 /\
   0<=hi'/\hi'<=hi/\hi'*hi'<=B/\B<=hi*hi/\(hi-hi')*p2 p<=1/\szR lo (L+40)/\szR hi (L+40):=by
 obtain⟨a1,a2,f,g1,g2,g3,g4,g5,g6,g7⟩:=root_Sqrt (RatA_rv zA) hA hL1 hL hp;obtain⟨b1,b2,f',k1,k2,k3,k4,k5,k6,k7⟩:=root_Sqrt (RatA_rv zB) hB hL1 hL hp;refine⟨a1,a2,b1,b2,?_,g1,g2,g3,g4,g5,k1,k2,k3,k4,k5,g6,k7⟩;clear g1 g2 g3 g4 g5 k1 k2 k3 k4 k5;refine fni Tryz.f287 ?_;unfold Tryz.f287;repeat (first|simp only[go_sem,xQ]|simp (disch:=first|exact omg|fail) only[AX,xQ]|refine wki ?_|refine vfa ?_)
end Go.Proofs.YtfknkoeagjonbaaGreat
namespace Go.Ev
def piW:Nat:=16525204305188294122575967610974940178026148430521517253674428844222689879174614411560235390899801560652737794125520858649187813498260676587492720299944119139547246105762461028318293173887444219654040121887534587
def piOk2 (p:Nat):Bool:=match piF (p+64) with
 |some (lo,hi)=>pin (lo/2^64) fun a=>Nat.beq a ((hi-1)/2^64)&&(Nat.ble (a*2^(700-p)) piW&&Nat.ble piW ((a+1)*2^(700-p)))
 |none=>false
theorem pi_ok2:allFrom piOk2 241 300=true:=by kernel_rfl
def ivOk2 (w:Nat):Bool:=match piIv w with
 |some (lo,hi)=>Nat.ble (lo*2^(700-w)) piW&&Nat.ble piW (hi*2^(700-w))
 |none=>false
theorem iv_ok2:allFrom ivOk2 221 320=true:=by kernel_rfl
end Go.Ev
namespace Go.Proofs.YtfknkoeagjonbaaGreat
open Go.Ev
theorem ball_okS {lo hi:Rat} {w:Nat} (h0:0<=lo) (h1:lo<=hi) (h2:lo<=1) (h3:(hi-lo)*p2 w<=1):okS (2^w) (unN lo w) (unN hi w+1) 4:=by
 have P:=p2_pos w;have a:=unN_le h0 w;have b:=unN_le (show 0<=hi by grind) w;have c:=xA h2 (show 0<=p2 w by grind);have d:=xA h1 (show 0<=p2 w by grind);have n1:((unN lo w+1:Nat):Rat)=((unN lo w:Nat):Rat)+1:=by exact_mod_cast rfl
 have n2:((unN lo w+4:Nat):Rat)=((unN lo w:Nat):Rat)+4:=by exact_mod_cast rfl
 have n3:((unN hi w+1:Nat):Rat)=((unN hi w:Nat):Rat)+1:=by exact_mod_cast rfl
 have n4:((2^w+4:Nat):Rat)=p2 w+4:=by exact_mod_cast rfl
 refine⟨?_,?_,?_⟩
 ·have:((unN lo w:Nat):Rat)<=((unN hi w+1:Nat):Rat):=by grind
  exact_mod_cast this
 ·have:((unN hi w+1:Nat):Rat)<=((unN lo w+4:Nat):Rat):=by rw[n2,n3];grind
  exact_mod_cast this
 ·have:((unN hi w+1:Nat):Rat)<=((2^w+4:Nat):Rat):=by rw[n3,n4];grind
  exact_mod_cast this
theorem okS_mul2 {P a b c d e g:Nat} (hP:100000000<=P) (he:e<=10000) (hg:g<=10000) (h:okS P a b e) (h2:okS P c d g):okS P (a*c/P) (b*d/P+1) (2*(e+g)+2):=by
 obtain⟨h1,h3,h4⟩:=h;obtain⟨k1,k3,k4⟩:=h2;have hP0:0<P:=by omega
 have m1:=xJ h1 k1;refine⟨yZ (xg m1),?_,?_⟩
 ·have d1:=ym (a*c) P;have d2:=yG (a*c) hP0;have e1:b*d<=a*c+(e*d+b*g):=by
   have x1:b*d<=(a+e)*d:=xB d h3;have x2:a*d<=a*(c+g):=xF a k3;have x3:a*g<=b*g:=xB g h1;rw[xY]at x1;rw[xZ]at x2;omega
  have e2:e*d<=e*(2*P):=xF e (by omega);have e3:b*g<=2*P*g:=xB g (by omega);have e4:b*d<(a*c/P+(2*(e+g)+2))*P:=by
   have y1:(a*c/P+(2*(e+g)+2))*P=P*(a*c/P)+(e*(2*P)+2*P*g+2*P):=by
    rw[xY,xV _ P];congr 1;grind
   omega
  have:=(yA hP0).2 e4;omega
 ·have e1:b*d<=(P+e)*(P+g):=xJ h4 k4;have e2:(P+e)*(P+g)=P*P+(e+g)*P+e*g:=by grind
  have e3:e*g<=10000*10000:=xJ he hg;have e4:b*d<(P+(e+g)+2)*P:=by
   have:(P+(e+g)+2)*P=P*P+(e+g)*P+2*P:=by rw[xY,xY]
   omega
  have:=(yA hP0).2 e4;omega
end Go.Proofs.YtfknkoeagjonbaaGreat
namespace Go.Proofs.YtfknkoeagjonbaaGreat
open Go.Ev
theorem incb_pow {q:Rat} {n w L:Nat} (hn:n<=30) (hz:szR q L) (hL1:1<=L) (hL:L<=300) (h0:0<=q) (h1:q<=1) (hw:w<=512:=by omega) (hw0:60<=w:=by omega) :
  ∃X1 X2:Nat,∃s1 s2:Rat,Go.Ev.Fn CX 237 [.int .i64 (n:Int),rv q,.int .i64 (w:Int)] (spanV X1 X2)/\okS (2^w) X1 X2 1100/\0<=s1/\s1<=s2/\s1*s1<=q/\q<=s2*s2 /\
   ∀s,s1<=s->s<=s2->Enc w X1 X2 (pwR q (n/2)*(if n%2=1 then s else 1)):=by
 have k1:=okS_pw (A:=n/2) (w:=w) h0 h1;have pe:Enc w (pwN q (n/2) w).1 (pwN q (n/2) w).2 (pwR q (n/2)):=by
  have one:Enc w (2^w) (2^w+1) 1:=by
   refine⟨by rw[yK];exact xi,?_⟩;rw[yK];exact_mod_cast yq (2^w)
  have un:Enc w (unN q w) (unN q w+1) q:=by
   have:=unN_le h0 w;exact⟨this.1,this.2⟩
  have h:=powGo_enc 4 (n/2) _ _ _ _ (by omega) one un;rw[yK]at h;exact h
 by_cases hod:n%2=1
 ·obtain⟨lo,hi,f,g1,g2,g3,g4,g5,y1,y2⟩:=root_Sqrt (p:=w) (RatA_rv hz) h0 hL1;have lo1:lo<=1:=by
   rcases zV (a:=lo) (b:=1) with g|g
   ·exact g
   ·have a1:=xI g g1;grind
  have r:Go.Ev.Fn CX 171 [rv q,.int .i64 (w:Int)] (spanV (unN q w) (unN q w+1)):=fix_Rat hz (w:=w);obtain⟨l1,l2⟩:=unN_len1 h0 h1 (show w<=900 by omega);have p:Go.Ev.Fn CX 288 [spanV (unN q w) (unN q w+1),.int .i64 ((n/2:Nat):Int),.int .i64 (w:Int)] (spanV (pwN q (n/2) w).1 (pwN q (n/2) w).2):=fix_Power (a1:=unN q w) (a2:=unN q w+1) (n:=n/2) (w:=w) (F:=4) (by omega) (by omega) (by omega) l2;have bb:=fix_Ball (w:=w) y1 y2;have k2:=ball_okS (w:=w) g1 g2 lo1 g5;have hP:2^60<=2^w:=xE (n:=2) (by omega) hw0;have k3:=okS_mul2 (by omega) (by omega) (by omega) k1 k2
  obtain⟨a1,a2⟩:=okS_len k1 (by omega) (show w<=900 by omega);obtain⟨b1,b2⟩:=okS_len k2 (by omega) (show w<=900 by omega);have mu:=fix_Mul (a:=(pwN q (n/2) w).1) (b:=(pwN q (n/2) w).2) (c:=unN lo w) (d:=unN hi w+1) (w:=w);refine⟨_,_,lo,hi,?_,okS_mono k3,g1,g2,g3,g4,?_⟩
  ·have an:=and_one64 (a:=n);rw[hod]at an;have td:(n:Int).tdiv 2=((n/2:Nat):Int):=_root_.id rfl;clear k1 k2 k3 pe g1 g2 g3 g4 g5;generalize (pwN q (n/2) w).1*unN lo w/2^w=Z1 at *
   generalize (pwN q (n/2) w).2*(unN hi w+1)/2^w+1=Z2 at *
   generalize (pwN q (n/2) w).1=x at *
   generalize (pwN q (n/2) w).2=y at *
   generalize unN hi w+1=u2 at *
   generalize unN lo w=u1 at *
   generalize unN q w=u at *
   refine fni Tryz.f237 ?_;unfold Tryz.f237;repeat (first|simp only[go_sem,an,td]|simp (disch:=first|exact omg|fail) only[AX,an,td]|refine wki ?_|refine vpd 4 [] ?_|refine vfa ?_)
  ·intro s hs1 hs2;rw[if_pos hod];exact enc_mul pe (ball_enc g1 hs1 hs2 w)
 ·have h:=incb_power (A:=n/2) (w:=w) (by omega) hz (by omega) (unN_len1 h0 h1 (show w<=900 by omega));rw[show 2*((n/2:Nat):Int)=(n:Int) by omega]at h;refine⟨_,_,0,1,h,okS_mono k1,xi,by decide,by rw[yM];exact h0,by rw[yr];exact h1,?_⟩;intro s _ _;rw[if_neg hod,yr];exact pe
def PI0:Rat:=mkRat (piW:Int) (2^700)
theorem mk_p2n (a p:Nat):mkRat (a:Int) (2^p)*p2 p=(a:Rat):=mk_mulP (a:Int) (xM (by omega))
theorem PI0_mul:PI0*p2 700=(piW:Rat):=mk_p2n piW 700
theorem p2_plus (a b:Nat):p2 (a+b)=p2 a*p2 b:=by
 have:((2^a:Nat):Rat)*((2^b:Nat):Rat)=((2^a*2^b:Nat):Rat):=by exact_mod_cast rfl
 show ((2^(a+b):Nat):Rat)=((2^a:Nat):Rat)*((2^b:Nat):Rat)
 rw[this,xN]
theorem pi_lo {a p:Nat} (hp:p<=700) (h:a*2^(700-p)<=piW):(a:Rat)<=PI0*p2 p:=by
 refine le_by (p2_pos (700-p)) ?_;have e:PI0*p2 p*p2 (700-p)=(piW:Rat):=by
  rw[<- PI0_mul,wP,<- p2_plus,show p+(700-p)=700 by omega]
 rw[e];have e2:(a:Rat)*p2 (700-p)=((a*2^(700-p):Nat):Rat):=by exact_mod_cast rfl
 rw[e2];exact_mod_cast h
theorem pi_hi {a p:Nat} (hp:p<=700) (h:piW<=a*2^(700-p)):PI0*p2 p<=(a:Rat):=by
 refine le_by (p2_pos (700-p)) ?_;have e:PI0*p2 p*p2 (700-p)=(piW:Rat):=by
  rw[<- PI0_mul,wP,<- p2_plus,show p+(700-p)=700 by omega]
 rw[e];have e2:(a:Rat)*p2 (700-p)=((a*2^(700-p):Nat):Rat):=by exact_mod_cast rfl
 rw[e2];exact_mod_cast h
theorem arcs_Pi2 {p:Nat} (h1:300<=p) (h2:p<=512) : ∃a:Nat,Go.Ev.Fn CX 240 [.int .i64 (p:Int)] (ballR (mkRat (a:Int) (2^p)) (mkRat ((a+1:Nat):Int) (2^p)))/\(a:Rat)<=PI0*p2 p/\PI0*p2 p<=((a+1:Nat):Rat)/\2*2^p<=a/\a<=4*2^p:=by
 have h:=allFrom_at pi_ok2 p h1 (by omega);unfold piOk2 at h;split at h
 ·rename_i lo hi hpi;rw[pin_eq,xj,xj]at h;obtain⟨k1,k2,k3⟩:=h;have k1:=Nat.eq_of_beq_eq_true k1;have k2:=yC k2;have k3:=yC k3;obtain⟨f,g1,g2⟩:=arcs_pi (by omega) (by omega) hpi;have c:=fix_Certain1 (p:=p) (sp:=64) f (by omega) (by omega) (by omega) (by omega) (by omega) k1;have hh:=arcs_held (p:Int);rw[if_neg (by omega),if_neg (by omega)]at hh;have sp:2^700=2^p*2^(700-p):=by rw[<- xN];congr 1;omega
  have q0:0<2^(700-p):=xM (by omega);have z3:3*2^700<=piW:=by decide +kernel
  have z4:piW<=4*2^700:=by decide +kernel
  have b1:2*2^p<=lo/2^64:=by
   have x1:3*2^p*2^(700-p)<=(lo/2^64+1)*2^(700-p):=by rw[xP,<- sp];exact xG z3 k3
   have x2:=yw x1 q0;have x3:0<2^p:=xM (by omega);omega
  have b2:lo/2^64<=4*2^p:=by
   have x1:lo/2^64*2^(700-p)<=4*2^p*2^(700-p):=by rw[xP 4,<- sp];exact xG k2 z4
   exact yw x1 q0
  refine⟨lo/2^64,?_,pi_lo (by omega) k2,pi_hi (by omega) k3,b1,b2⟩;clear k2 k3 f hpi b1 b2 sp z3 z4;generalize mkRat ((lo/2^64:Nat):Int) (2^p)=q1 at *
  generalize mkRat ((lo/2^64+1:Nat):Int) (2^p)=q2 at *
  refine fni Tryz.f240 ?_;unfold Tryz.f240;repeat (first|simp only[go_sem]|simp (disch:=first|exact omg|fail) only[AX]|refine wki ?_|refine vfa ?_)
 ·cases h
theorem inv_gap {P a:Nat} (hP:4<=P) (ha:2*P<=a):okS P (P*P/(a+2)) (P*P/a+1) 3:=by
 have u1:P*P/(a+2)<=P/2:=by
  rw[yR (by omega)];have h1:2*(P*P)<=(P)*(a+2):=by
   have:=xF P (show 2*P<=a+2 by omega);rw[yn]at this;exact this
  have h2:P*(a+2)<=(2*(P/2)+1)*(a+2):=xB _ (by omega);have h3:(2*(P/2)+1)*(a+2)=2*(P/2*(a+2))+(a+2):=by rw[xY,xP,xe]
  omega
 have d1:=ym (P*P) (a+2);have d2:=yG (P*P) (show 0<a+2 by omega);generalize hu:P*P/(a+2)=u at *
 have v1:P*P/a<=u+2:=by
  refine Nat.le_of_lt_succ ((yA (by omega)).2 ?_);have e1:(a+2)*u=a*u+2*u:=xY _ _ _;have e2:(u+2).succ*a=a*u+3*a:=by
   rw[show (u+2).succ=u+3 by omega,xY,xV u a]
  omega
 refine⟨?_,by omega,by omega⟩;have:=Nat.div_le_div_left (show a<=a+2 by omega) (show 0<a by omega) (a:=P*P);omega
end Go.Proofs.YtfknkoeagjonbaaGreat
namespace Go.Proofs.YtfknkoeagjonbaaGreat
open Go.Ev
theorem gap_mul {P U1 U2 i1 i2 g T:Nat} (hP:4<=P) (h1:U1<=U2) (h2:U2<=U1+g) (h3:U2<=T*P) (h:okS P i1 i2 3):U1*i1/P<=U2*i2/P+1/\U2*i2/P+1<=U1*i1/P+(2*g+3*T+3)/\U2*i2/P+1<=2*(T*P)+1:=by
 obtain⟨k1,k2,k3⟩:=h;have hP0:0<P:=by omega
 refine⟨yZ (xg (xJ h1 k1)),?_,?_⟩
 ·have d1:=ym (U1*i1) P;have d2:=yG (U1*i1) hP0;have e1:U2*i2<=U1*i1+(g*i2+U2*3):=by
   have x1:U2*i2<=(U1+g)*i2:=xB i2 h2;have x2:U1*i2<=U1*(i1+3):=xF U1 k2;rw[xY]at x1;rw[xZ]at x2;omega
  have e2:g*i2<=g*(2*P):=xF g (by omega);have e4:U2*i2<(U1*i1/P+(2*g+3*T+1))*P:=by
   have y1:(U1*i1/P+(2*g+3*T+1))*P=P*(U1*i1/P)+(g*(2*P)+3*(T*P)+P):=by
    rw[xY,xV _ P];congr 1;grind
   omega
  have:=(yA hP0).2 e4;omega
 ·have e1:U2*i2<=U2*(2*P):=xF _ (by omega);have e2:U2*(2*P)<=T*P*(2*P):=xB _ h3;have e3:T*P*(2*P)=2*(T*P)*P:=by grind
  have:U2*i2/P<=2*(T*P):=Nat.div_le_of_le_mul (by rw[xV P];omega);omega
theorem unN_exact (A w:Nat):unN (mkRat (A:Int) (2^w)) w=A:=by
 have y1:=mk_p2n A w;have PW:=p2_pos w;have m0:0<=mkRat (A:Int) (2^w):=le_by PW (by rw[y1,yM];exact nat_nonneg A);generalize mkRat (A:Int) (2^w)=q at *
 have h:=num_den q;have h2:((q.num.natAbs:Nat):Rat)=(q.num:Rat):=by
  have:(q.num.natAbs:Int)=q.num:=wb (zP.2 m0);rw[<- this];rfl
 have e:((q.num.natAbs*2^w:Nat):Rat)=((A*q.den:Nat):Rat):=by
  have c1:((q.num.natAbs*2^w:Nat):Rat)=((q.num.natAbs:Nat):Rat)*p2 w:=by exact_mod_cast rfl
  have c2:((A*q.den:Nat):Rat)=(A:Rat)*(q.den:Rat):=by exact_mod_cast rfl
  rw[c1,c2,h2,<- h,<- y1];grind
 have e2:q.num.natAbs*2^w=A*q.den:=by exact_mod_cast e
 show q.num.natAbs*2^w/q.den=A;rw[e2,Nat.mul_div_cancel _ q.den_pos]
def betOk (a b:Nat):Bool:=Nat.ble ((beta2 a b).den*2) (1048576*((beta2 a b).num.natAbs*a))&&Nat.ble 1 (beta2 a b).num.natAbs
theorem bets_ok:(List.range 22).all (fun a=>(List.range 22).all fun b=>betOk (a+1) (b+1))=true:=by decide +kernel
theorem bet_ok {a b:Nat} (h1:1<=a) (h2:1<=b) (h3:a<=22:=by omega) (h4:b<=22:=by omega):(beta2 a b).den*2<=1048576*((beta2 a b).num.natAbs*a)/\0<(beta2 a b).num.natAbs*a:=by
 have h:=wA.1 bets_ok (a-1) (zW.2 (by omega));have h':=wA.1 h (b-1) (zW.2 (by omega));rw[show a-1+1=a by omega,show b-1+1=b by omega]at h';unfold betOk at h';rw[xj]at h';exact⟨yC h'.1,zI (yC h'.2) (by omega)⟩
def fstR (a b:Nat) (x sx sy:Rat):Rat:=
 (pwR x (a/2)*(if a%2=1 then sx else 1))*(pwR (1-x) (b/2)*(if b%2=1 then sy else 1))*(((beta2 a b).den*2:Nat):Rat)/(((beta2 a b).num.natAbs*a:Nat):Rat)*(if a%2*(b%2)=1 then 1/PI0 else 1)
set_option maxHeartbeats 1000000 in
theorem incb_fst {x:Rat} {a b w L:Nat} (ha:1<=a) (ha2:a<=22) (hb:1<=b) (hb2:b<=22) (hz:szR x L) (hL1:1<=L) (hL:L<=260) (h0:0<=x) (h1:x<=1) (hw0:300<=w:=by omega) (hw:w<=512:=by omega) :
  ∃F1 F2:Nat,∃p1 p2' q1 q2:Rat,Go.Ev.Fn CX 172 [.int .i64 (a:Int),.int .i64 (b:Int),rv x,.int .i64 (w:Int)] (spanV F1 F2)/\F1<=F2/\F2<=F1+2^45/\F2<=2^(w+25) /\
   p1<=p2'/\0<=p1/\p1*p1<=x/\x<=p2'*p2'/\q1<=q2/\0<=q1/\q1*q1<=1-x/\1-x<=q2*q2 /\
   ∀sx sy,p1<=sx->sx<=p2'->q1<=sy->sy<=q2->Enc w F1 F2 (fstR a b x sx sy):=by
 have one1:szR 1 1:=⟨lim_len_lt (by decide +kernel),lim_len_lt (by decide +kernel)⟩
 have zy:=szR_sub one1 hz;obtain⟨X1,X2,p1,p2',f1,k1,a0,a1,a2,a3,ex⟩:=incb_pow (n:=a) (w:=w) (by omega) hz hL1 (by omega) h0 h1;obtain⟨Y1,Y2,q1,q2,f2,k2,b0,b1,b2,b3,ey⟩:=incb_pow (n:=b) (w:=w) (by omega) zy (by omega) (by omega) (show 0<=1-x by clear f1 k1 ex;grind) (show 1-x<=1 by clear f1 k1 ex;grind);have i1:=rat_Int 1;have sb:=rat_Sub (RatA_rv one1) (RatA_rv hz) (by omega) hL1;rw[show ((1:Int):Rat)=1 from rfl]at i1;have hP:2^60<=2^w:=xE (n:=2) (by omega) (by omega);obtain⟨lx1,lx2⟩:=okS_len k1 (by omega) (show w<=900 by omega);obtain⟨ly1,ly2⟩:=okS_len k2 (by omega) (show w<=900 by omega)
 have mu:=fix_Mul (a:=X1) (b:=X2) (c:=Y1) (d:=Y2) (w:=w);have k3:=okS_mul2 (by omega) (by omega) (by omega) k1 k2;have em:=fun sx sy (u1:p1<=sx) (u2:sx<=p2') (v1:q1<=sy) (v2:sy<=q2)=>enc_mul (ex sx u1 u2) (ey sy v1 v2)
 generalize X1*Y1/2^w=M1 at *
 generalize X2*Y2/2^w+1=M2 at *
 obtain⟨lm1,lm2⟩:=okS_len k3 (by omega) (show w<=900 by omega);have be:=gam_Beta a b ha (by omega) hb;obtain⟨c1,c2⟩:=bet_ok ha hb ha2 hb2;obtain⟨z1,z2⟩:=beta2_size (a:=a) (b:=b);have o2:=nat_Of 2;have oa:=nat_Of a;have l2:(lim 2).length<=1:=lim_len_one (by decide);have la:(lim a).length<=1:=lim_len_one;have m1:=nat_MulL (N:=(beta2 a b).den) (D:=2);have m2:=nat_MulL (N:=(beta2 a b).num.natAbs) (D:=a);have ln1:=lim_len_mul (a:=(beta2 a b).den) (b:=2);have ln2:=lim_len_mul (a:=(beta2 a b).num.natAbs) (b:=a);have ti:=fix_Times (a:=M1) (b:=M2) (n:=(beta2 a b).den*2) (d:=(beta2 a b).num.natAbs*a)
 have et:=fun sx sy (u1:p1<=sx) (u2:sx<=p2') (v1:q1<=sy) (v2:sy<=q2)=>enc_times (n:=(beta2 a b).den*2) (d:=(beta2 a b).num.natAbs*a) c2 (em sx sy u1 u2 v1 v2)
 have gs:=quo_sub (n:=(beta2 a b).den*2) (m:=(beta2 a b).num.natAbs*a) k3.1 c2;have gq:=quo_le (v:=M2-M1) (n:=(beta2 a b).den*2) (m:=(beta2 a b).num.natAbs*a) (c:=1048576) (d:=1) c2;have gr:=quo_le (v:=M2) (n:=(beta2 a b).den*2) (m:=(beta2 a b).num.natAbs*a) (c:=1048576) (d:=1) c2;have gm:M1*((beta2 a b).den*2)/((beta2 a b).num.natAbs*a)<=M2*((beta2 a b).den*2)/((beta2 a b).num.natAbs*a):=xg (xB _ k3.1);have k31:=k3.1;have k32:=k3.2.1;have k33:=k3.2.2;have hw25:2^(w+25)=2^w*33554432:=by rw[xN]
 unfold fstR;generalize hb2':beta2 a b=be2 at *
 generalize hn2:be2.den*2=D2 at *
 generalize hd2:be2.num.natAbs*a=N2 at *
 generalize M1*D2/N2=U1 at *
 generalize hU2:M2*D2/N2+1=U2 at *
 have gap:U2<=U1+8589934592:=by omega
 have top:U2<=2097152*2^w:=by omega
 have hw46:2^(w+22)=2097152*2*2^w:=by rw[xN,xV]
 have lu2:=lim_len_p2 (n:=U2) (w:=w+22);have lu1:=lim_len_mono (show U1<=U2 by omega);by_cases hpi:a%2*(b%2)=1
 ·obtain⟨A,fp,g1,g2,g3,g4⟩:=arcs_Pi2 (p:=w) hw0 hw;generalize PI0=W0 at *
  have u1:=unN_exact A w;have u2:=unN_exact (A+1) w;have sA:szR (mkRat (A:Int) (2^w)) 45/\szR (mkRat ((A+1:Nat):Int) (2^w)) 45:=by
   have hb3:2^(w+3)=8*2^w:=by rw[xN,xV]
   have x1:=lim_len_p2 (n:=A) (w:=w+3);have x2:=lim_len_p2 (n:=A+1) (w:=w+3);have x3:=lim_len_p2 (n:=2^w) (w:=w) (xU _);exact⟨szR_nat,szR_nat⟩
  have bl:=fix_Ball (w:=w) sA.1 sA.2;rw[u1,u2]at bl;have hb3:2^(w+3)=8*2^w:=by rw[xN,xV]
  have x1:=lim_len_p2 (n:=A) (w:=w+3);have x2:=lim_len_p2 (n:=A+1+1) (w:=w+3);have iv:=fix_Inverse (a:=A) (b:=A+1+1) (w:=w);have pp:2^(2*w)=2^w*2^w:=by rw[<- xN,show 2*w=w+w by omega]
  have ig:=inv_gap (P:=2^w) (a:=A) (by omega) g3;have ePi:Enc w A (A+1+1) W0:=⟨g1,xO g2 (nat_le_rat (yq (A+1)))⟩
  have ei:=(enc_inv (show 0<A by omega) ePi).1;rw[pp]at iv ei;rw[show A+2=A+1+1 from rfl]at ig;obtain⟨t1,t2,t3⟩:=gap_mul (T:=2097152) (g:=8589934592) (by omega) (show U1<=U2 by omega) gap top ig;obtain⟨li1,li2⟩:=okS_len ig (by omega) (show w<=900 by omega);have mu2:=fix_Mul (a:=U1) (b:=U2) (c:=2^w*2^w/(A+1+1)) (d:=2^w*2^w/A+1) (w:=w);have ef:=fun sx sy (u1:p1<=sx) (u2:sx<=p2') (v1:q1<=sy) (v2:sy<=q2)=>enc_mul (et sx sy u1 u2 v1 v2) ei
  have be':Go.Ev.Fn CX 238 [.int .i64 (a:Int),.int .i64 (b:Int)] (.tup [rv be2,.int .i64 1,.bool true]):=by
   rw[hpi]at be;exact be
  refine⟨U1*(2^w*2^w/(A+1+1))/2^w,U2*(2^w*2^w/A+1)/2^w+1,p1,p2',q1,q2,?_,t1,by omega,by omega,a1,a0,a2,a3,b1,b0,b2,b3,?_⟩
  ·clear ex ey em et be ef ei ePi g1 g2 t1 t2 t3 ig;generalize U1*(2^w*2^w/(A+1+1))/2^w=W1 at *
   generalize U2*(2^w*2^w/A+1)/2^w+1=W2 at *
   generalize 2^w*2^w/(A+1+1)=I1 at *
   generalize 2^w*2^w/A+1=I2 at *
   generalize mkRat (A:Int) (2^w)=r1 at *
   generalize mkRat ((A+1:Nat):Int) (2^w)=r2 at *
   generalize 1-x=y at *
   refine fni Tryz.f172 ?_;unfold Tryz.f172;repeat (first|simp only[go_sem]|simp (disch:=first|exact omg|fail) only[AX]|refine wki ?_|refine vpd 1 [] ?_|refine vpd 3 [34,35,38,41,36,42] ?_|refine vpd 5 [] ?_|refine vfa ?_)
  ·intro sx sy v1 v2 v3 v4;rw[if_pos hpi];exact ef sx sy v1 v2 v3 v4
 ·have be':Go.Ev.Fn CX 238 [.int .i64 (a:Int),.int .i64 (b:Int)] (.tup [rv be2,.int .i64 0,.bool true]):=by
   have:a%2*(b%2)=0:=by
    have x1:a%2<=1:=by omega
    have x2:b%2<=1:=by omega
    have:=xJ x1 x2;omega
   rw[this]at be;exact be
  refine⟨U1,U2,p1,p2',q1,q2,?_,by omega,by omega,by omega,a1,a0,a2,a3,b1,b0,b2,b3,?_⟩
  ·clear ex ey em et be;generalize 1-x=y at *
   refine fni Tryz.f172 ?_;unfold Tryz.f172;repeat (first|simp only[go_sem]|simp (disch:=first|exact omg|fail) only[AX]|refine wki ?_|refine vpd 1 [] ?_|refine vpd 3 [34,35,38,41,36,42] ?_|refine vpd 5 [] ?_|refine vfa ?_)
  ·intro sx sy v1 v2 v3 v4;rw[if_neg hpi,yr];exact et sx sy v1 v2 v3 v4
end Go.Proofs.YtfknkoeagjonbaaGreat
namespace Go.Proofs.YtfknkoeagjonbaaGreat
open Go.Ev
section
variable {x:Rat} {a b w F1 F2:Nat}
theorem half_units (h0:0<=x) (h1:x+x<=1):2*unN x w<=2^w:=by
 have h2:2*x.num.natAbs<=x.den:=by
  have:=num_den x;have d0:(0:Rat)<(x.den:Rat):=by exact_mod_cast x.den_pos
  have h3:=xA h1 (show (0:Rat)<=(x.den:Rat) by grind);have h4:(x.num:Rat)+(x.num:Rat)<=(x.den:Rat):=by grind
  have h5:((x.num+x.num:Int):Rat)<=(((x.den:Nat):Int):Rat):=by rw[Rat.intCast_add];exact h4
  have h6:=wF.1 h5;have h7:=zP.2 h0;omega
 have h3:=wk (x.num.natAbs*2^w) x.den;have h4:=xB (2^w) h2;have h5:2*unN x w*x.den<=2^w*x.den:=by
  have e1:2*unN x w*x.den=2*(x.num.natAbs*2^w/x.den*x.den):=by rw[xP]
  have e2:2*x.num.natAbs*2^w=2*(x.num.natAbs*2^w):=by rw[xP]
  rw[xV (2^w)];omega
 exact yw h5 x.den_pos
theorem fst_ok (h1:F1<=F2) (h2:F2<=F1+2^45) (h3:F2<=2^(w+25)):okK w b (2^(w+25)) (2^75) 0 F1 F2 F1 F2:=by
 unfold okK;rw[Nat.zero_min,yk,xe,xe];refine⟨?_,?_,?_,?_,?_,?_⟩<;>omega
theorem rowC_le (hb2:b<=22):4^b*2^(w+25)<=2^69*2^w/\4^b*2^75<=2^119:=by
 have h40:4^b<=4^22:=xE (by omega) hb2;have hp:2^(w+25)=2^25*2^w:=by rw[xN,xV]
 constructor
 ·rw[hp,<- xP];exact xB _ (xG (xB _ h40) (by decide))
 ·exact xG (xB _ h40) (by decide)
theorem rowh_ends (ha:1<=a) (hb2:b<=22) (h0:0<=x) (h1:x+x<=1) (hw0:60<=w) (hw:w<=540) (g1:F1<=F2) (g2:F2<=F1+2^45) (g3:F2<=2^(w+25)) : ∃A B K,rowGo w (unN x w) (unN x w+1) a b 2201 0 F1 F2 F1 F2=some (A,B,K):=by
 have hP:2^60<=2^w:=xE (n:=2) (by omega) hw0;have hy:=half_units (w:=w) h0 h1;have ok:=fst_ok (b:=b) g1 g2 g3;unfold okK at ok;rw[Nat.zero_min,yk,xe,xe]at ok;have hC:=(rowC_le (w:=w) hb2).1;have hp:2^(w+25)=2^w*33554432:=by rw[xN]
 have hF:4^2000*(4^b*2^(w+25))<8*5^2000:=by
  obtain⟨E,hE⟩ : ∃E:Nat,E=620:=⟨_,rfl⟩
  have h49:2^69*2^w<=2^E:=by rw[<- xN];exact xE (by omega) (by omega)
  obtain⟨N4,hN4⟩ : ∃N,N=4^2000:=⟨_,rfl⟩
  obtain⟨N5,hN5⟩ : ∃N,N=5^2000:=⟨_,rfl⟩
  rw[<- hN4,<- hN5];have hk:N4*2^E<8*N5:=by rw[hN4,hN5,hE];decide +kernel
  exact yX (xF _ (xG hC h49)) hk
 exact row_early (a:=a) (b:=b) (F:=2000) (C:=2^69) (by omega) rfl hy ha hb2 b 0 _ _ _ _ _ _ (by omega) (by omega) hC (by decide) hF ok
theorem rowh_bd {A B K:Nat} (ha:1<=a) (hb2:b<=22) (h0:0<=x) (h1:x+x<=1) (hw0:60<=w) (g1:F1<=F2) (g2:F2<=F1+2^45) (g3:F2<=2^(w+25))
  (hg:rowGo w (unN x w) (unN x w+1) a b 2201 0 F1 F2 F1 F2=some (A,B,K)):A<=B/\B<=A+2^131/\B<=2^(w+81):=by
 have hP:2^60<=2^w:=xE (n:=2) (by omega) hw0;have hp:2^(w+25)=2^w*33554432:=by rw[xN]
 obtain⟨hC,hD⟩:=rowC_le (w:=w) hb2;obtain⟨i1,i2,i3,i4⟩:=row_inv (a:=a) (b:=b) (C:=2^69) (by omega) rfl (half_units (w:=w) h0 h1) ha hb2 (by omega) hC (by decide) 2201 0 _ _ _ _ hg (fst_ok g1 g2 g3);have b1:(K+1)*(4^b*2^75)<=2201*2^119:=xJ (by omega) hD;have b2:(K+1)*(4^b*2^(w+25))<=2201*(2^69*2^w):=xJ (by omega) hC;have b3:2^(w+81)=4096*(2^69*2^w):=by rw[show w+81=12+(69+w) by omega,xN 2 12,xN 2 69]
 have b4:64<=2^69*2^w:=xG (by decide) (yg (2^69) (by omega));omega
set_option maxHeartbeats 1000000 in
theorem incb_rowh {L A' B' K:Nat} (ha:1<=a) (ha2:a<=22) (hb:1<=b) (hb2:b<=22) (hz:szR x L) (hL:L<=300) (h0:0<=x) (h1:x+x<=1) (hw0:60<=w) (hw:w<=540)
  (fi:Go.Ev.Fn CX 172 [.int .i64 (a:Int),.int .i64 (b:Int),rv x,.int .i64 (w:Int)] (spanV F1 F2)) (g1:F1<=F2) (g2:F2<=F1+2^45) (g3:F2<=2^(w+25))
  (hg:rowGo w (unN x w) (unN x w+1) a b 2201 0 F1 F2 F1 F2=some (A',B',K)) :
  Go.Ev.Fn CX 111 [.int .i64 (a:Int),.int .i64 (b:Int),rv x,.int .i64 (w:Int)] (spanV A' B'):=by
 have hP:2^60<=2^w:=xE (n:=2) (by omega) hw0;have hp25:2^(w+25)=2^w*33554432:=by rw[xN]
 have hy:=half_units (w:=w) h0 h1;have r:Go.Ev.Fn CX 171 [rv x,.int .i64 (w:Int)] (spanV (unN x w) (unN x w+1)):=fix_Rat hz (w:=w);obtain⟨ly1,ly2⟩:=unN_len1 h0 (show x<=1 by clear r hy;grind) (show w<=900 by omega);have ok:=fst_ok (b:=b) g1 g2 g3;have hC:=(rowC_le (w:=w) hb2).1;have e65:2^(w+69)=2^69*2^w:=by rw[xN,xV]
 have step:=fun (k t1 t2 a1 a2:Nat) (h:okK w b (2^(w+25)) (2^75) k t1 t2 a1 a2)=>okK_step (a:=a) (y1:=unN x w) (y2:=unN x w+1) (C:=2^69) (by omega) rfl hy ha hb2 (by omega) hC (by decide) h
 have lens:=fun (k t1 t2 a1 a2:Nat) (hk:k<=2201) (h:okK w b (2^(w+25)) (2^75) k t1 t2 a1 a2)=>(show (lim t1).length<=40/\(lim t2).length<=40/\(lim a1).length<=40/\(lim a2).length<=40 from by
  obtain⟨q1,q2,q3,q4,q5,q6⟩:=h;have f:=(four_le (k:=k) (b:=b) (T:=2^(w+25))).2;have b1:(k+1)*(4^min k b*2^(w+25))<=4096*2^(w+69):=xJ (by omega) (xG f (by rw[e65];exact hC));have b2:4096*2^(w+69)=2^(w+81):=by rw[show w+81=12+(w+69) by omega,xN 2 12]
  have b3:2^(w+69)<=2^(w+81):=xE (by omega) (by omega);have b5:4^min k b*2^(w+25)<=2^(w+69):=xG f (by rw[e65];exact hC);exact⟨lim_len_p2 (w:=w+81),lim_len_p2 (w:=w+81),lim_len_p2 (w:=w+81),lim_len_p2 (w:=w+81)⟩)
 generalize unN x w=y1 at *
 clear hz h0 h1;refine fni Tryz.f111 ?_;unfold Tryz.f111;repeat (first|simp only[go_sem]|simp (disch:=first|exact omg|fail) only[AX]|refine wki ?_|refine vfa ?_)
 refine vp_loop_inv (fun s=>s.tmp 0 = .sv (.int .i64 (a:Int))/\s.tmp 1 = .sv (.int .i64 (b:Int))/\s.tmp 3 = .sv (.int .i64 (w:Int))/\s.tmp 8 = .ptr 8 0 0/\s.obj 8 0=some [.sl 0 [],.sl 0 []]/\s.tmp 9 = .ptr 9 0 0/\s.obj 9 0=some [natV (lim y1),natV (lim (y1+1))]/\s.tmp 10 = .ptr 10 0 0/\s.tmp 11 = .ptr 11 0 0 /\
   ∃f k t1 t2 a1 a2:Nat,s.tmp 12 = .sv (.int .i64 (k:Int))/\f+k=2201/\rowGo w y1 (y1+1) a b f k t1 t2 a1 a2=some (A',B',K)/\s.obj 10 0=some [natV (lim t1),natV (lim t2)]/\s.obj 11 0=some [natV (lim a1),natV (lim a2)] /\
    okK w b (2^(w+25)) (2^75) k t1 t2 a1 a2)
  (fun s=>match s.tmp 12 with | .sv (.int _ i)=>2202-i.toNat|_=>0) ⟨rfl,rfl,rfl,rfl,rfl,rfl,rfl,rfl,rfl,2201,0,F1,F2,F1,F2,rfl,rfl,hg,rfl,rfl,ok⟩ ?_
 rintro s ⟨i0,i1,i3,i8,o8,i9,o9,i10,i11,f,k,t1,t2,a1,a2,i12,hfk,hgo,o10,o11,hok⟩
 obtain⟨lt1,lt2,la1,la2⟩:=lens k t1 t2 a1 a2 (by omega) hok;have st:=step k t1 t2 a1 a2 hok;have sm:=fix_Small (a:=t1) (b:=t2) (k:=3);clear hP hp25 e65 hC g1 g2 g3;cases f with
 |zero=>simp only[rowGo]at hgo;cases hgo
 |succ f=>
  rw[rowGo]at hgo;by_cases hs:b<=k/\t2<8
  ·rw[if_pos hs]at hgo;simp only[Option.some.injEq,Prod.mk.injEq]at hgo;obtain⟨rfl,rfl,rfl⟩:=hgo;rw[decide_eq_true (show t2<2^3 from hs.2)]at sm;have hs1:=hs.1;have wd:=fix_Wider (a:=a1) (b:=a2) (n:=64);clear step lens st hs hg;repeat (first|simp only[go_sem,i0,i1,i3,i8,o8,i9,o9,i10,i11,i12,o10,o11,xQ]|simp (disch:=first|exact omg|fail) only[AX,i0,i1,i3,i8,o8,i9,o9,i10,i11,i12,o10,o11,xQ]|refine wki ?_|refine vfa ?_)
  ·rw[if_neg hs]at hgo;obtain⟨lu1,lu2,lb1,lb2⟩:=lens (k+1) _ _ _ _ (by omega) st;have mu:=fix_Mul (a:=t1) (b:=t2) (c:=y1) (d:=y1+1) (w:=w);have q1:=nat_Of (a+b+2*k);have q2:=nat_Of (a+2+2*k);have lq1:(lim (a+b+2*k)).length<=1:=lim_len_one;have lq2:(lim (a+2+2*k)).length<=1:=lim_len_one;have z1:=lim_len_mul (a:=t1) (b:=y1);have z2:=lim_len_mul (a:=t2) (b:=y1+1);have z3:=lim_len_mono (xt (t1*y1) (2^w));have l1:=lim_len1;have z4:=lim_len_add (a:=t2*(y1+1)/2^w) (b:=1) (L:=200) (xG (lim_len_mono (xt (t2*(y1+1)) (2^w))) (by omega))
   have ti:=fix_Times (a:=t1*y1/2^w) (b:=t2*(y1+1)/2^w+1) (n:=a+b+2*k) (d:=a+2+2*k);rw[show ((a+b+2*k:Nat):Int)=(a:Int)+(b:Int)+2*(k:Int) by omega]at q1;rw[show ((a+2+2*k:Nat):Int)=(a:Int)+2+2*(k:Int) by omega]at q2;generalize t1*y1/2^w*(a+b+2*k)/(a+2+2*k)=u1 at *
   generalize (t2*(y1+1)/2^w+1)*(a+b+2*k)/(a+2+2*k)+1=u2 at *
   generalize t1*y1/2^w=v1 at *
   generalize t2*(y1+1)/2^w+1=v2 at *
   have ad:=fix_Add (a:=a1) (b:=a2) (c:=u1) (d:=u2);clear step lens hg;by_cases hk:b<=k
   ·rw[decide_eq_false (show ¬t2<2^3 from fun h=>hs ⟨hk,h⟩)]at sm;repeat (first|simp only[go_sem,i0,i1,i3,i8,o8,i9,o9,i10,i11,i12,o10,o11,xn]|simp (disch:=first|exact omg|fail) only[AX,i0,i1,i3,i8,o8,i9,o9,i10,i11,i12,o10,o11,xn]|refine wki ?_|refine vfa ?_)
    exact⟨⟨f,k+1,u1,u2,a1+u1,a2+u2,rfl,by omega,hgo,rfl,rfl,st⟩,by omega⟩
   ·repeat (first|simp only[go_sem,i0,i1,i3,i8,o8,i9,o9,i10,i11,i12,o10,o11]|simp (disch:=first|exact omg|fail) only[AX,i0,i1,i3,i8,o8,i9,o9,i10,i11,i12,o10,o11]|refine wki ?_)
    repeat (first|simp only[go_sem,i0,i1,i3,i8,o8,i9,o9,i10,i11,i12,o10,o11]|simp (disch:=first|exact omg|fail) only[AX,i0,i1,i3,i8,o8,i9,o9,i10,i11,i12,o10,o11]|refine wki ?_|refine vfa ?_)
    exact⟨⟨f,k+1,u1,u2,a1+u1,a2+u2,rfl,by omega,hgo,rfl,rfl,st⟩,by omega⟩
end
end Go.Proofs.YtfknkoeagjonbaaGreat
namespace Go.Proofs.YtfknkoeagjonbaaGreat
open Go.Ev
theorem num_den' (q:Rat):q*(q.den:Rat)=(q.num:Rat):=by
 have h:mkRat q.num q.den*(q.den:Rat)=(q.num:Rat):=by
  rw[Rat.mkRat_eq_div];refine yD ?_;have:(0:Rat)<(q.den:Rat):=by exact_mod_cast q.den_pos
  grind
 rwa [wh]at h
section
variable {x:Rat} {A B w:Nat}
end
end Go.Proofs.YtfknkoeagjonbaaGreat
namespace Go.Proofs.YtfknkoeagjonbaaGreat
open Go.Ev
section
variable {x y:Rat}
end
section
variable {x:Rat} {A B w:Nat}
theorem un_enc {q:Rat} (h0:0<=q) (w:Nat):Enc w (unN q w) (unN q w+1) q:=by
 have D:(0:Rat)<(q.den:Rat):=by exact_mod_cast q.den_pos
 have f:=floor_le (a:=q.num.natAbs*2^w) (d:=q.den);have g:=le_floor (a:=q.num.natAbs*2^w) (d:=q.den) q.den_pos;have e:((q.num.natAbs*2^w:Nat):Rat)=q*p2 w*(q.den:Rat):=by
  rw[cm];have h:=num_den' q;have h2:((q.num.natAbs:Nat):Rat)=(q.num:Rat):=by
   have:(q.num.natAbs:Int)=q.num:=wb (zP.2 h0);rw[<- this];rfl
  rw[h2,<- h];show q*(q.den:Rat)*p2 w=_;grind
 rw[e]at f g;exact⟨le_by D f,le_by D g⟩
end
end Go.Proofs.YtfknkoeagjonbaaGreat
namespace Go.Proofs.YtfknkoeagjonbaaGreat
open Go.Ev
theorem slices_Equal (a b:List Nat) (ha:a.length<=274877906944:=by omega) (hb:b.length<=274877906944:=by omega):Go.Ev.Fn CX 167 [natV a,natV b] (.bool (decide (a=b))):=by
 refine fni Tryz.f167 ?_;unfold Tryz.f167;by_cases hl:a.length=b.length
 ·repeat (first|simp only[go_sem]|simp (disch:=first|exact omg|fail) only[AX]|refine wki ?_|refine vpd 6 [] ?_)
  refine vp_loop_inv (fun s=>s.tmp 0 = .sv (natV a)/\s.tmp 1 = .sv (natV b)/\s.tmp 12 = .sv (.int .i64 (a.length:Int)) /\ ∃i:Nat,s.tmp 13 = .sv (.int .i64 i)/\i<=a.length/\a.take i=b.take i) (fun s=>match s.tmp 13 with | .sv (.int _ i)=>a.length-i.toNat|_=>0) ⟨rfl,rfl,rfl,0,rfl,by omega,rfl⟩ ?_;rintro s ⟨i0,i1,i12,i,i13,hi,ht⟩
  by_cases hend:i=a.length
  ·subst hend;rw[yV,hl,yV]at ht;rw[decide_eq_true ht];repeat (first|simp only[go_sem,i0,i1,i12,i13]|simp (disch:=first|exact omg|fail) only[AX,i0,i1,i12,i13]|refine wki ?_|refine vpd 6 [] ?_)
  ·have e : ∀c:List Nat,i<c.length->c.take (i+1)=c.take i++[c.getD i 0]:=by
    intro c hc;rw[wC,xC,xD hc];rfl
   by_cases hx:a.getD i 0=b.getD i 0
   ·repeat (first|simp only[go_sem,i0,i1,i12,i13]|simp (disch:=first|exact omg|fail) only[AX,i0,i1,i12,i13]|refine wki ?_|refine vpd 6 [] ?_)
    exact⟨⟨i+1,rfl,by omega,by rw[e a (by omega),e b (by omega),ht,hx]⟩,by omega⟩
   ·rw[decide_eq_false (fun h=>hx (by rw[h]))];repeat (first|simp only[go_sem,i0,i1,i12,i13]|simp (disch:=first|exact omg|fail) only[AX,i0,i1,i12,i13]|refine wki ?_|refine vpd 6 [] ?_)
 ·rw[decide_eq_false (fun h=>hl (by rw[h]))];repeat (first|simp only[go_sem]|simp (disch:=first|exact omg|fail) only[AX]|refine wki ?_|refine vpd 6 [] ?_)
theorem rat_Same {v w:SV} {q r:Rat} {L M:Nat} (hv:RatA v q L) (hw:RatA w r M) (hL:1<=L) (hM:1<=M:=by omega) (h:L+M<=8388608:=by omega):Go.Ev.Fn CX 109 [v,w] (.bool (decide (q=r))):=by
 have hnv:=rat_Norm hv;have hnw:=rat_Norm hw;obtain⟨z1,z2⟩:=szR_of hv hL;obtain⟨y1,y2⟩:=szR_of hw hM;have l1:=slices_Equal (lim q.num.natAbs) (lim r.num.natAbs);have l2:=slices_Equal (lim q.den) (lim r.den);have hbb:=beq_bool (decide (q.num<0)) (decide (r.num<0));obtain⟨s,n,d,rfl,-⟩:=hv;obtain⟨s',n',d',rfl,-⟩:=hw;refine fni Tryz.f109 ?_;unfold Tryz.f109;repeat (first|simp only[go_sem,hbb]|simp (disch:=first|exact omg|fail) only[AX,hbb]|refine wki ?_|refine vpd 1 [] ?_|refine vfa ?_)
 by_cases h1:decide (q.num<0)=decide (r.num<0)
 ·rw[decide_eq_true h1];by_cases h2:lim q.num.natAbs=lim r.num.natAbs
  ·rw[decide_eq_true h2]at l1;repeat (first|simp only[go_sem]|simp (disch:=first|exact omg|fail) only[AX]|refine wki ?_|refine vpd 1 [] ?_)
   have e:decide (lim q.den=lim r.den)=decide (q=r):=by
    by_cases h3:lim q.den=lim r.den
    ·rw[decide_eq_true h3,decide_eq_true (rv_eq h1 h2 h3)]
    ·rw[decide_eq_false h3,decide_eq_false (fun e=>h3 (by rw[e]))]
   rw[e]at l2;repeat (first|simp only[go_sem]|simp (disch:=first|exact omg|fail) only[AX]|refine wki ?_|refine vpd 1 [] ?_|refine vfa ?_)
  ·rw[decide_eq_false h2]at l1;have hne:q≠r:=fun e=>h2 (by rw[e])
   rw[decide_eq_false hne];repeat (first|simp only[go_sem]|simp (disch:=first|exact omg|fail) only[AX]|refine wki ?_|refine vpd 1 [] ?_|refine vfa ?_)
 ·have hne:q≠r:=fun e=>h1 (by rw[e])
  rw[decide_eq_false h1,decide_eq_false hne];repeat (first|simp only[go_sem]|simp (disch:=first|exact omg|fail) only[AX]|refine wki ?_|refine vpd 1 [] ?_)
theorem neg_num {x:Rat}:decide (x.num<0)=decide (x<0):=by
 have h:=zP (q:=x);refine decide_eq_decide.2 ⟨fun g => ?_,fun g => ?_⟩
 ·have : ¬0<=x:=fun k=>absurd (h.2 k) (by omega)
  grind
 ·rcases Int.lt_or_le x.num 0 with k|k
  ·exact k
  ·exact absurd (h.1 k) (by grind)
section
variable {v:SV} {x:Rat} {A B p L:Nat}
theorem erv {x:Rat} (h:decide (x.num<0)=false):rv x=ratV false (lim x.num.natAbs) (lim x.den):=by show ratV (decide (x.num<0)) _ _=_;rw[h]
theorem incb_I_ends {a b:Int} {pI:Int} (hv:RatA v x L) (hL1:1<=L) (hL:L<=3) (ha:1<=a/\a<=256) (hb:1<=b/\b<=256) (h:x=0\/x=1):Go.Ev.Fn CX 53 [.int .i64 a,.int .i64 b,v,.int .i64 pI] (.tup [ballR x x,.bool true]):=by
 have n1:=rat_Norm hv;have zx:=szR_of hv hL1;have i1:=rat_Int 1;have o:=ball_Of (RatA_rv zx);have c1:=rat_Cmp (RatA_rv zx) (RatA_rv (int_szR (n:=1))) hL1;have zr:=rat_Zero (RatA_rv zx) hL1;have sm:=rat_Same (RatA_rv zx) (RatA_rv (int_szR (n:=1))) hL1;rw[show ((1:Int):Rat)=1 from rfl]at i1 c1 sm;have e1:decide (cmpR x 1>0)=false:=by rw[cmpR_gt];exact decide_eq_false (by rcases h with rfl|rfl<;>decide +kernel)
 have en:decide (x.num<0)=false:=by rw[neg_num];exact decide_eq_false (by rcases h with rfl|rfl<;>decide +kernel)
 rw[erv en]at n1 c1 zr sm o;obtain⟨s,n,d,rfl,-⟩:=hv;generalize cmpR x 1=z at *
 by_cases hx:x=0
 ·rw[decide_eq_true hx]at zr;clear hx h;refine fni Tryz.f53 ?_;unfold Tryz.f53;repeat (first|simp only[go_sem,en,e1]|simp (disch:=first|exact omg|fail) only[AX,en,e1]|refine wki ?_|refine vpd 9 [] ?_|refine vpd 11 [] ?_|refine vfa ?_)
  show _=SV.agg [.bool (decide (x.num<0)),natV (lim x.num.natAbs),natV (lim x.den),.bool (decide (x.num<0)),natV (lim x.num.natAbs),natV (lim x.den)];rw[en]
 ·rw[decide_eq_false hx]at zr;rw[decide_eq_true (h.resolve_left hx)]at sm;clear hx h;refine fni Tryz.f53 ?_;unfold Tryz.f53;repeat (first|simp only[go_sem,en,e1]|simp (disch:=first|exact omg|fail) only[AX,en,e1]|refine wki ?_|refine vpd 9 [] ?_|refine vpd 11 [] ?_|refine vfa ?_)
  show _=SV.agg [.bool (decide (x.num<0)),natV (lim x.num.natAbs),natV (lim x.den),.bool (decide (x.num<0)),natV (lim x.num.natAbs),natV (lim x.den)];rw[en]
end
end Go.Proofs.YtfknkoeagjonbaaGreat
namespace Go.Proofs.YtfknkoeagjonbaaGreat
open Go.Ev
section
variable {v:SV} {x:Rat} {a b p L:Nat}
abbrev toldLo (A p:Nat):Rat:=mkRat ((A/2^(p+300-(p+2)):Nat):Int) (2^(p+2))
abbrev toldHi (B p:Nat):Rat:=mkRat ((B/2^(p+300-(p+2))+1:Nat):Int) (2^(p+2))
theorem told_sz {A B:Nat} (hp:p<=200) (hA:(lim A).length<=100) (hB:(lim B).length<=100):szR (toldLo A p) 101/\szR (toldHi B p) 101:=by
 have l3:=lim_len_mono (xt A (2^(p+300-(p+2))));have l4:=lim_len_mono (xt B (2^(p+300-(p+2))));have l1:=lim_len1;have l5:=lim_len_add (a:=B/2^(p+300-(p+2))) (b:=1) (L:=100);have lp:=lim_len_shl (a:=1) (n:=p+2);rw[xe]at lp;exact⟨szR_mk (s:=false) (n:=A/2^(p+300-(p+2))) (d:=2^(p+2)) (L:=101),szR_mk (s:=false) (n:=B/2^(p+300-(p+2))+1) (d:=2^(p+2)) (L:=101)⟩
set_option maxHeartbeats 1000000 in
theorem incb_I_loP {A' B':Nat} {pI:Int} (hpI:(pI<=0/\p=0)\/pI=(p:Int)) (hv:RatA v x L) (hL1:1<=L) (hL:L<=260) (ha:1<=a) (ha2:a<=22) (hb:1<=b) (hb2:b<=22) (hp:p<=200) (h0:0<x) (h1:x+x<=1)
  (rw1:Go.Ev.Fn CX 111 [.int .i64 (a:Int),.int .i64 (b:Int),rv x,.int .i64 ((p+300:Nat):Int)] (spanV A' B')) (hl:(lim A').length<=100/\(lim B').length<=100) :
  Go.Ev.Fn CX 53 [.int .i64 (a:Int),.int .i64 (b:Int),v,.int .i64 pI] (.tup [ballR (toldLo A' p) (toldHi B' p),.bool true]):=by
 have n1:=rat_Norm hv;have zx:=szR_of hv hL1;have i1:=rat_Int 1;have c1:=rat_Cmp (RatA_rv zx) (RatA_rv (int_szR (n:=1))) hL1;have zr:=rat_Zero (RatA_rv zx) hL1;rw[decide_eq_false (by grind)]at zr;have sm:=rat_Same (RatA_rv zx) (RatA_rv (int_szR (n:=1))) hL1;have ad:=rat_Add (RatA_rv zx) (RatA_rv zx) hL1 hL1;have c2:=rat_Cmp (RatA_rv (szR_add zx zx hL1)) (RatA_rv (int_szR (n:=1)));rw[show ((1:Int):Rat)=1 from rfl]at i1 c1 sm c2;rw[decide_eq_false (show ¬x=1 by grind)]at sm;have e1:decide (cmpR x 1>0)=false:=by rw[cmpR_gt];exact decide_eq_false (by grind)
 have e2:decide (cmpR (x+x) 1<=0)=true:=by rw[cmpR_le];exact decide_eq_true h1
 have en:decide (x.num<0)=false:=by rw[neg_num];exact decide_eq_false (by grind)
 have td:=fix_Told (a:=A') (b:=B') (w:=p+300) (p:=p+2);have x1:(if (0:Int)>pI then (0:Int) else pI)=(p:Int):=by split<;>omega
 have x2:(if (200:Int)<(p:Int) then (200:Int) else (p:Int))=(p:Int):=if_neg (by omega);rw[show ((p+300:Nat):Int)=(p:Int)+300 from rfl]at rw1 td;rw[show ((p+2:Nat):Int)=(p:Int)+2 from rfl]at td;unfold toldLo toldHi;generalize mkRat ((A'/2^(p+300-(p+2)):Nat):Int) (2^(p+2))=q1 at *
 generalize mkRat ((B'/2^(p+300-(p+2))+1:Nat):Int) (2^(p+2))=q2 at *
 rw[erv en]at n1 c1 zr sm ad rw1;obtain⟨s,n,d,rfl,-⟩:=hv;clear h0 h1;generalize cmpR x 1=z at *
 generalize x+x=xx at *
 generalize cmpR xx 1=z2 at *
 refine fni Tryz.f53 ?_;unfold Tryz.f53;repeat (first|simp only[go_sem,en,x1,x2,e1,e2]|simp (disch:=first|exact omg|fail) only[AX,en,x1,x2,e1,e2]|refine wki ?_|refine vpd 9 [] ?_|refine vpd 11 [] ?_|refine vfa ?_)
theorem incb_I_lo {A' B':Nat} (hv:RatA v x L) (hL1:1<=L) (hL:L<=260) (ha:1<=a) (ha2:a<=22) (hb:1<=b) (hb2:b<=22) (hp:p<=200) (h0:0<x) (h1:x+x<=1)
  (rw1:Go.Ev.Fn CX 111 [.int .i64 (a:Int),.int .i64 (b:Int),rv x,.int .i64 ((p+300:Nat):Int)] (spanV A' B')) (hl:(lim A').length<=100/\(lim B').length<=100) :
  Go.Ev.Fn CX 53 [.int .i64 (a:Int),.int .i64 (b:Int),v,.int .i64 (p:Int)] (.tup [ballR (toldLo A' p) (toldHi B' p),.bool true]):=incb_I_loP (.inr rfl) hv hL1 hL ha ha2 hb hb2 hp h0 h1 rw1 hl
set_option maxHeartbeats 1000000 in
theorem incb_I_hiP {A' B':Nat} {pI:Int} (hpI:(pI<=0/\p=0)\/pI=(p:Int)) (hv:RatA v x L) (hL1:1<=L) (hL:L<=260) (ha:1<=a) (ha2:a<=22) (hb:1<=b) (hb2:b<=22) (hp:p<=200) (h0:1<x+x) (h1:x<1)
  (rw1:Go.Ev.Fn CX 111 [.int .i64 (b:Int),.int .i64 (a:Int),rv (1-x),.int .i64 ((p+300:Nat):Int)] (spanV A' B')) (hl:(lim A').length<=100/\(lim B').length<=100) :
  Go.Ev.Fn CX 53 [.int .i64 (a:Int),.int .i64 (b:Int),v,.int .i64 pI] (.tup [ballR (1-toldHi B' p) (1-toldLo A' p),.bool true]):=by
 have n1:=rat_Norm hv;have zx:=szR_of hv hL1;have i1:=rat_Int 1;have c1:=rat_Cmp (RatA_rv zx) (RatA_rv (int_szR (n:=1))) hL1;have zr:=rat_Zero (RatA_rv zx) hL1;rw[decide_eq_false (by grind)]at zr;have sm:=rat_Same (RatA_rv zx) (RatA_rv (int_szR (n:=1))) hL1;have ad:=rat_Add (RatA_rv zx) (RatA_rv zx) hL1 hL1;have c2:=rat_Cmp (RatA_rv (szR_add zx zx hL1)) (RatA_rv (int_szR (n:=1)));have b1:=ball_Of (RatA_rv (int_szR (n:=1)));have sb:=rat_Sub (RatA_rv (int_szR (n:=1))) (RatA_rv zx) (by omega) hL1;have one1:szR 1 1:=⟨lim_len_lt (by decide +kernel),lim_len_lt (by decide +kernel)⟩
 rw[show ((1:Int):Rat)=1 from rfl]at i1 c1 sm c2 b1 sb;rw[decide_eq_false (show ¬x=1 by grind)]at sm;have e1:decide (cmpR x 1>0)=false:=by rw[cmpR_gt];exact decide_eq_false (by grind)
 have e2:decide (cmpR (x+x) 1<=0)=false:=by rw[cmpR_le];exact decide_eq_false (by grind)
 have en:decide (x.num<0)=false:=by rw[neg_num];exact decide_eq_false (by grind)
 have td:=fix_Told (a:=A') (b:=B') (w:=p+300) (p:=p+2);obtain⟨z1,z2⟩:=told_sz (p:=p) hp hl.1 hl.2;have bs:=ball_Sub (a:=1) (b:=1) (L:=101) (szR_mono one1) (szR_mono one1) z1 z2;have x1:(if (0:Int)>pI then (0:Int) else pI)=(p:Int):=by split<;>omega
 have x2:(if (200:Int)<(p:Int) then (200:Int) else (p:Int))=(p:Int):=if_neg (by omega);rw[show ((p+300:Nat):Int)=(p:Int)+300 from rfl]at rw1 td;rw[show ((p+2:Nat):Int)=(p:Int)+2 from rfl]at td;unfold toldLo toldHi at *
 generalize mkRat ((A'/2^(p+300-(p+2)):Nat):Int) (2^(p+2))=q1 at *
 generalize mkRat ((B'/2^(p+300-(p+2))+1:Nat):Int) (2^(p+2))=q2 at *
 generalize 1-q2=w1 at *
 generalize 1-q1=w2 at *
 rw[erv en]at n1 c1 zr sm ad sb;obtain⟨s,n,d,rfl,-⟩:=hv;clear h0 h1;generalize cmpR x 1=z at *
 generalize x+x=xx at *
 generalize cmpR xx 1=z2' at *
 generalize 1-x=y at *
 refine fni Tryz.f53 ?_;unfold Tryz.f53;repeat (first|simp only[go_sem,en,x1,x2,e1,e2]|simp (disch:=first|exact omg|fail) only[AX,en,x1,x2,e1,e2]|refine wki ?_|refine vpd 9 [] ?_|refine vpd 11 [] ?_|refine vf_of (by first|exact n1|exact i1|exact c1|exact zr|exact sm|exact ad|exact c2|exact b1|exact sb|exact rw1|exact td|exact bs) ?_)
theorem incb_I_hi {A' B':Nat} (hv:RatA v x L) (hL1:1<=L) (hL:L<=260) (ha:1<=a) (ha2:a<=22) (hb:1<=b) (hb2:b<=22) (hp:p<=200) (h0:1<x+x) (h1:x<1)
  (rw1:Go.Ev.Fn CX 111 [.int .i64 (b:Int),.int .i64 (a:Int),rv (1-x),.int .i64 ((p+300:Nat):Int)] (spanV A' B')) (hl:(lim A').length<=100/\(lim B').length<=100) :
  Go.Ev.Fn CX 53 [.int .i64 (a:Int),.int .i64 (b:Int),v,.int .i64 (p:Int)] (.tup [ballR (1-toldHi B' p) (1-toldLo A' p),.bool true]):=incb_I_hiP (.inr rfl) hv hL1 hL ha ha2 hb hb2 hp h0 h1 rw1 hl
end
end Go.Proofs.YtfknkoeagjonbaaGreat
namespace Go.Proofs.YtfknkoeagjonbaaGreat
open Go.Ev
theorem ref4_Of {v:SV} {q:Rat} {L:Nat} (hv:RatA v q L) (hL:L<=1000000:=by omega):Go.Ev.Fn CX 56 [v] (ballR q q):=by
 have n1:=ref2_Norm hv;obtain⟨s,n,d,rfl,-⟩:=hv;refine fni Tryz.f56 ?_;unfold Tryz.f56;repeat (first|simp only[go_sem]|simp (disch:=first|exact omg|fail) only[AX]|refine wki ?_|refine vpd 1 [] ?_|refine vfa ?_)
section
variable {a b c d:Rat} {L M:Nat}
theorem ref4_Bit {p:Nat} (hp:p<=512:=by omega):Go.Ev.Fn CX 23 [.int .i64 (p:Int)] (rv (mkRat 1 (2^p))):=by
 have s:=ref1_shl (N:=1) (m:=p) (by rw[lim_one];simp);rw[xe,lim_one]at s;have l:=lim_len_shl (a:=1) (n:=p);have l1:=lim_len1;rw[xe]at l;have o:=ref2_OfL (s:=false) (n:=1) (d:=2^p);rw[lim_one,show sgn false 1=1 from rfl]at o;generalize mkRat 1 (2^p)=r at *
 generalize 2^p=P at *
 refine fni Tryz.f23 ?_;unfold Tryz.f23;repeat (first|simp only[go_sem]|simp (disch:=first|exact omg|fail) only[AX]|refine wki ?_|refine vfa ?_)
end
end Go.Proofs.YtfknkoeagjonbaaGreat
namespace Go.Proofs.YtfknkoeagjonbaaGreat
open Go.Ev
end Go.Proofs.YtfknkoeagjonbaaGreat
namespace Go.Proofs.YtfknkoeagjonbaaGreat
open Go.Ev
section
variable {x:Rat} {a b p:Int} {s:Bool} {n d:List Nat}
end
end Go.Proofs.YtfknkoeagjonbaaGreat
namespace Go.Proofs.YtfknkoeagjonbaaGreat
open Go.Ev
theorem told_le {A B p:Nat} (h:A<=B):toldLo A p<=toldHi B p:=by
 unfold toldLo toldHi;have P:=p2_pos (p+2);have h1:=xg (c:=2^(p+300-(p+2))) h;have e1:=mk_p2n (A/2^(p+300-(p+2))) (p+2);have e2:=mk_p2n (B/2^(p+300-(p+2))+1) (p+2);refine le_by P ?_;rw[e1,e2];exact nat_le_rat (yZ h1)
section
variable {x:Rat} {a b p:Nat} {s:Bool} {n d:List Nat}
end
end Go.Proofs.YtfknkoeagjonbaaGreat
namespace Go.Proofs.YtfknkoeagjonbaaGreat
open Go.Ev
def rtH:Nat:=3719477765947668636936709211380910309956202648775464111520847020716952850542838341847190855169739343470753519934912401374452868910734655781951726854669216251345409387637183634523568089081173655040240750070105177
def S2:Rat:=mkRat (rtH:Int) (2^700)
def hfGo (a b:Nat):Nat->Nat->Nat->Nat->Nat->Nat×Nat×Nat
 |0,_,n,d,s=>(n,d,s)
 |f+1,k,n,d,s=>pin (n*(a+b+2*k)) fun n'=>pin (2*(a+2+2*k)) fun m=>pin (d*m) fun d'=>pin (s*m+n') fun s'=>pin (k+1) fun k'=>hfGo a b f k' n' d' s'
theorem hfGo_is (a b:Nat) : ∀ (f k n d s:Nat),rR (1/2) a b k*(d:Rat)=(n:Rat)->sR (1/2) a b k*(d:Rat)=(s:Rat)->0<d ->
  rR (1/2) a b (k+f)*((hfGo a b f k n d s).2.1:Rat)=((hfGo a b f k n d s).1:Rat)/\sR (1/2) a b (k+f)*((hfGo a b f k n d s).2.1:Rat)=((hfGo a b f k n d s).2.2:Rat)/\0<(hfGo a b f k n d s).2.1:=by
 intro f;induction f with
 |zero=>intro k n d s h1 h2 h3;exact⟨h1,h2,h3⟩
 |succ f ih=>
  intro k n d s h1 h2 h3;rw[hfGo];simp only[pin_eq];have c : ∀u v:Nat,((u*v:Nat):Rat)=(u:Rat)*(v:Rat):=by intro u v;exact_mod_cast rfl
  have c2 : ∀u v:Nat,((u+v:Nat):Rat)=(u:Rat)+(v:Rat):=by intro u v;exact_mod_cast rfl
  have M:(0:Rat)<((a+2+2*k:Nat):Rat):=by exact_mod_cast (show 0<a+2+2*k by omega)
  have r:rR (1/2) a b (k+1)*((d*(2*(a+2+2*k)):Nat):Rat)=((n*(a+b+2*k):Nat):Rat):=by
   have e:rR (1/2) a b (k+1)=rR (1/2) a b k*(1/2)*((a+b+2*k:Nat):Rat)/((a+2+2*k:Nat):Rat):=rfl;have e2:=yD (a:=rR (1/2) a b k*(1/2)*((a+b+2*k:Nat):Rat)) (b:=((a+2+2*k:Nat):Rat)) (by grind);rw[<- e]at e2;rw[c,c,c,<- h1];have two:((2:Nat):Rat)=2:=rfl;have hh:(1/2:Rat)*2=1:=by decide +kernel
   rw[two];generalize ((a+2+2*k:Nat):Rat)=m at *
   generalize ((a+b+2*k:Nat):Rat)=q at *
   generalize rR (1/2) a b (k+1)=z at *
   generalize (1/2:Rat)=hf at *
   grind
  have sm:sR (1/2) a b (k+1)*((d*(2*(a+2+2*k)):Nat):Rat)=((s*(2*(a+2+2*k))+n*(a+b+2*k):Nat):Rat):=by
   have e:sR (1/2) a b (k+1)=sR (1/2) a b k+rR (1/2) a b (k+1):=rfl;rw[e,c2,<- r,c s,<- h2,c d];generalize rR (1/2) a b (k+1)=z at *
   generalize sR (1/2) a b k=y at *
   grind
  have:=ih (k+1) _ _ _ r sm (zI h3 (by omega));rw[show k+1+f=k+(f+1) by omega]at this;exact this
def hfN (a b:Nat):Nat×Nat×Nat:=
 pin ((beta2 a b).den*2) fun D2=>pin ((beta2 a b).num.natAbs*a) fun N2=>
 pin (rtH^(a%2+b%2)*D2*(if a%2*(b%2)=1 then 2^700 else 1)) fun u=>pin (2^(a/2+b/2)*2^(700*(a%2+b%2))*N2*(if a%2*(b%2)=1 then piW else 1)) fun v=>
 match hfGo a b 120 0 1 1 1 with
 |(n,d,s)=>pin (u*s) fun l=>pin (u*(s+3*n)) fun h=>pin (v*d) fun e=>(l,h,e)
def hfOk (a b:Nat):Bool:=match hfN a b with
 |(l1,h1,e1)=>match hfN b a with
  |(l2,h2,e2)=>pin (l1*e2+l2*e1) fun lo=>pin (h1*e2+h2*e1) fun hi=>pin (e1*e2) fun ee=>Nat.ble ((2^66-1)*ee) (2^66*lo)&&Nat.ble (2^66*hi) ((2^66+1)*ee)
theorem hf_ok1:(List.range 20).all (fun j=>hfOk 1 (1+j))=true:=by decide +kernel
theorem hf_ok2:(List.range 19).all (fun j=>hfOk 2 (2+j))=true:=by decide +kernel
theorem hf_ok3:(List.range 18).all (fun j=>hfOk 3 (3+j))=true:=by decide +kernel
theorem hf_ok4:(List.range 17).all (fun j=>hfOk 4 (4+j))=true:=by decide +kernel
theorem hf_ok5:(List.range 16).all (fun j=>hfOk 5 (5+j))=true:=by decide +kernel
theorem hf_ok6:(List.range 15).all (fun j=>hfOk 6 (6+j))=true:=by decide +kernel
theorem hf_ok7:(List.range 14).all (fun j=>hfOk 7 (7+j))=true:=by decide +kernel
theorem hf_ok8:(List.range 13).all (fun j=>hfOk 8 (8+j))=true:=by decide +kernel
theorem hf_ok9:(List.range 12).all (fun j=>hfOk 9 (9+j))=true:=by decide +kernel
theorem hf_ok10:(List.range 11).all (fun j=>hfOk 10 (10+j))=true:=by decide +kernel
theorem hf_ok11:(List.range 10).all (fun j=>hfOk 11 (11+j))=true:=by decide +kernel
theorem hf_ok12:(List.range 9).all (fun j=>hfOk 12 (12+j))=true:=by decide +kernel
theorem hf_ok13:(List.range 8).all (fun j=>hfOk 13 (13+j))=true:=by decide +kernel
theorem hf_ok14:(List.range 7).all (fun j=>hfOk 14 (14+j))=true:=by decide +kernel
theorem hf_ok15:(List.range 6).all (fun j=>hfOk 15 (15+j))=true:=by decide +kernel
theorem hf_ok16:(List.range 5).all (fun j=>hfOk 16 (16+j))=true:=by decide +kernel
theorem hf_ok17:(List.range 4).all (fun j=>hfOk 17 (17+j))=true:=by decide +kernel
theorem hf_ok18:(List.range 3).all (fun j=>hfOk 18 (18+j))=true:=by decide +kernel
theorem hf_ok19:(List.range 2).all (fun j=>hfOk 19 (19+j))=true:=by decide +kernel
theorem hf_ok20:(List.range 1).all (fun j=>hfOk 20 (20+j))=true:=by decide +kernel
theorem hf_all {a b:Nat} (h1:1<=a) (h2:a<=b) (h3:b<=20):hfOk a b=true:=by
 have g : ∀c,(List.range (21-c)).all (fun j=>hfOk c (c+j))=true->c<=b->hfOk c b=true:=fun c h hc=>by
  have:=wA.1 h (b-c) (zW.2 (by omega));rwa [show c+(b-c)=b by omega]at this
 have hc:a=1\/a=2\/a=3\/a=4\/a=5\/a=6\/a=7\/a=8\/a=9\/a=10\/a=11\/a=12\/a=13\/a=14\/a=15\/a=16\/a=17\/a=18\/a=19\/a=20:=by omega
 rcases hc with rfl|rfl|rfl|rfl|rfl|rfl|rfl|rfl|rfl|rfl|rfl|rfl|rfl|rfl|rfl|rfl|rfl|rfl|rfl|rfl
 ·exact g 1 hf_ok1 h2
 ·exact g 2 hf_ok2 h2
 ·exact g 3 hf_ok3 h2
 ·exact g 4 hf_ok4 h2
 ·exact g 5 hf_ok5 h2
 ·exact g 6 hf_ok6 h2
 ·exact g 7 hf_ok7 h2
 ·exact g 8 hf_ok8 h2
 ·exact g 9 hf_ok9 h2
 ·exact g 10 hf_ok10 h2
 ·exact g 11 hf_ok11 h2
 ·exact g 12 hf_ok12 h2
 ·exact g 13 hf_ok13 h2
 ·exact g 14 hf_ok14 h2
 ·exact g 15 hf_ok15 h2
 ·exact g 16 hf_ok16 h2
 ·exact g 17 hf_ok17 h2
 ·exact g 18 hf_ok18 h2
 ·exact g 19 hf_ok19 h2
 ·exact g 20 hf_ok20 h2
end Go.Proofs.YtfknkoeagjonbaaGreat
namespace Go.Proofs.YtfknkoeagjonbaaGreat
open Go.Ev
theorem S2_mul:S2*p2 700=(rtH:Rat):=mk_p2n rtH 700
theorem sq_mon {x y:Rat} (hx:0<=x) (hy:0<=y) (h:x*x<=y*y):x<=y:=by
 rcases zV (a:=x) (b:=y) with g|g
 ·exact g
 ·by_cases e:y=x
  ·rw[e];exact xi
  ·have h1:y<x:=by grind
   have h2:y*y<=x*y:=xA g hy;have h3:x*y<x*x:=by
    have:0<x*(x-y):=ya (by grind) (by grind);grind
   grind
theorem S2_nn:0<=S2:=le_by (p2_pos 700) (by rw[S2_mul,yM];exact nat_nonneg _)
theorem cmN (a b:Nat):((a*b:Nat):Rat)=(a:Rat)*(b:Rat):=by exact_mod_cast rfl
theorem cnN (a b:Nat):((a+b:Nat):Rat)=(a:Rat)+(b:Rat):=by exact_mod_cast rfl
theorem S2_abs {r P Q:Nat} {S:Rat} (hP:0<P) (e:S*(P:Rat)=(r:Rat)) (n1:P*P<=2*(r*r)) (n2:Q*(2*(r*r))<=Q*(P*P)+2*(P*P)):1/2<=S*S/\(S*S-1/2)*(Q:Rat)<=1:=by
 have P0:(0:Rat)<(P:Rat):=by exact_mod_cast hP
 have PP:0<(P:Rat)*(P:Rat):=ya P0 P0;have m1:=nat_le_rat n1;have m2:=nat_le_rat n2;have d1:((2*(r*r):Nat):Rat)=2*((r:Rat)*(r:Rat)):=by exact_mod_cast rfl
 have d2:((2*(P*P):Nat):Rat)=2*((P:Rat)*(P:Rat)):=by exact_mod_cast rfl
 rw[cmN,d1,<- e]at m1;rw[cmN,cnN,cmN Q,d1,d2,cmN P,<- e]at m2;have q:S*(P:Rat)*(S*(P:Rat))=S*S*((P:Rat)*(P:Rat)):=by grind
 rw[q]at m1 m2;clear q n1 n2 d1 d2 e hP P0;generalize (P:Rat)*(P:Rat)=Z at *
 generalize S*S=t at *
 generalize (Q:Rat)=u at *
 have hh:(1/2:Rat)*2=1:=by decide +kernel
 generalize (1/2:Rat)=hf at *
 have f1:hf*Z*2=Z:=by
  have:hf*Z*2=hf*2*Z:=by grind
  rw[this,hh,yK]
 have f2:(t-hf)*u*Z*2=u*(2*(t*Z))-u*(hf*Z*2):=by grind
 refine⟨le_by PP ?_,le_by PP ?_⟩
 ·grind
 ·rw[f1]at f2;grind
theorem S2_sq:1/2<=S2*S2/\(S2*S2-1/2)*p2 690<=1:=by
 obtain⟨E,hE⟩ : ∃E:Nat,E=690:=⟨_,rfl⟩
 obtain⟨F,hF⟩ : ∃F:Nat,F=700:=⟨_,rfl⟩
 have m:=S2_mul;rw[<- hF]at m;have h:=S2_abs (P:=2^F) (Q:=2^E) (xM (by omega)) m (by rw[hF];decide +kernel) (by rw[hE,hF];decide +kernel);rw[<- hE];exact h
end Go.Proofs.YtfknkoeagjonbaaGreat
namespace Go.Proofs.YtfknkoeagjonbaaGreat
open Go.Ev
section
variable {v:SV} {x:Rat} {A B p:Nat}
end
end Go.Proofs.YtfknkoeagjonbaaGreat
namespace Go.Proofs.YtfknkoeagjonbaaGreat
open Go.Ev
def rtF (a:Nat) (s:Rat):Rat:=if a%2=1 then s else 1
def fsG (a b:Nat):Rat:=(pwR (1/2) (a/2)*pwR (1/2) (b/2))*(((beta2 a b).den*2:Nat):Rat)/(((beta2 a b).num.natAbs*a:Nat):Rat)*(if a%2*(b%2)=1 then 1/PI0 else 1)
theorem fstR_is (a b:Nat) (s s':Rat):fstR a b (1/2) s s'=fsG a b*(rtF a s*rtF b s'):=by
 have e:(1:Rat)-1/2=1/2:=by decide +kernel
 unfold fstR fsG rtF;rw[e,xv,xv];generalize (if a%2=1 then s else 1)=u;generalize (if b%2=1 then s' else 1)=v;generalize (if a%2*(b%2)=1 then 1/PI0 else 1)=z;generalize pwR (1/2) (a/2)=f;generalize pwR (1/2) (b/2)=g;grind
theorem inv_nn {x:Rat} (h:0<x):0<=x⁻¹:=by have:=wi.2 h;grind
theorem PI0_pos:0<PI0:=by
 have P:=p2_pos 700;have h:=PI0_mul;have w:(0:Rat)<(piW:Rat):=by exact_mod_cast (show 0<piW by decide +kernel)
 rcases zV (a:=PI0) (b:=0) with g|g
 ·have:=xA g (show 0<=p2 700 by grind);grind
 ·by_cases h0:PI0=0
  ·rw[h0,yM]at h;grind
  ·grind
theorem fsG_nn {a b:Nat} (ha:1<=a) (hb:1<=b) (ha2:a<=22:=by omega) (hb2:b<=22:=by omega):0<=fsG a b:=by
 have h:=(bet_ok ha hb ha2 hb2).2;have N:(0:Rat)<(((beta2 a b).num.natAbs*a:Nat):Rat):=by exact_mod_cast h
 unfold fsG;rw[xv];refine xL (xL (xL (xL (pwR_nn (by decide +kernel) _) (pwR_nn (by decide +kernel) _)) (nat_nonneg _)) (inv_nn N)) ?_;split
 ·have:=PI0_pos;rw[xv,yK];exact inv_nn this
 ·decide
theorem pw_half : ∀n,pwR (1/2) n*((2^n:Nat):Rat)=1
 |0=>by show (1:Rat)*((1:Nat):Rat)=1;decide +kernel
 |n+1=>by
  have ih:=pw_half n;have c:((2^(n+1):Nat):Rat)=((2^n:Nat):Rat)*2:=by rw[xW,cmN];rfl
  show pwR (1/2) n*(1/2)*_=1;rw[c];have hh:(1/2:Rat)*2=1:=by decide +kernel
  have e:pwR (1/2) n*(1/2)*(((2^n:Nat):Rat)*2)=pwR (1/2) n*((2^n:Nat):Rat)*(1/2*2):=by
   generalize (1/2:Rat)=hf;grind
  rw[e,ih,hh];decide +kernel
theorem rtF_S2 (a:Nat):rtF a S2*((2^(700*(a%2)):Nat):Rat)=((rtH^(a%2):Nat):Rat):=by
 obtain⟨F,hF⟩ : ∃F:Nat,F=700:=⟨_,rfl⟩
 have m:=S2_mul;rw[<- hF]at m ⊢;unfold rtF;have h:a%2=0\/a%2=1:=by omega
 rcases h with h|h
 ·rw[h,if_neg (by omega),yY,yk,yk];decide +kernel
 ·rw[h,if_pos rfl,xu,Nat.pow_one];exact m
theorem hf_pt {a b l h e:Nat} (ha:1<=a) (hb:1<=b) (ha2:a<=20) (hb2:b<=20) (hN:hfN a b=(l,h,e)) :
  fsG a b*(rtF a S2*rtF b S2)*sR (1/2) a b 120*(e:Rat)=(l:Rat)/\fsG a b*(rtF a S2*rtF b S2)*(sR (1/2) a b 120+3*rR (1/2) a b 120)*(e:Rat)=(h:Rat)/\(0:Rat)<(e:Rat):=by
 have hk:=(bet_ok ha hb).2;have g:=hfGo_is a b 120 0 1 1 1 (by show (1:Rat)*((1:Nat):Rat)=_;decide +kernel) (by show (1:Rat)*((1:Nat):Rat)=_;decide +kernel) (by omega);unfold hfN at hN;simp only[pin_eq]at hN;rw[yf]at g;generalize hfGo a b 120 0 1 1 1=G at *
 obtain⟨n,d,s⟩:=G;simp only[Prod.mk.injEq]at hN;simp only at g;obtain⟨g1,g2,g3⟩:=g;obtain⟨rfl,rfl,rfl⟩:=hN;obtain⟨D2,hD2⟩ : ∃D,D=(beta2 a b).den*2:=⟨_,rfl⟩
 obtain⟨N2,hN2⟩ : ∃N,N=(beta2 a b).num.natAbs*a:=⟨_,rfl⟩
 have p1:=pw_half (a/2);have p3:=pw_half (b/2);have r1:=rtF_S2 a;have r2:=rtF_S2 b;unfold fsG;rw[<- hD2,<- hN2];rw[<- hN2]at hk;have N:(0:Rat)<(N2:Rat):=by exact_mod_cast hk
 have dv : ∀y:Rat,y/(N2:Rat)*(N2:Rat)=y:=fun y=>yD (by grind)
 have pq:(if a%2*(b%2)=1 then 1/PI0 else 1)*(((if a%2*(b%2)=1 then piW else 1:Nat)):Rat)=((if a%2*(b%2)=1 then 2^700 else 1:Nat):Rat):=by
  split
  ·have P:=PI0_pos;rw[<- PI0_mul,xv,yK,<- wP,Rat.inv_mul_cancel _ (by grind),yK]
  ·decide +kernel
 have n0:0<(if a%2*(b%2)=1 then piW else 1):=by split<;>decide +kernel
 have cS:((2^(700*(a%2+b%2)):Nat):Rat)=((2^(700*(a%2)):Nat):Rat)*((2^(700*(b%2)):Nat):Rat):=by
  rw[<- cmN,<- xN,<- xZ]
 have cH:((2^(a/2+b/2):Nat):Rat)=((2^(a/2):Nat):Rat)*((2^(b/2):Nat):Rat):=by rw[<- cmN,<- xN]
 have cR:((rtH^(a%2+b%2):Nat):Rat)=((rtH^(a%2):Nat):Rat)*((rtH^(b%2):Nat):Rat):=by rw[<- cmN,<- xN]
 have c3:((s+3*n:Nat):Rat)=(s:Rat)+3*(n:Rat):=by exact_mod_cast rfl
 obtain⟨q1,hq1⟩ : ∃z:Rat,z=(if a%2*(b%2)=1 then 1/PI0 else 1):=⟨_,rfl⟩
 obtain⟨q2,hq2⟩ : ∃z:Nat,z=(if a%2*(b%2)=1 then piW else 1):=⟨_,rfl⟩
 obtain⟨q3,hq3⟩ : ∃z:Nat,z=(if a%2*(b%2)=1 then 2^700 else 1):=⟨_,rfl⟩
 rw[<- hq1,<- hq2,<- hq3]at pq;rw[<- hq2]at n0;rw[<- hq1,<- hq2,<- hq3];clear hq1 hq2 hq3;obtain⟨z1,hz1⟩ : ∃z:Nat,z=2^(700*(a%2)):=⟨_,rfl⟩
 obtain⟨z2,hz2⟩ : ∃z:Nat,z=2^(700*(b%2)):=⟨_,rfl⟩
 obtain⟨z5,hz5⟩ : ∃z:Nat,z=2^(700*(a%2+b%2)):=⟨_,rfl⟩
 have n5:0<z5:=by rw[hz5];exact xM (by omega)
 have n6:0<2^(a/2+b/2):=xM (by omega);rw[<- hz1]at r1;rw[<- hz2]at r2;rw[<- hz1,<- hz2,<- hz5]at cS;rw[<- hz5];clear hz1 hz2 hz5;generalize pwR (1/2) (a/2)=w1 at *
 generalize pwR (1/2) (b/2)=w2 at *
 generalize rtF a S2=f1 at *
 generalize rtF b S2=f2 at *
 generalize sR (1/2) a b 120=sr at *
 generalize rR (1/2) a b 120=rr at *
 generalize rtH^(a%2+b%2)=h5 at *
 generalize rtH^(a%2)=h3 at *
 generalize rtH^(b%2)=h4 at *
 generalize 2^(a/2+b/2)=z6 at *
 generalize 2^(a/2)=z3 at *
 generalize 2^(b/2)=z4 at *
 have d2:=dv (w1*w2*(D2:Rat));generalize w1*w2*(D2:Rat)/(N2:Rat)=y at *
 have key:y*q1*(f1*f2)*((z6*z5*N2*q2:Nat):Rat)=((h5*D2*q3:Nat):Rat):=by
  rw[cmN,cmN,cmN z6,cS,cH,cmN,cmN h5,cR,<- pq,<- r1,<- r2];have e1:y*q1*(f1*f2)*((z3:Rat)*(z4:Rat)*((z1:Rat)*(z2:Rat))*(N2:Rat)*(q2:Rat))=(y*(N2:Rat))*((z3:Rat)*(z4:Rat))*(q1*(q2:Rat))*(f1*(z1:Rat)*(f2*(z2:Rat))):=by grind
  have e2:(w1*w2*(D2:Rat))*((z3:Rat)*(z4:Rat))*(q1*(q2:Rat))*(f1*(z1:Rat)*(f2*(z2:Rat)))=(w1*(z3:Rat))*(w2*(z4:Rat))*(f1*(z1:Rat)*(f2*(z2:Rat))*(D2:Rat)*(q1*(q2:Rat))):=by grind
  rw[e1,d2,e2,p1,p3,yK,yK]
 have vp:0<z6*z5*N2*q2:=zI (zI (zI n6 n5) hk) n0;generalize z6*z5*N2*q2=v at *
 generalize h5*D2*q3=u at *
 clear d2 dv cS cH cR pq r1 r2 p1 p3 N n0 n5 n6 hk hN2 hD2;generalize y*q1*(f1*f2)=C at *
 refine⟨?_,?_,?_⟩
 ·rw[cmN,cmN,<- key,<- g2];grind
 ·rw[cmN,cmN,c3,<- key,<- g2,<- g1];grind
 ·exact_mod_cast zI vp g3
def hfLo (a b:Nat):Rat:=fsG a b*(rtF a S2*rtF b S2)*sR (1/2) a b 120
def hfHi (a b:Nat):Rat:=fsG a b*(rtF a S2*rtF b S2)*(sR (1/2) a b 120+3*rR (1/2) a b 120)
theorem hf_sum1 {a b:Nat} (ha:1<=a) (hb:1<=b) (ha2:a<=20) (hb2:b<=20) (h:hfOk a b=true) :
  73786976294838206463<=73786976294838206464*(hfLo a b+hfLo b a)/\73786976294838206464*(hfHi a b+hfHi b a)<=73786976294838206465:=by
 unfold hfLo hfHi;have p1:=hf_pt (l:=(hfN a b).1) (h:=(hfN a b).2.1) (e:=(hfN a b).2.2) ha hb ha2 hb2 rfl;have p2:=hf_pt (l:=(hfN b a).1) (h:=(hfN b a).2.1) (e:=(hfN b a).2.2) hb ha hb2 ha2 rfl;unfold hfOk at h;generalize hfN a b=X1 at *
 generalize hfN b a=X2 at *
 obtain⟨l1,h1,e1⟩:=X1;obtain⟨l2,h2,e2⟩:=X2;simp only[pin_eq,xj]at h;obtain⟨k1,k2⟩:=h;have m1:=nat_le_rat (yC k1);have m2:=nat_le_rat (yC k2);obtain⟨a1,a2,a3⟩:=p1;obtain⟨b1,b2,b3⟩:=p2;simp only at a1 a2 a3 b1 b2 b3;have E:=ya a3 b3;rw[cmN,cmN,cmN,cnN,cmN l1,cmN l2,<- a1,<- b1]at m1;rw[cmN,cmN,cmN,cnN,cmN h1,cmN h2,<- a2,<- b2]at m2;rw[show ((2^66-1:Nat):Rat)=73786976294838206463 from rfl,show ((2^66:Nat):Rat)=73786976294838206464 from rfl]at m1;rw[show ((2^66+1:Nat):Rat)=73786976294838206465 from rfl,show ((2^66:Nat):Rat)=73786976294838206464 from rfl]at m2;clear a1 a2 b1 b2 k1 k2
 generalize fsG a b*(rtF a S2*rtF b S2)*sR (1/2) a b 120=u1 at *
 generalize fsG b a*(rtF b S2*rtF a S2)*sR (1/2) b a 120=u2 at *
 generalize fsG a b*(rtF a S2*rtF b S2)*(sR (1/2) a b 120+3*rR (1/2) a b 120)=u3 at *
 generalize fsG b a*(rtF b S2*rtF a S2)*(sR (1/2) b a 120+3*rR (1/2) b a 120)=u4 at *
 generalize (e1:Rat)=x1 at *
 generalize (e2:Rat)=x2 at *
 refine⟨le_by E ?_,le_by E ?_⟩
 ·have:73786976294838206464*(u1+u2)*(x1*x2)=73786976294838206464*(u1*x1*x2+u2*x2*x1):=by grind
  rw[this];exact m1
 ·have:73786976294838206464*(u3+u4)*(x1*x2)=73786976294838206464*(u3*x1*x2+u4*x2*x1):=by grind
  rw[this];exact m2
theorem hf_sum {a b:Nat} (ha:1<=a) (hb:1<=b) (ha2:a<=20) (hb2:b<=20) :
  73786976294838206463<=73786976294838206464*(hfLo a b+hfLo b a)/\73786976294838206464*(hfHi a b+hfHi b a)<=73786976294838206465:=by
 rcases Nat.le_total a b with h|h
 ·exact hf_sum1 ha hb ha2 hb2 (hf_all ha h hb2)
 ·have:=hf_sum1 hb ha hb2 ha2 (hf_all hb h ha2);rw[Rat.add_comm (hfLo a b),Rat.add_comm (hfHi a b)];exact this
theorem sR_nnH {x:Rat} {a b:Nat} (h:0<=x) (k:Nat):0<=sR x a b k:=xO (show (0:Rat)<=1 by decide) (sR_up (a:=a) (b:=b) h (wT k))
section
variable {x:Rat} {a b p:Nat} {s:Bool} {n d:List Nat}
end
end Go.Proofs.YtfknkoeagjonbaaGreat
namespace Go.Proofs.YtfknkoeagjonbaaGreat
open Go.Ev
def fsC (a b:Nat):Rat:=(((beta2 a b).den*2:Nat):Rat)*(((beta2 a b).num.natAbs*a:Nat):Rat)⁻¹*(if a%2*(b%2)=1 then 1/PI0 else 1)
theorem pwR_add (q:Rat) (m n:Nat):pwR q (m+n)=pwR q m*pwR q n:=by
 induction n with
 |zero=>show pwR q m=pwR q m*1;rw[yr]
 |succ n ih=>show pwR q (m+n)*q=pwR q m*(pwR q n*q);rw[ih,wP]
theorem pwR_half (q:Rat) (a:Nat):pwR q a=pwR q (a/2)*pwR q (a/2)*rtF a q:=by
 unfold rtF;have h:a%2=0\/a%2=1:=by omega
 rcases h with h|h
 ·rw[if_neg (by omega),yr,<- pwR_add,show a/2+a/2=a by omega]
 ·rw[if_pos h,<- pwR_add];have:a=a/2+a/2+1:=by omega
  conv=>lhs;rw[this]
  rfl
theorem rtF_sq_lo {q s:Rat} (a:Nat) (h:s*s<=q):rtF a s*rtF a s<=rtF a q:=by
 unfold rtF;split
 ·exact h
 ·rw[yr];exact xi
theorem rtF_sq_hi {q s:Rat} (a:Nat) (h:q<=s*s):rtF a q<=rtF a s*rtF a s:=by
 unfold rtF;split
 ·exact h
 ·rw[yr];exact xi
theorem rtF_nn {s:Rat} (a:Nat) (h:0<=s):0<=rtF a s:=by
 unfold rtF;split
 ·exact h
 ·decide
theorem fstR_sq (a b:Nat) (x sx sy:Rat):fstR a b x sx sy=fsC a b*(pwR x (a/2)*rtF a sx*(pwR (1-x) (b/2)*rtF b sy)):=by
 unfold fstR fsC rtF;rw[xv];generalize (if a%2=1 then sx else 1)=u;generalize (if b%2=1 then sy else 1)=v;generalize (if a%2*(b%2)=1 then 1/PI0 else 1)=z;grind
theorem mul_self_nn (x:Rat):0<=x*x:=by
 rcases zV (a:=0) (b:=x) with h|h
 ·exact xL h h
 ·have:=xL (show 0 <= -x by grind) (show 0 <= -x by grind);grind
theorem mul_both {a b c d:Rat} (h1:a<=b) (h2:c<=d) (hb:0<=b) (hc:0<=c):a*c<=b*d:=
 xO (xA h1 hc) (xI h2 hb)
section
variable {x sx sy:Rat} {a b k:Nat}
theorem sh_lo (hx:0<=x) (hx1:x<=1) (h1:sx*sx<=x) (h2:sy*sy<=1-x):fstR a b x sx sy*sR x a b k*(fstR a b x sx sy*sR x a b k)<=fsC a b*fsC a b*shG a b k x:=by
 have e1:=rtF_sq_lo a h1;have e2:=rtF_sq_lo b h2;unfold shG;rw[fstR_sq,pwR_half x a,pwR_half (1-x) b];have n1:0<=pwR x (a/2)*pwR x (a/2):=xL (pwR_nn hx _) (pwR_nn hx _);have n2:0<=pwR (1-x) (b/2)*pwR (1-x) (b/2):=xL (pwR_nn (by grind) _) (pwR_nn (by grind) _);have n3:0<=rtF a x:=rtF_nn a hx;have n4:0<=rtF b sy*rtF b sy:=mul_self_nn _;have n5:0<=fsC a b*fsC a b:=mul_self_nn _;have n6:0<=sR x a b k*sR x a b k:=mul_self_nn _;have m:=mul_both e1 e2 n3 n4;have m2:=xI m (xL (xL n5 n6) (xL n1 n2));generalize fsC a b=c at *
 generalize sR x a b k=s at *
 generalize pwR x (a/2)=u at *
 generalize pwR (1-x) (b/2)=v at *
 generalize rtF a sx=r1 at *
 generalize rtF b sy=r2 at *
 generalize rtF a x=r3 at *
 generalize rtF b (1-x)=r4 at *
 have q1:c*(u*r1*(v*r2))*s*(c*(u*r1*(v*r2))*s)=c*c*(s*s)*(u*u*(v*v))*(r1*r1*(r2*r2)):=by grind
 have q2:c*c*(u*u*r3*(v*v*r4)*(s*s))=c*c*(s*s)*(u*u*(v*v))*(r3*r4):=by grind
 rw[q1,q2];exact m2
theorem sh_hi (hx:0<=x) (hx1:x<=1) (h1:x<=sx*sx) (h2:1-x<=sy*sy):fsC a b*fsC a b*shG a b k x<=fstR a b x sx sy*sR x a b k*(fstR a b x sx sy*sR x a b k):=by
 have e1:=rtF_sq_hi a h1;have e2:=rtF_sq_hi b h2;unfold shG;rw[fstR_sq,pwR_half x a,pwR_half (1-x) b];have n1:0<=pwR x (a/2)*pwR x (a/2):=xL (pwR_nn hx _) (pwR_nn hx _);have n2:0<=pwR (1-x) (b/2)*pwR (1-x) (b/2):=xL (pwR_nn (by grind) _) (pwR_nn (by grind) _);have n3:0<=rtF a sx*rtF a sx:=mul_self_nn _;have n4:0<=rtF b (1-x):=rtF_nn b (by grind);have n5:0<=fsC a b*fsC a b:=mul_self_nn _;have n6:0<=sR x a b k*sR x a b k:=mul_self_nn _;have m:=mul_both e1 e2 n3 n4;have m2:=xI m (xL (xL n5 n6) (xL n1 n2));generalize fsC a b=c at *
 generalize sR x a b k=s at *
 generalize pwR x (a/2)=u at *
 generalize pwR (1-x) (b/2)=v at *
 generalize rtF a sx=r1 at *
 generalize rtF b sy=r2 at *
 generalize rtF a x=r3 at *
 generalize rtF b (1-x)=r4 at *
 have q1:c*(u*r1*(v*r2))*s*(c*(u*r1*(v*r2))*s)=c*c*(s*s)*(u*u*(v*v))*(r1*r1*(r2*r2)):=by grind
 have q2:c*c*(u*u*r3*(v*v*r4)*(s*s))=c*c*(s*s)*(u*u*(v*v))*(r3*r4):=by grind
 rw[q1,q2];exact m2
end
def RowS (a b w:Nat) (x:Rat) (A B:Nat):Prop := ∃K:Nat,∀m,K<=m->(A:Rat)*(A:Rat)<=fsC a b*fsC a b*shG a b m x*(p2 w*p2 w)/\fsC a b*fsC a b*shG a b m x*(p2 w*p2 w)<=(B:Rat)*(B:Rat)
theorem sq_pair (u w:Rat):u*w*(u*w)=u*u*(w*w):=by grind
section
variable {x:Rat} {a b p L:Nat}
theorem row_sq (hz:szR x L) (hL1:1<=L) (hL:L<=260) (ha:1<=a) (ha2:a<=22) (hb:1<=b) (hb2:b<=22) (hp:p<=200) (h0:0<=x) (h1:x+x<=1) :
  ∃A B:Nat,Go.Ev.Fn CX 111 [.int .i64 (a:Int),.int .i64 (b:Int),rv x,.int .i64 ((p+300:Nat):Int)] (spanV A B)/\(lim A).length<=100/\(lim B).length<=100/\RowS a b (p+300) x A B/\B<=A+2^131:=by
 have hx1:x<=1:=by grind
 obtain⟨F1,F2,p1,p2',q1,q2,fi,g1,g2,g3,r1,r2,r3,r4,r5,r6,r7,r8,hF⟩:=incb_fst (w:=p+300) ha (by omega) hb (by omega) hz hL1 hL h0 hx1;obtain⟨A,B,K,hg⟩:=rowh_ends ha (by omega) h0 h1 (by omega) (by omega) g1 g2 g3;obtain⟨k1,k2,k3⟩:=rowh_bd ha (by omega) h0 h1 (by omega) g1 g2 g3 hg;have f:=incb_rowh ha (by omega) hb (by omega) hz (by omega) h0 h1 (by omega) (by omega) fi g1 g2 g3 hg;have lB:=lim_len_p2 k3;have P:=p2_pos (p+300)
 have tell : ∀sx sy,p1<=sx->sx<=p2'->q1<=sy->sy<=q2->b<=K/\(A:Rat)<=fstR a b x sx sy*sR x a b K*p2 (p+300)/\fstR a b x sx sy*sR x a b K*p2 (p+300)+64<=(B:Rat)/\fstR a b x sx sy*rR x a b K*p2 (p+300)<=8:=by
  intro sx sy x1 x2 y1 y2;have en:=hF sx sy x1 x2 y1 y2;have en1:Enc (p+300) F1 F2 (fstR a b x sx sy*rR x a b 0):=by
   show Enc _ _ _ (_*1);rw[yr];exact en
  have en2:Enc (p+300) F1 F2 (fstR a b x sx sy*sR x a b 0):=en1;exact row_enc (un_enc h0 (p+300)) 2201 0 _ _ _ _ hg en1 en2
 have nn : ∀sx sy,p1<=sx->sx<=p2'->q1<=sy->sy<=q2->0<=fstR a b x sx sy:=fun sx sy x1 x2 y1 y2=>enc_nonneg (hF sx sy x1 x2 y1 y2)
 refine⟨A,B,f,xG (lim_len_mono k1) (by omega),by omega,⟨K,fun m hm => ?_⟩,k2⟩;obtain⟨hbK,a1,-,-⟩:=tell p1 q1 xi r1 xi r5;obtain⟨-,-,b1,b2⟩:=tell p2' q2 r1 xi r5 xi;have c1:=nn p1 q1 xi r1 xi r5;have c2:=nn p2' q2 r1 xi r5 xi;have s0:=sR_nnH (a:=a) (b:=b) h0 m;have s1:=sR_up (a:=a) (b:=b) h0 hm;have s2:=sR_top (a:=a) (b:=b) h0 h1 (k:=K) (m:=m) hbK;have lo:=sh_lo (a:=a) (b:=b) (k:=m) h0 hx1 r3 r7;have hi:=sh_hi (a:=a) (b:=b) (k:=m) h0 hx1 r4 r8;have P0:0<=p2 (p+300):=xX P;have A1:(A:Rat)<=fstR a b x p1 q1*sR x a b m*p2 (p+300):=xO a1 (xA (xI s1 c1) P0)
 have B1:fstR a b x p2' q2*sR x a b m*p2 (p+300)<=(B:Rat):=by
  have t:=xA (xI s2 c2) P0;refine xO t ?_;clear f fi hg hF tell nn lB lo hi A1 k3 g3;generalize fstR a b x p2' q2=u at *
  generalize sR x a b K=v at *
  generalize rR x a b K=v' at *
  generalize p2 (p+300)=w at *
  have e:u*(v+3*v')*w=u*v*w+3*(u*v'*w):=by grind
  rw[e];grind
 have n1:0<=fstR a b x p1 q1*sR x a b m*p2 (p+300):=xL (xL c1 s0) P0;have n2:0<=fstR a b x p2' q2*sR x a b m*p2 (p+300):=xL (xL c2 s0) P0;have A2:=mul_both A1 A1 n1 (nat_nonneg A);have B2:=mul_both B1 B1 (nat_nonneg B) n2;have lo2:=xA lo (mul_self_nn (p2 (p+300)));have hi2:=xA hi (mul_self_nn (p2 (p+300)));rw[sq_pair]at A2 B2;exact⟨xO A2 lo2,xO hi2 B2⟩
end
end Go.Proofs.YtfknkoeagjonbaaGreat
namespace Go.Proofs.YtfknkoeagjonbaaGreat
open Go.Ev
section
variable {a b:Nat}
theorem shG_grow {k:Nat} {x y M:Rat} (ha:1<=a) (ha2:a<=20) (hb2:b<=20) (hk:160<=k) (h0:0<x) (hxy:x<=y) (hy:y+y<=1) (hM : ∀z,0<=z->z+z<=1->sR z a b k<=M) :
  shG a b k x*(M+2*(y-x))<=shG a b k y*M:=by
 obtain⟨q,d1,e1⟩:=dif_pw dif_id a;obtain⟨r,d2,e2⟩:=dif_pw dif_one_sub b;obtain⟨s,d3,e3⟩:=dif_sR (a:=a) (b:=b) k;obtain⟨c,hc⟩ : ∃c,c=shG a b k x:=⟨_,rfl⟩
 have d:=dif_add (dif_mul (dif_const M) (dif_mul (dif_mul d1 d2) (dif_mul d3 d3))) (dif_mul (dif_const (-(2*c))) dif_id);have t:=dif_mono d (x:=x) (y:=y) (by grind) hxy (by grind) fun z z1 z2 => ?_
 ·have t':M*shG a b k x + -(2*c)*x<=M*shG a b k y + -(2*c)*y:=t;rw[<- hc]at t' ⊢;grind
 have z0:0<z:=by grind
 have P:0<z*(1-z):=ya z0 (by grind);have n1:=pwR_nn (q:=z) (by grind) a;have n2:=pwR_nn (q:=1-z) (by grind) b;have n3:0<=sR z a b k:=sR_nnH (by grind) k;have up:=shG_up (a:=a) (b:=b) ha ha2 hb2 hk h0 z1 (by grind);have late:=late_small (x:=z) (a:=a) (b:=b) (by grind) (by grind) ha ha2 hb2 hk;have r0:=xL (nat_nonneg (a+b+2*k)) (rR_nn (x:=z) (a:=a) (b:=b) (by grind) k);have A1:(1:Rat)<=(a:Rat):=by exact_mod_cast ha
 have m:=xA late (show 0<=z by grind);have hT:=e3 z;have hm:=hM z (by grind) (by grind);have sl:=slope_id (S:=sR z a b k) (s:=s z) (q:=q z) (r:=r z) (e1 z) (e2 z);rw[<- hc]at up;have up':c<=pwR z a*pwR (1-z) b*(sR z a b k*sR z a b k):=up;refine le_by P ?_;rw[yM];have goal:0<=(M*((pwR z a*pwR (1-z) b*(sR z a b k*s z+s z*sR z a b k)+(pwR z a*r z+q z*pwR (1-z) b)*(sR z a b k*sR z a b k)) ) + -(2*c))*(z*(1-z)):=by
  have ex:(M*((pwR z a*pwR (1-z) b*(sR z a b k*s z+s z*sR z a b k)+(pwR z a*r z+q z*pwR (1-z) b)*(sR z a b k*sR z a b k)) ) + -(2*c))*(z*(1-z)) =
   M*((pwR z a*pwR (1-z) b*(sR z a b k*s z+s z*sR z a b k)+(pwR z a*r z+q z*pwR (1-z) b)*(sR z a b k*sR z a b k))*(z*(1-z)))-2*c*(z*(1-z)):=by
   generalize (pwR z a*pwR (1-z) b*(sR z a b k*s z+s z*sR z a b k)+(pwR z a*r z+q z*pwR (1-z) b)*(sR z a b k*sR z a b k))=G;grind
  rw[ex,sl,hT];have q4:4*(z*(1-z))<=1:=by
   have:=mul_self_nn (1-2*z);grind
  have T2:1<=2*((a:Rat)-((a+b+2*k:Nat):Rat)*z*rR z a b k):=by grind
  have W:=xL n1 n2;clear e1 e2 e3 d d1 d2 d3 sl hT ex hM up n1 n2 late;generalize (a:Rat)-((a+b+2*k:Nat):Rat)*z*rR z a b k=T at *
  generalize pwR z a*pwR (1-z) b=w at *
  generalize sR z a b k=S at *
  generalize z*(1-z)=p at *
  have k1:2*c*p<=2*(w*(S*S))*p:=xA (by grind) (by grind);have wS:=xL W (xL n3 n3);have k2:=xI q4 wS;have wS1:=xL W n3;have M0:0<=M:=xO n3 hm;have k3:=xI hm wS1;have k4:=xI T2 (xL M0 wS1);grind
 have e:(M*((pwR z a*pwR (1-z) b)*(sR z a b k*s z+s z*sR z a b k)+(pwR z a*r z+q z*pwR (1-z) b)*(sR z a b k*sR z a b k))+0*(pwR z a*pwR (1-z) b*(sR z a b k*sR z a b k))+(-(2*c)*1+0*z))=(M*((pwR z a*pwR (1-z) b*(sR z a b k*s z+s z*sR z a b k)+(pwR z a*r z+q z*pwR (1-z) b)*(sR z a b k*sR z a b k)) ) + -(2*c)):=by
  rw[yM,yM,Rat.add_zero,Rat.add_zero,yr]
 show 0<=(M*((pwR z a*pwR (1-z) b)*(sR z a b k*s z+s z*sR z a b k)+(pwR z a*r z+q z*pwR (1-z) b)*(sR z a b k*sR z a b k))+0*(pwR z a*pwR (1-z) b*(sR z a b k*sR z a b k))+(-(2*c)*1+0*z))*(z*(1-z))
 rw[e];exact goal
end
end Go.Proofs.YtfknkoeagjonbaaGreat
namespace Go.Proofs.YtfknkoeagjonbaaGreat
open Go.Ev
theorem hfHi_nn {a b:Nat} (ha:1<=a) (ha2:a<=20) (hb:1<=b) (hb2:b<=20):0<=hfHi a b:=by
 have hh:(1/2:Rat)+1/2=1:=by decide +kernel
 have h2:(0:Rat)<=1/2:=by decide +kernel
 have G:=fsG_nn ha hb;have F:=xL G (xL (rtF_nn a S2_nn) (rtF_nn b S2_nn));have s:=xI (sR_top (a:=a) (b:=b) (k:=120) (m:=160) h2 (by rw[hh];exact xi)) F;have s0:=xL F (sR_nnH (a:=a) (b:=b) h2 160);unfold hfHi;exact xO s0 s
theorem hi_nn {B p:Nat}:0<=toldHi B p:=by
 unfold toldHi;have m:=mk_p2n (B/2^(p+300-(p+2))+1) (p+2);refine le_by (p2_pos (p+2)) ?_;rw[m,yM];exact nat_nonneg _
section
variable {x y:Rat} {a b p L:Nat} {v v':SV}
def BallS (a b p:Nat) (x l h:Rat):Prop:=
 (x+x<=1 /\ ∃A B:Nat,RowS a b (p+300) x A B/\A<=B/\l=toldLo A p/\h=toldHi B p) \/
 (1<x+x /\ ∃A B:Nat,RowS b a (p+300) (1-x) A B/\A<=B/\l=1-toldHi B p/\h=1-toldLo A p)
theorem rows_ab {a b w:Nat} {x:Rat} {A B:Nat} (h:RowS a b w x A B):A<=B:=by
 obtain⟨K,h⟩:=h;have g:=h K (xU _);have r:=sq_mon (nat_nonneg A) (nat_nonneg B) (xO g.1 g.2);exact_mod_cast r
theorem ball_le {l h:Rat} (g:BallS a b p x l h):l<=h:=by
 rcases g with⟨-,A,B,-,k,rfl,rfl⟩|⟨-,A,B,-,k,rfl,rfl⟩
 ·exact told_le k
 ·have:=told_le (p:=p) k;grind
end
end Go.Proofs.YtfknkoeagjonbaaGreat
namespace Go.Proofs.YtfknkoeagjonbaaGreat
open Go.Ev
def topOk (a b:Nat):Bool:=match hfGo a b 120 0 1 1 1 with
 |(n,d,s)=>Nat.ble (s+3*n) (2048*d)
theorem top_ok1:(List.range 20).all (fun j=>topOk 1 (1+j))=true:=by decide +kernel
theorem top_ok2:(List.range 20).all (fun j=>topOk 2 (1+j))=true:=by decide +kernel
theorem top_ok3:(List.range 20).all (fun j=>topOk 3 (1+j))=true:=by decide +kernel
theorem top_ok4:(List.range 20).all (fun j=>topOk 4 (1+j))=true:=by decide +kernel
theorem top_ok5:(List.range 20).all (fun j=>topOk 5 (1+j))=true:=by decide +kernel
theorem top_ok6:(List.range 20).all (fun j=>topOk 6 (1+j))=true:=by decide +kernel
theorem top_ok7:(List.range 20).all (fun j=>topOk 7 (1+j))=true:=by decide +kernel
theorem top_ok8:(List.range 20).all (fun j=>topOk 8 (1+j))=true:=by decide +kernel
theorem top_ok9:(List.range 20).all (fun j=>topOk 9 (1+j))=true:=by decide +kernel
theorem top_ok10:(List.range 20).all (fun j=>topOk 10 (1+j))=true:=by decide +kernel
theorem top_ok11:(List.range 20).all (fun j=>topOk 11 (1+j))=true:=by decide +kernel
theorem top_ok12:(List.range 20).all (fun j=>topOk 12 (1+j))=true:=by decide +kernel
theorem top_ok13:(List.range 20).all (fun j=>topOk 13 (1+j))=true:=by decide +kernel
theorem top_ok14:(List.range 20).all (fun j=>topOk 14 (1+j))=true:=by decide +kernel
theorem top_ok15:(List.range 20).all (fun j=>topOk 15 (1+j))=true:=by decide +kernel
theorem top_ok16:(List.range 20).all (fun j=>topOk 16 (1+j))=true:=by decide +kernel
theorem top_ok17:(List.range 20).all (fun j=>topOk 17 (1+j))=true:=by decide +kernel
theorem top_ok18:(List.range 20).all (fun j=>topOk 18 (1+j))=true:=by decide +kernel
theorem top_ok19:(List.range 20).all (fun j=>topOk 19 (1+j))=true:=by decide +kernel
theorem top_ok20:(List.range 20).all (fun j=>topOk 20 (1+j))=true:=by decide +kernel
theorem top_all {a b:Nat} (h1:1<=a) (h2:a<=20) (h3:1<=b) (h4:b<=20):topOk a b=true:=by
 have g : ∀c,(List.range 20).all (fun j=>topOk c (1+j))=true->topOk c b=true:=fun c h=>by
  have:=wA.1 h (b-1) (zW.2 (by omega));rwa [show 1+(b-1)=b by omega]at this
 have hc:a=1\/a=2\/a=3\/a=4\/a=5\/a=6\/a=7\/a=8\/a=9\/a=10\/a=11\/a=12\/a=13\/a=14\/a=15\/a=16\/a=17\/a=18\/a=19\/a=20:=by omega
 rcases hc with rfl|rfl|rfl|rfl|rfl|rfl|rfl|rfl|rfl|rfl|rfl|rfl|rfl|rfl|rfl|rfl|rfl|rfl|rfl|rfl
 ·exact g 1 top_ok1
 ·exact g 2 top_ok2
 ·exact g 3 top_ok3
 ·exact g 4 top_ok4
 ·exact g 5 top_ok5
 ·exact g 6 top_ok6
 ·exact g 7 top_ok7
 ·exact g 8 top_ok8
 ·exact g 9 top_ok9
 ·exact g 10 top_ok10
 ·exact g 11 top_ok11
 ·exact g 12 top_ok12
 ·exact g 13 top_ok13
 ·exact g 14 top_ok14
 ·exact g 15 top_ok15
 ·exact g 16 top_ok16
 ·exact g 17 top_ok17
 ·exact g 18 top_ok18
 ·exact g 19 top_ok19
 ·exact g 20 top_ok20
section
variable {a b k:Nat}
theorem rR_monoX {x y:Rat} (h0:0<=x) (h:x<=y) (k:Nat):rR x a b k<=rR y a b k:=by
 induction k with
 |zero=>exact xi
 |succ k ih=>
  have M:(0:Rat)<((a+2+2*k:Nat):Rat):=by exact_mod_cast (show 0<a+2+2*k by omega)
  refine le_by M ?_;rw[rR_step,rR_step];have r0:=rR_nn (x:=x) (a:=a) (b:=b) h0 k;have n0:=nat_nonneg (a+b+2*k);have m:=mul_both ih h (xO r0 ih) h0;exact xA m n0
theorem sR_monoX {x y:Rat} (h0:0<=x) (h:x<=y) (k:Nat):sR x a b k<=sR y a b k:=by
 induction k with
 |zero=>exact xi
 |succ k ih=>
  have:=rR_monoX (a:=a) (b:=b) h0 h (k+1);show sR x a b k+_<=sR y a b k+_;grind
theorem sR_most {z:Rat} (ha:1<=a) (ha2:a<=20) (hb:1<=b) (hb2:b<=20) (h0:0<=z) (h:z+z<=1) (k:Nat):sR z a b k<=2048:=by
 have hh:(1/2:Rat)+1/2=1:=by decide +kernel
 have h2:(0:Rat)<=1/2:=by decide +kernel
 have z2:z<=1/2:=by generalize (1/2:Rat)=hf at *;grind
 have m1:=sR_monoX (a:=a) (b:=b) h0 z2 k;have m2:=sR_top (a:=a) (b:=b) (k:=120) (m:=k) h2 (by rw[hh];exact xi);obtain⟨g1,g2,g3⟩:=hfGo_is a b 120 0 1 1 1 (show (1:Rat)*((1:Nat):Rat)=((1:Nat):Rat) by decide +kernel) (show (1:Rat)*((1:Nat):Rat)=((1:Nat):Rat) by decide +kernel) (by decide);have t:=top_all ha ha2 hb hb2;rw[yf]at g1 g2;unfold topOk at t;generalize hfGo a b 120 0 1 1 1=g at *
 obtain⟨n,d,s⟩:=g;have t1:s+3*n<=2048*d:=yC t;have t2:((s+3*n:Nat):Rat)<=((2048*d:Nat):Rat):=by exact_mod_cast t1
 have c1:((s+3*n:Nat):Rat)=(s:Rat)+3*(n:Rat):=by exact_mod_cast rfl
 have c2:((2048*d:Nat):Rat)=2048*(d:Rat):=by exact_mod_cast rfl
 have d0:(0:Rat)<(d:Rat):=by exact_mod_cast g3
 refine xO m1 (xO m2 (le_by d0 ?_));have e1:rR (1/2) a b 120*(d:Rat)=(n:Rat):=g1;have e2:sR (1/2) a b 120*(d:Rat)=(s:Rat):=g2;rw[c1,c2]at t2;generalize sR (1/2) a b 120=u at *
 generalize rR (1/2) a b 120=v at *
 generalize (n:Rat)=n' at *
 generalize (s:Rat)=s' at *
 generalize (d:Rat)=d' at *
 clear m1 m2;grind
end
end Go.Proofs.YtfknkoeagjonbaaGreat
namespace Go.Proofs.YtfknkoeagjonbaaGreat
open Go.Ev
def Lo1 (a b:Nat) (x l:Rat):Prop:=l<=0 \/ ∃K:Nat,∀m,K<=m->l*l<=fsC a b*fsC a b*shG a b m x
def Hi1 (a b:Nat) (x h:Rat):Prop:=0<=h /\ ∃K:Nat,∀m,K<=m->fsC a b*fsC a b*shG a b m x<=h*h
def LoS (a b:Nat) (x l:Rat):Prop:=(x+x<=1/\Lo1 a b x l)\/(1<x+x/\Hi1 b a (1-x) (1-l))
def HiS (a b:Nat) (x h:Rat):Prop:=(x+x<=1/\Hi1 a b x h)\/(1<x+x/\Lo1 b a (1-x) (1-h))
section
variable {a b:Nat} {x y l h d c:Rat}
theorem sq_part {l h d:Rat} (hl:0<=l) (hh:0<=h) (hd:0<=d) (hd1:d<=1) (g:l*l*(2048+2*d)<=h*h*2048):4096*l+l*d<=4096*h:=by
 have k:(4096*l+l*d)*(4096*l+l*d)<=(4096*h)*(4096*h):=by
  have e:(4096*l+l*d)*(4096*l+l*d)=l*l*(16777216+8192*d+d*d):=by grind
  have dd:d*d<=d:=by
   have:=xI hd1 hd;grind
  have m:=xI (show 16777216+8192*d+d*d<=16777216+16384*d by grind) (mul_self_nn l);rw[e];refine xO m ?_;grind
 exact sq_mon (by have:=xL hl hd;grind) (by grind) k
theorem grow1 (ha:1<=a) (ha2:a<=20) (hb:1<=b) (hb2:b<=20) (h0:0<x) (hxy:x<=y) (hy:y+y<=1) (hl:0<l) (A:Lo1 a b x l) (B:Hi1 a b y h):4096*l+l*(y-x)<=4096*h:=by
 obtain⟨B0,K',B⟩:=B;rcases A with A|⟨K,A⟩
 ·exact absurd A (by grind)
 refine sq_part (by grind) B0 (by grind) (by grind) ?_;have g:=A (max (max K K') 160) (by omega);have g':=B (max (max K K') 160) (by omega);have m:=shG_grow (a:=a) (b:=b) (k:=max (max K K') 160) (M:=2048) ha ha2 hb2 (by omega) h0 hxy hy fun z z0 z1=>sR_most ha ha2 hb hb2 z0 z1 _
 have C:0<=fsC a b*fsC a b:=mul_self_nn _;have m2:=xI m C;have g2:=xA g (show 0<=2048+2*(y-x) by grind);generalize shG a b (max (max K K') 160) x=u at *
 generalize shG a b (max (max K K') 160) y=v at *
 generalize fsC a b*fsC a b=w at *
 grind
theorem half1 (ha:1<=a) (ha2:a<=20) (hb:1<=b) (hb2:b<=20):Hi1 a b (1/2) (hfHi a b):=by
 refine⟨hfHi_nn ha ha2 hb hb2,160,fun m hm => ?_⟩;have hh:(1/2:Rat)+1/2=1:=by decide +kernel
 have h2:(0:Rat)<=1/2:=by decide +kernel
 have e1:(1:Rat)-1/2=1/2:=by decide +kernel
 have t:=sh_hi (a:=a) (b:=b) (k:=m) (x:=1/2) (sx:=S2) (sy:=S2) h2 (by decide +kernel) S2_sq.1 (by rw[e1];exact S2_sq.1);rw[fstR_is]at t;have G:=fsG_nn ha hb;have F:=xL G (xL (rtF_nn a S2_nn) (rtF_nn b S2_nn));have s:=xI (sR_top (a:=a) (b:=b) (k:=120) (m:=m) h2 (by rw[hh];exact xi)) F;have s0:=xL F (sR_nnH (a:=a) (b:=b) h2 m);unfold hfHi;exact xO t (mul_both s s (xO s0 s) s0)
theorem cross (ha:1<=a) (ha2:a<=20) (hb:1<=b) (hb2:b<=20) (h0:0<x) (hx:x+x<=1) (hl:0<l) (A:Lo1 a b x l):4096*l+l*(1/2-x)<=4096*hfHi a b:=by
 have hh:(1/2:Rat)+1/2=1:=by decide +kernel
 have H:=half1 ha ha2 hb hb2;generalize (1/2:Rat)=hf at *
 exact grow1 ha ha2 hb hb2 h0 (by grind) (by grind) hl A H
theorem gap (ha:1<=a) (ha2:a<=20) (hb:1<=b) (hb2:b<=20) (h0:0<x) (hxy:x<=y) (hy:y<1) (hc:0<c) (hl:c<=l) (hh:h<=1-c) (A:LoS a b x l) (B:HiS a b y h) :
  (4096*l+c*(y-x))*18014398509481984<=4096*h*18014398509481984+1:=by
 have l0:0<l:=by grind
 have n0:0<1-h:=by grind
 have cd:=fun (z:Rat) (hz:0<=z)=>xA hl hz
 have ce:=fun (z:Rat) (hz:0<=z)=>xA (show c<=1-h by grind) hz
 rcases A with⟨k,A⟩|⟨k,A⟩<;>rcases B with⟨k',B⟩|⟨k',B⟩
 ·have g:=grow1 ha ha2 hb hb2 h0 hxy k' l0 A B;have:=cd (y-x) (by grind);grind
 ·have g:=cross ha ha2 hb hb2 h0 k l0 A;have g':=cross hb hb2 ha ha2 (show 0<1-y by grind) (by grind) n0 B;have s:=(hf_sum ha hb ha2 hb2).2;have hf2:(1/2:Rat)+1/2=1:=by decide +kernel
  generalize (1/2:Rat)=hf at *
  have u1:=cd (hf-x) (by grind);have u2:=ce (hf-(1-y)) (by grind);have e:c*(y-x)=c*(hf-x)+c*(hf-(1-y)):=by grind
  rw[Rat.add_mul,e];generalize hfHi a b=w1 at *
  generalize hfHi b a=w2 at *
  generalize c*(hf-x)=c1 at *
  generalize c*(hf-(1-y))=c2 at *
  generalize l*(hf-x)=c3 at *
  generalize (1-h)*(hf-(1-y))=c4 at *
  clear cd ce A B e;grind
 ·exact absurd k (by grind)
 ·have g:=grow1 hb hb2 ha ha2 (show 0<1-y by grind) (show 1-y<=1-x by grind) (by grind) n0 B A;have:=ce (1-x-(1-y)) (by grind);have e:1-x-(1-y)=y-x:=by grind
  rw[e]at g this;grind
end
section
variable {a b:Nat} {x l h:Rat}
theorem lo_hi1 (A:Lo1 a b x l) (B:Hi1 a b x h):l<=h:=by
 obtain⟨B0,K',B⟩:=B;rcases A with A|⟨K,A⟩
 ·grind
 ·have g:=A (max K K') (by omega);have g':=B (max K K') (by omega);rcases zV (a:=l) (b:=0) with l0|l0
  ·grind
  ·exact sq_mon l0 B0 (xO g g')
theorem lo_hi (A:LoS a b x l) (B:HiS a b x h):l<=h:=by
 rcases A with⟨k,A⟩|⟨k,A⟩<;>rcases B with⟨k',B⟩|⟨k',B⟩
 ·exact lo_hi1 A B
 ·exact absurd k (by grind)
 ·exact absurd k' (by grind)
 ·have:=lo_hi1 B A;grind
end
end Go.Proofs.YtfknkoeagjonbaaGreat
namespace Go.Proofs.YtfknkoeagjonbaaGreat
open Go.Ev
section
variable {a b p A B:Nat} {x l h:Rat}
theorem told_dn (A p:Nat):toldLo A p*p2 (p+300)<=(A:Rat):=by
 have e:p2 (p+300)=p2 (p+2)*p2 (p+300-(p+2)):=by rw[<- p2_plus];congr 1;omega
 have m:=mk_p2n (A/2^(p+300-(p+2))) (p+2);unfold toldLo;rw[e,<- wP,m];exact floor_le
theorem told_up (B p:Nat):(B:Rat)<=toldHi B p*p2 (p+300):=by
 have e:p2 (p+300)=p2 (p+2)*p2 (p+300-(p+2)):=by rw[<- p2_plus];congr 1;omega
 have m:=mk_p2n (B/2^(p+300-(p+2))+1) (p+2);unfold toldHi;rw[e,<- wP,m];exact le_floor (xM (by omega))
theorem row_Lo1 (rs:RowS a b (p+300) x A B):Lo1 a b x (toldLo A p):=by
 by_cases t0:toldLo A p<=0
 ·exact .inl t0
 obtain⟨K,hK⟩:=rs;refine .inr ⟨K,fun m hm => ?_⟩;have g:=(hK m hm).1;have P:=p2_pos (p+300);have t:=told_dn A p;have tn:0<=toldLo A p*p2 (p+300):=xL (by grind) (xX P);have mm:=mul_both t t (nat_nonneg A) tn;refine le_by (ya P P) ?_;generalize toldLo A p=u at *
 generalize p2 (p+300)=w at *
 have e:u*u*(w*w)=u*w*(u*w):=by grind
 rw[e];exact xO mm g
theorem row_Hi1 (rs:RowS a b (p+300) x A B):Hi1 a b x (toldHi B p):=by
 obtain⟨K,hK⟩:=rs;refine⟨hi_nn,K,fun m hm => ?_⟩;have g:=(hK m hm).2;have P:=p2_pos (p+300);have t:=told_up B p;have mm:=mul_both t t (xO (nat_nonneg B) t) (nat_nonneg B);refine le_by (ya P P) ?_;generalize toldHi B p=u at *
 generalize p2 (p+300)=w at *
 have e:u*u*(w*w)=u*w*(u*w):=by grind
 rw[e];exact xO g mm
theorem ball_LoHi (g:BallS a b p x l h):LoS a b x l/\HiS a b x h:=by
 rcases g with⟨k,A,B,rs,-,rfl,rfl⟩|⟨k,A,B,rs,-,rfl,rfl⟩
 ·exact⟨.inl ⟨k,row_Lo1 rs⟩,.inl ⟨k,row_Hi1 rs⟩⟩
 ·refine⟨.inr ⟨k,?_⟩,.inr ⟨k,?_⟩⟩
  ·rw[show 1-(1-toldHi B p)=toldHi B p by grind];exact row_Hi1 rs
  ·rw[show 1-(1-toldLo A p)=toldLo A p by grind];exact row_Lo1 rs
theorem told_wide {A B p:Nat} (h:B<=A+2^131):(toldHi B p-toldLo A p)*p2 p<=1:=by
 unfold toldLo toldHi;obtain⟨F,hF,hF2⟩ : ∃F:Nat,F=p+300-(p+2)/\131<=F:=⟨_,rfl,by omega⟩
 rw[<- hF];have m1:=mk_p2n (A/2^F) (p+2);have m2:=mk_p2n (B/2^F+1) (p+2);have gap:B/2^F<=A/2^F+1:=by
  have h6:2^131<=2^F:=xE (by omega) hF2;have h4:B<=A+2^F:=xG h (Nat.add_le_add_left h6 _);have h5:=xg (c:=2^F) h4;rwa [Nat.add_div_right _ (xM (by omega))]at h5
 have gapR:=nat_le_rat (Nat.add_le_add_right gap 1);have c2:((A/2^F+1+1:Nat):Rat)=((A/2^F:Nat):Rat)+2:=by exact_mod_cast rfl
 rw[c2]at gapR;have hp2:p2 (p+2)=p2 p*4:=by
  rw[p2_plus];rfl
 rw[hp2]at m1 m2;clear hF gap h hp2 c2;generalize mkRat ((A/2^F:Nat):Int) (2^(p+2))=q1 at *
 generalize mkRat ((B/2^F+1:Nat):Int) (2^(p+2))=q2 at *
 generalize p2 p=w at *
 grind
theorem incb_ballX {L:Nat} {v:SV} (hv:RatA v x L) (hL1:1<=L) (hL:L<=245) (ha:1<=a) (ha2:a<=22) (hb:1<=b) (hb2:b<=22) (hp:p<=200) (h0:0<x) (h1:x<1) :
  ∃l h:Rat,Go.Ev.Fn CX 53 [.int .i64 (a:Int),.int .i64 (b:Int),v,.int .i64 (p:Int)] (.tup [ballR l h,.bool true])/\szR l 200/\szR h 200/\l<=h/\(h-l)*p2 p<=1/\BallS a b p x l h:=by
 have zx:=szR_of hv hL1;have one1:szR 1 1:=⟨lim_len_lt (by decide +kernel),lim_len_lt (by decide +kernel)⟩
 by_cases hh:x+x<=1
 ·obtain⟨A,B,f,g2,g3,rs,wd⟩:=row_sq (a:=a) (b:=b) (p:=p) zx hL1 (by omega) ha ha2 hb hb2 (by omega) (xX h0) hh;have f1:=incb_I_lo hv hL1 (by omega) ha ha2 hb hb2 (by omega) h0 hh f ⟨g2,g3⟩;obtain⟨z1,z2⟩:=told_sz (p:=p) (by omega) g2 g3;have g:BallS a b p x _ _ := .inl ⟨hh,A,B,rs,rows_ab rs,rfl,rfl⟩;exact⟨_,_,f1,szR_mono z1,szR_mono z2,ball_le g,told_wide wd,g⟩
 ·have zy:=szR_sub one1 zx;have hh':1<x+x:=by grind
  obtain⟨A,B,f,g2,g3,rs,wd⟩:=row_sq (x:=1-x) (a:=b) (b:=a) (p:=p) zy (by omega) (by omega) hb hb2 ha ha2 (by omega) (by grind) (by grind);have f1:=incb_I_hi hv hL1 (by omega) ha ha2 hb hb2 (by omega) hh' h1 f ⟨g2,g3⟩;obtain⟨z1,z2⟩:=told_sz (p:=p) (by omega) g2 g3;have g:BallS a b p x _ _ := .inr ⟨hh',A,B,rs,rows_ab rs,rfl,rfl⟩;have w:=told_wide (p:=p) wd;exact⟨_,_,f1,szR_mono (szR_sub one1 z2),szR_mono (szR_sub one1 z1),ball_le g,by rw[show 1-toldLo A p-(1-toldHi B p)=toldHi B p-toldLo A p by grind];exact w,g⟩
theorem incb_ballW {L:Nat} {v:SV} (hv:RatA v x L) (hL1:1<=L) (hL:L<=245) (ha:1<=a) (ha2:a<=22) (hb:1<=b) (hb2:b<=22) (hp:p<=200) (h0:0<x) (h1:x<1) :
  ∃l h:Rat,Go.Ev.Fn CX 53 [.int .i64 (a:Int),.int .i64 (b:Int),v,.int .i64 (p:Int)] (.tup [ballR l h,.bool true])/\szR l 200/\szR h 200/\l<=h/\(h-l)*p2 p<=1/\LoS a b x l/\HiS a b x h:=by
 obtain⟨l,h,f,z1,z2,le,w,g⟩:=incb_ballX hv hL1 hL ha ha2 hb hb2 hp h0 h1;exact⟨l,h,f,z1,z2,le,w,(ball_LoHi g).1,(ball_LoHi g).2⟩
end
end Go.Proofs.YtfknkoeagjonbaaGreat
namespace Go.Proofs.YtfknkoeagjonbaaGreat
open Go.Ev
theorem blen_half {x:Nat} (h:x≠0):blen x=blen (x/2)+1:=by
 have h1:=blen_iff (x:=x) (k:=blen x);have h2:=blen_iff (x:=x/2) (k:=blen (x/2));have h3:=blen_iff (x:=x) (k:=blen (x/2)+1);have h4:=blen_iff (x:=x/2) (k:=blen x-1);have h5:blen x≠0:=fun e=>by rw[e]at h1;simp at h1;omega
 have h6:x<2^blen x:=h1.1 (xU _);have h7:x/2<2^blen (x/2):=h2.1 (xU _);rw[xW]at h3;have h8:2^blen x=2^(blen x-1)*2:=by rw[<- xW,Nat.succ_eq_add_one,show blen x-1+1=blen x by omega]
 have h9:=h3.2 (by omega);have h10:=h4.2 (by omega);omega
theorem ref1_Bits {N:Nat} (h:(lim N).length<=1000000:=by omega):Go.Ev.Fn CX 313 [natV (lim N)] (.int .i64 (blen N:Nat)):=by
 have t:=ref1_Trim (lim N) (okL_lim N);rw[wth_lim]at t;by_cases h0:N=0
 ·subst h0;have e:(lim 0).length=0:=by rw[lim_zero];rfl
  have e2:blen 0=0:=rfl;rw[e2];refine fni Tryz.f313 ?_;unfold Tryz.f313;repeat (first|simp only[go_sem]|simp (disch:=first|exact omg|fail) only[AX]|refine wki ?_|refine vfa ?_)
  rfl
 ·have e:=blen_lims N h0;have hl:=lim_pos h0;have hg:=getD_lt (okL_lim N) ((lim N).length-1);have hb:blen ((lim N).getD ((lim N).length-1) 0)<=32:=blen_iff.2 hg;rw[e];generalize hgx:(lim N).getD ((lim N).length-1) 0=x at *
  generalize hcs:lim N=cs at *
  refine fni Tryz.f313 ?_;unfold Tryz.f313;repeat (first|simp only[go_sem,hgx]|simp (disch:=first|exact omg|fail) only[AX,hgx]|refine wki ?_|refine vfa ?_)
  refine vp_loop_inv (fun s => ∃y:Nat,y<4294967296/\blen y<=32/\s.tmp 5 = .sv (.int .u32 (y:Int))/\blen y<=blen x/\s.tmp 4 = .sv (.int .i64 ((32*(cs.length-1)+(blen x-blen y):Nat):Int)))
   (fun s=>match s.tmp 5 with | .sv (.int _ i)=>i.toNat|_=>0) ⟨x,hg,hb,rfl,xU _,by rw[Nat.sub_self,yJ];first|rfl|(congr 2;omega)⟩ ?_
  rintro s ⟨y,g1,g2,i5,g3,i4⟩
  by_cases hy:y=0
  ·subst hy;rw[show blen 0=0 from rfl,Nat.sub_zero]at i4;repeat (first|simp only[go_sem,i5,i4]|simp (disch:=first|exact omg|fail) only[AX,i5,i4]|refine wki ?_)
  ·have e2:=blen_half hy;repeat (first|simp only[go_sem,i5,i4]|simp (disch:=first|exact omg|fail) only[AX,i5,i4]|refine wki ?_)
   exact⟨⟨y/2,by omega,by omega,by first|rfl|(congr 2;omega),by omega,by first|rfl|(congr 2;omega)⟩,by omega⟩
theorem ref4_root {a:Nat} (h:(lim a).length<=100:=by omega):Go.Ev.Fn CX 299 [natV (lim a)] (natV (lim (rtN a))):=by
 have b:=ref1_Bits (N:=a);have hb:a<2^blen a:=blen_iff.1 (xU _);have hB:blen a<=3200:=by
  obtain⟨K,hK⟩ : ∃K:Nat,K=3200:=⟨_,rfl⟩
  rw[<- hK];refine blen_iff.2 (xr lim_len_pow ?_);rw[show (4294967296:Nat)=2^32 from rfl,<- zJ];exact xE (by omega) (by omega)
 generalize hBB:blen a=B at *
 have hK:a<2^((B+1)/2)*2^((B+1)/2):=by
  rw[<- xN];exact xr hb (xE (by omega) (by omega))
 have tq:((B:Int)+1).tdiv 2=(((B+1)/2:Nat):Int):=_root_.id rfl;have tq2:((B+1:Nat):Int).tdiv 2=(((B+1)/2:Nat):Int):=_root_.id rfl;refine fni Tryz.f299 ?_;unfold Tryz.f299;repeat (first|simp only[go_sem,tq,tq2]|simp (disch:=first|exact omg|fail) only[AX,tq,tq2]|refine wki ?_|refine vfa ?_)
 refine vp_loop_inv (fun s=>s.tmp 0 = .sv (natV (lim a)) /\ ∃k r:Nat,k<=1602/\s.tmp 4 = .sv (.int .i64 ((k:Int)-1))/\(s.tmp 3 = .sv (natV (lim r))\/r=0/\s.tmp 3 = .nil)/\r*r<=a/\a<(r+2^k)*(r+2^k))
  (fun s=>match s.tmp 4 with | .sv (.int _ i)=>(i+1).toNat|_=>0) ?_ ?_
 ·refine⟨rfl,(B+1)/2+1,0,by omega,by rw[show ((((B+1)/2+1:Nat):Int)-1)=(((B+1)/2:Nat):Int) by omega];rfl,.inr ⟨rfl,rfl⟩,by omega,?_⟩;rw[yf,xW];have:=xJ (yg (2^((B+1)/2)) (show 0<2 by omega)) (yg (2^((B+1)/2)) (show 0<2 by omega));omega
 rintro s ⟨i0,k,r,hk,i4,i3,g1,g2⟩
 rcases xl k with h0|h0
 ·subst h0;obtain rfl:=rtN_eq g1 g2;rcases i3 with i3|⟨e,i3⟩
  ·repeat (first|simp only[go_sem,i0,i4,i3]|simp (disch:=first|exact omg|fail) only[AX,i0,i4,i3]|refine wki ?_)
  ·rw[e,lim_zero];repeat (first|simp only[go_sem,i0,i4,i3]|simp (disch:=first|exact omg|fail) only[AX,i0,i4,i3]|refine wki ?_)
   rfl
 ·obtain⟨j,rfl⟩ : ∃j,k=j+1:=⟨k-1,by omega⟩
  have p:=ref4_pow2 (n:=j);have l:=lim_len_shl (a:=1) (n:=j);have l1:=lim_len1;rw[xe]at l;have lr:(lim r).length<=100:=xG (lim_len_mono (by rcases xl r with e|e;(omega);(have:=zL r e;omega))) h;have s1:=ref1_AddL (N:=r) (D:=2^j);have l2:=lim_len_add (a:=r) (b:=2^j) (L:=200);have m:=ref1_MulL (N:=r+2^j) (D:=r+2^j);have l3:=lim_len_mul (a:=r+2^j) (b:=r+2^j);have c:=ref1_CmpL (N:=(r+2^j)*(r+2^j)) (D:=a);have e1:decide (cmpN ((r+2^j)*(r+2^j)) a<=0)=decide ((r+2^j)*(r+2^j)<=a):=decide_eq_decide.2 (by unfold cmpN;split<;>(try split)<;>omega);have e4:((j+1:Nat):Int)-1=(j:Int):=by omega
  rw[e4]at i4;generalize hz:cmpN ((r+2^j)*(r+2^j)) a=z at *
  by_cases hle:(r+2^j)*(r+2^j)<=a
  ·rw[decide_eq_true hle]at e1;rw[show r+2^(j+1)=r+2^j+2^j by rw[xW];omega]at g2;generalize hu:(r+2^j)*(r+2^j)=u at *
   generalize hv:r+2^j=v at *
   generalize hw:(v+2^j)*(v+2^j)=w at *
   rcases i3 with i3|⟨e,i3⟩
   ·repeat (first|simp only[go_sem,i0,i4,i3]|simp (disch:=first|exact omg|fail) only[AX,i0,i4,i3]|refine wki ?_)
    repeat (first|simp only[go_sem,i0,i4,i3,e1]|simp (disch:=first|exact omg|fail) only[AX,i0,i4,i3,e1]|refine wki ?_|refine vfa ?_)
    exact⟨⟨j,v,by omega,by first|rfl|(congr 2;omega),.inl rfl,by rw[hu];exact hle,by rw[hw];exact g2⟩,by omega⟩
   ·subst e;rw[lim_zero]at s1;repeat (first|simp only[go_sem,i0,i4,i3,e1]|simp (disch:=first|exact omg|fail) only[AX,i0,i4,i3,e1]|refine wki ?_|refine vfa ?_)
    exact⟨⟨j,v,by omega,by first|rfl|(congr 2;omega),.inl rfl,by rw[hu];exact hle,by rw[hw];exact g2⟩,by omega⟩
  ·rw[decide_eq_false hle]at e1;generalize hu:(r+2^j)*(r+2^j)=u at *
   generalize hv:r+2^j=v at *
   rcases i3 with i3|⟨e,i3⟩
   ·repeat (first|simp only[go_sem,i0,i4,i3]|simp (disch:=first|exact omg|fail) only[AX,i0,i4,i3]|refine wki ?_)
    repeat (first|simp only[go_sem,i0,i4,i3,e1]|simp (disch:=first|exact omg|fail) only[AX,i0,i4,i3,e1]|refine wki ?_|refine vfa ?_)
    exact⟨⟨j,r,by omega,by first|rfl|(congr 2;omega),.inl (by first|rfl|exact i3),g1,by rw[hv,hu];omega⟩,by omega⟩
   ·subst e;rw[lim_zero]at s1;repeat (first|simp only[go_sem,i0,i4,i3,e1]|simp (disch:=first|exact omg|fail) only[AX,i0,i4,i3,e1]|refine wki ?_|refine vfa ?_)
    exact⟨⟨j,0,by omega,by first|rfl|(congr 2;omega),.inr (by first|rfl|exact⟨rfl,rfl⟩|exact⟨rfl,i3⟩),g1,by rw[hv,hu];omega⟩,by omega⟩
theorem ref4_Sqrt {a b w:Nat} (ha:(lim a).length<=60) (hb:(lim b).length<=60) (hw:w<=1000):Go.Ev.Fn CX 255 [ivV (a:Int) (b:Int),.int .i64 (w:Int)] (ivV (rtN (a*2^w):Int) ((rtN (b*2^w)+1:Nat):Int)):=by
 have s1:=ref1_shl (N:=a) (m:=w);have s2:=ref1_shl (N:=b) (m:=w);have l1:=lim_len_shl (a:=a) (n:=w);have l2:=lim_len_shl (a:=b) (n:=w);have r1:=ref4_root (a:=a*2^w);have r2:=ref4_root (a:=b*2^w);have o:=ref4_Whole 1;have l3:=lim_len_mono (rtN_self (b*2^w));have l4:(lim (rtN (b*2^w):Int).natAbs).length<=1000:=by rw[xK];omega
 have p:=ref4_Plus (rtN (b*2^w):Int) 1 (by omega) (xG lim_len1 (by omega));have q : ∀n:Nat,intV (n:Int) = .agg [.bool false,natV (lim n)]:=fun n=>iv_eq (xK n) (decide_eq_false (by omega))
 rw[show ((rtN (b*2^w):Int)+1)=((rtN (b*2^w)+1:Nat):Int) from rfl,q,q]at p;have qq : ∀m n:Nat,ivV (m:Int) (n:Int) = .agg [.bool false,natV (lim m),.bool false,natV (lim n)]:=fun m n=>by
  show SV.agg [.bool (decide ((m:Int)<0)),natV (lim (m:Int).natAbs),.bool (decide ((n:Int)<0)),natV (lim (n:Int).natAbs)]=_;rw[xK,xK,decide_eq_false (by omega),decide_eq_false (by omega)]
 rw[qq,qq];generalize rtN (b*2^w)+1=y at *
 generalize rtN (b*2^w)=z at *
 generalize rtN (a*2^w)=x at *
 generalize a*2^w=u at *
 generalize b*2^w=v at *
 refine fni Tryz.f255 ?_;unfold Tryz.f255;repeat (first|simp only[go_sem]|simp (disch:=first|exact omg|fail) only[AX]|refine wki ?_|refine vpd 1 [7,9,14,16] ?_|refine vfa ?_)
end Go.Proofs.YtfknkoeagjonbaaGreat
namespace Go.Proofs.YtfknkoeagjonbaaGreat
open Go.Ev
def mnZ (m x:Int):Int:=if x<m then x else m
def mxZ (m x:Int):Int:=if m<x then x else m
def loP (p1 p2 p3 p4:Int):Nat->Int
 |0=>p1
 |1=>p1
 |2=>mnZ p1 p2
 |3=>mnZ (mnZ p1 p2) p3
 |_=>mnZ (mnZ (mnZ p1 p2) p3) p4
def hiP (p1 p2 p3 p4:Int):Nat->Int
 |0=>p1
 |1=>p1
 |2=>mxZ p1 p2
 |3=>mxZ (mxZ p1 p2) p3
 |_=>mxZ (mxZ (mxZ p1 p2) p3) p4
def loQ (a b c d:Int):Int:=loP (a*c) (a*d) (b*c) (b*d) 4
def hiQ (a b c d:Int):Int:=hiP (a*c) (a*d) (b*c) (b*d) 4
theorem cmpZ_lt {a b:Int}:decide (cmpZ a b<0)=decide (a<b):=decide_eq_decide.2 (by unfold cmpZ;split<;>(try split)<;>omega)
theorem cmpZ_gt {a b:Int}:decide (cmpZ a b>0)=decide (b<a):=decide_eq_decide.2 (by unfold cmpZ;split<;>(try split)<;>omega)
theorem cmpZ_le {a b:Int}:decide (cmpZ a b<=0)=decide (a<=b):=decide_eq_decide.2 (by unfold cmpZ;split<;>(try split)<;>omega)
theorem mnZ_is (m x:Int):mnZ m x=m\/mnZ m x=x:=by unfold mnZ;split<;>simp
theorem loP_is (p1 p2 p3 p4:Int) (i:Nat):loP p1 p2 p3 p4 i=p1\/loP p1 p2 p3 p4 i=p2\/loP p1 p2 p3 p4 i=p3\/loP p1 p2 p3 p4 i=p4:=by
 have h2:=mnZ_is p1 p2;have h3:=mnZ_is (mnZ p1 p2) p3;have h4:=mnZ_is (mnZ (mnZ p1 p2) p3) p4;match i with
 |0=>exact .inl rfl
 |1=>exact .inl rfl
 |2=>show mnZ p1 p2=_\/mnZ p1 p2=_\/mnZ p1 p2=_\/mnZ p1 p2=_;omega
 |3=>simp only[loP];omega
 |_+4=>simp only[loP];omega
theorem mxZ_is (m x:Int):mxZ m x=m\/mxZ m x=x:=by unfold mxZ;split<;>simp
theorem hiP_is (p1 p2 p3 p4:Int) (i:Nat):hiP p1 p2 p3 p4 i=p1\/hiP p1 p2 p3 p4 i=p2\/hiP p1 p2 p3 p4 i=p3\/hiP p1 p2 p3 p4 i=p4:=by
 have h2:=mxZ_is p1 p2;have h3:=mxZ_is (mxZ p1 p2) p3;have h4:=mxZ_is (mxZ (mxZ p1 p2) p3) p4;match i with
 |0=>exact .inl rfl
 |1=>exact .inl rfl
 |2=>show mxZ p1 p2=_\/mxZ p1 p2=_\/mxZ p1 p2=_\/mxZ p1 p2=_;omega
 |3=>simp only[hiP];omega
 |_+4=>simp only[hiP];omega
set_option maxHeartbeats 1000000 in
theorem ref4_Prod {a b c d:Int} {w:Nat} (ha:(lim a.natAbs).length<=10000) (hb:(lim b.natAbs).length<=10000) (hc:(lim c.natAbs).length<=10000) (hd:(lim d.natAbs).length<=10000) (hw:w<=4096) (h0:0<w) :
  Go.Ev.Fn CX 190 [ivV a b,ivV c d,.int .i64 (w:Int)] (ivV (loQ a b c d/((2^w:Nat):Int)) (cdZ (hiQ a b c d) (2^w))):=by
 have m1:=ref4_Times a c;have m2:=ref4_Times a d;have m3:=ref4_Times b c;have m4:=ref4_Times b d;have l1:(lim (a*c).natAbs).length<=20000:=by rw[Int.natAbs_mul];have:=lim_len_mul (a:=a.natAbs) (b:=c.natAbs);omega
 have l2:(lim (a*d).natAbs).length<=20000:=by rw[Int.natAbs_mul];have:=lim_len_mul (a:=a.natAbs) (b:=d.natAbs);omega
 have l3:(lim (b*c).natAbs).length<=20000:=by rw[Int.natAbs_mul];have:=lim_len_mul (a:=b.natAbs) (b:=c.natAbs);omega
 have l4:(lim (b*d).natAbs).length<=20000:=by rw[Int.natAbs_mul];have:=lim_len_mul (a:=b.natAbs) (b:=d.natAbs);omega
 unfold loQ hiQ;generalize a*c=p1 at *
 generalize a*d=p2 at *
 generalize b*c=p3 at *
 generalize b*d=p4 at *
 have lL : ∀i,(lim (loP p1 p2 p3 p4 i).natAbs).length<=20000:=by
  intro i;rcases loP_is p1 p2 p3 p4 i with h|h|h|h<;>rw[h]<;>assumption
 have lH : ∀i,(lim (hiP p1 p2 p3 p4 i).natAbs).length<=20000:=by
  intro i;rcases hiP_is p1 p2 p3 p4 i with h|h|h|h<;>rw[h]<;>assumption
 have s1:=ref4_Less (loP p1 p2 p3 p4 4) w (by have:=lL 4;omega) hw h0;have s2:=ref4_More (hiP p1 p2 p3 p4 4) w (by have:=lH 4;omega) hw h0;have L1:loP p1 p2 p3 p4 1=p1:=rfl;have H1:hiP p1 p2 p3 p4 1=p1:=rfl;have L2:loP p1 p2 p3 p4 2=mnZ (loP p1 p2 p3 p4 1) p2:=rfl;have H2:hiP p1 p2 p3 p4 2=mxZ (hiP p1 p2 p3 p4 1) p2:=rfl;have L3:loP p1 p2 p3 p4 3=mnZ (loP p1 p2 p3 p4 2) p3:=rfl;have H3:hiP p1 p2 p3 p4 3=mxZ (hiP p1 p2 p3 p4 2) p3:=rfl;have L4:loP p1 p2 p3 p4 4=mnZ (loP p1 p2 p3 p4 3) p4:=rfl;have H4:hiP p1 p2 p3 p4 4=mxZ (hiP p1 p2 p3 p4 3) p4:=rfl;generalize loP p1 p2 p3 p4=lo at *
 generalize hiP p1 p2 p3 p4=hi at *
 generalize hX:lo 4/((2^w:Nat):Int)=X at *
 generalize hY:cdZ (hi 4) (2^w)=Y at *
 clear hX hY ha hb hc hd;refine fni Tryz.f190 ?_;unfold Tryz.f190;repeat (first|simp only[go_sem]|simp (disch:=first|exact omg|fail) only[AX]|refine wki ?_|refine vpd 1 [] ?_|refine vpd 2 [] ?_|refine vpd 6 [] ?_|refine vpd 8 [] ?_|refine vpd 10 [] ?_|refine vfa ?_)
 refine vp_loop_inv (fun s=>s.tmp 2 = .sv (.int .i64 (w:Int))/\s.tmp 6 = .ptr 6 0 0/\s.obj 6 0=some [.bool false,.sl 0 [],.bool false,.sl 0 []]/\s.tmp 7 = .sv (.sl 4 [.bool (decide (p1<0)),natV (lim p1.natAbs),.bool (decide (p2<0)),natV (lim p2.natAbs),.bool (decide (p3<0)),natV (lim p3.natAbs),.bool (decide (p4<0)),natV (lim p4.natAbs)])/\s.tmp 8 = .ptr 8 0 0/\s.tmp 9 = .ptr 9 0 0 /\
   ∃i:Nat,s.tmp 10 = .sv (.int .i64 (i:Int))/\1<=i/\i<=4/\s.obj 8 0=some [.bool (decide (lo i<0)),natV (lim (lo i).natAbs)]/\s.obj 9 0=some [.bool (decide (hi i<0)),natV (lim (hi i).natAbs)])
  (fun s=>match s.tmp 10 with | .sv (.int _ i)=>4-i.toNat|_=>0) ⟨rfl,rfl,rfl,rfl,rfl,rfl,1,rfl,by omega,by omega,by first|(rw[L1];done)|(rw[L1];rfl)|(rw[L1];exact o8)|(rw[L1];exact o9),by first|(rw[H1];done)|(rw[H1];rfl)|(rw[H1];exact o8)|(rw[H1];exact o9)⟩ ?_
 rintro s ⟨i2,i6,o6,i7,i8,i9,i,i10,g1,g2,o8,o9⟩
 obtain rfl|rfl|rfl|rfl:i=4\/i=1\/i=2\/i=3:=by omega
 ·repeat (first|simp only[go_sem,i2,i6,o6,i7,i8,i9,i10,o8,o9]|simp (disch:=first|exact omg|fail) only[AX,i2,i6,o6,i7,i8,i9,i10,o8,o9]|refine wki ?_|refine vpd 1 [] ?_|refine vpd 2 [] ?_|refine vpd 6 [] ?_|refine vpd 8 [] ?_|refine vpd 10 [] ?_)
  repeat (first|simp only[go_sem,i2,i6,o6,i7,i8,i9,i10,o8,o9]|simp (disch:=first|exact omg|fail) only[AX,i2,i6,o6,i7,i8,i9,i10,o8,o9]|refine wki ?_|refine vpd 1 [] ?_|refine vpd 2 [] ?_|refine vpd 6 [] ?_|refine vpd 8 [] ?_|refine vpd 10 [] ?_|refine vfa ?_)
 ·have c1:=ref4_Cmp p2 (lo 1) (by omega) (by have:=lL 1;omega);have c2:=ref4_Cmp p2 (hi 1) (by omega) (by have:=lH 1;omega);have c3:=ref4_Cmp p2 (hi 1) (by omega) (by have:=lH 1;omega);have e1:=cmpZ_lt (a:=p2) (b:=lo 1);have e2:=cmpZ_gt (a:=p2) (b:=hi 1);generalize cmpZ p2 (lo 1)=z1 at *
  generalize cmpZ p2 (hi 1)=z2 at *
  by_cases k1:p2<lo 1
  ·rw[decide_eq_true k1]at e1;rw[mnZ,if_pos k1]at L2;by_cases k2:hi 1<p2
   ·rw[decide_eq_true k2]at e2;rw[mxZ,if_pos k2]at H2;clear k1 k2;repeat (first|simp only[go_sem,i2,i6,o6,i7,i8,i9,i10,o8,o9,e1,e2]|simp (disch:=first|exact omg|fail) only[AX,i2,i6,o6,i7,i8,i9,i10,o8,o9,e1,e2]|refine wki ?_|refine vpd 1 [] ?_|refine vpd 2 [] ?_|refine vpd 6 [] ?_|refine vpd 8 [] ?_|refine vpd 10 [] ?_|refine vfa ?_)
    exact⟨2,rfl,by omega,by omega,by first|(rw[L2];done)|(rw[L2];rfl)|(rw[L2];exact o8)|(rw[L2];exact o9),by first|(rw[H2];done)|(rw[H2];rfl)|(rw[H2];exact o8)|(rw[H2];exact o9)⟩
   ·rw[decide_eq_false k2]at e2;rw[mxZ,if_neg k2]at H2;clear k1 k2;repeat (first|simp only[go_sem,i2,i6,o6,i7,i8,i9,i10,o8,o9,e1,e2]|simp (disch:=first|exact omg|fail) only[AX,i2,i6,o6,i7,i8,i9,i10,o8,o9,e1,e2]|refine wki ?_|refine vpd 1 [] ?_|refine vpd 2 [] ?_|refine vpd 6 [] ?_|refine vpd 8 [] ?_|refine vpd 10 [] ?_|refine vfa ?_)
    exact⟨2,rfl,by omega,by omega,by first|(rw[L2];done)|(rw[L2];rfl)|(rw[L2];exact o8)|(rw[L2];exact o9),by first|(rw[H2];done)|(rw[H2];rfl)|(rw[H2];exact o8)|(rw[H2];exact o9)⟩
  ·rw[decide_eq_false k1]at e1;rw[mnZ,if_neg k1]at L2;by_cases k2:hi 1<p2
   ·rw[decide_eq_true k2]at e2;rw[mxZ,if_pos k2]at H2;clear k1 k2;repeat (first|simp only[go_sem,i2,i6,o6,i7,i8,i9,i10,o8,o9,e1,e2]|simp (disch:=first|exact omg|fail) only[AX,i2,i6,o6,i7,i8,i9,i10,o8,o9,e1,e2]|refine wki ?_|refine vpd 1 [] ?_|refine vpd 2 [] ?_|refine vpd 6 [] ?_|refine vpd 8 [] ?_|refine vpd 10 [] ?_|refine vfa ?_)
    exact⟨2,rfl,by omega,by omega,by first|(rw[L2];done)|(rw[L2];rfl)|(rw[L2];exact o8)|(rw[L2];exact o9),by first|(rw[H2];done)|(rw[H2];rfl)|(rw[H2];exact o8)|(rw[H2];exact o9)⟩
   ·rw[decide_eq_false k2]at e2;rw[mxZ,if_neg k2]at H2;clear k1 k2;repeat (first|simp only[go_sem,i2,i6,o6,i7,i8,i9,i10,o8,o9,e1,e2]|simp (disch:=first|exact omg|fail) only[AX,i2,i6,o6,i7,i8,i9,i10,o8,o9,e1,e2]|refine wki ?_|refine vpd 1 [] ?_|refine vpd 2 [] ?_|refine vpd 6 [] ?_|refine vpd 8 [] ?_|refine vpd 10 [] ?_|refine vfa ?_)
    exact⟨2,rfl,by omega,by omega,by first|(rw[L2];done)|(rw[L2];rfl)|(rw[L2];exact o8)|(rw[L2];exact o9),by first|(rw[H2];done)|(rw[H2];rfl)|(rw[H2];exact o8)|(rw[H2];exact o9)⟩
 ·have c1:=ref4_Cmp p3 (lo 2) (by omega) (by have:=lL 2;omega);have c2:=ref4_Cmp p3 (hi 2) (by omega) (by have:=lH 2;omega);have c3:=ref4_Cmp p3 (hi 2) (by omega) (by have:=lH 2;omega);have e1:=cmpZ_lt (a:=p3) (b:=lo 2);have e2:=cmpZ_gt (a:=p3) (b:=hi 2);generalize cmpZ p3 (lo 2)=z1 at *
  generalize cmpZ p3 (hi 2)=z2 at *
  by_cases k1:p3<lo 2
  ·rw[decide_eq_true k1]at e1;rw[mnZ,if_pos k1]at L3;by_cases k2:hi 2<p3
   ·rw[decide_eq_true k2]at e2;rw[mxZ,if_pos k2]at H3;clear k1 k2;repeat (first|simp only[go_sem,i2,i6,o6,i7,i8,i9,i10,o8,o9,e1,e2]|simp (disch:=first|exact omg|fail) only[AX,i2,i6,o6,i7,i8,i9,i10,o8,o9,e1,e2]|refine wki ?_|refine vpd 1 [] ?_|refine vpd 2 [] ?_|refine vpd 6 [] ?_|refine vpd 8 [] ?_|refine vpd 10 [] ?_|refine vfa ?_)
    exact⟨3,rfl,by omega,by omega,by first|(rw[L3];done)|(rw[L3];rfl)|(rw[L3];exact o8)|(rw[L3];exact o9),by first|(rw[H3];done)|(rw[H3];rfl)|(rw[H3];exact o8)|(rw[H3];exact o9)⟩
   ·rw[decide_eq_false k2]at e2;rw[mxZ,if_neg k2]at H3;clear k1 k2;repeat (first|simp only[go_sem,i2,i6,o6,i7,i8,i9,i10,o8,o9,e1,e2]|simp (disch:=first|exact omg|fail) only[AX,i2,i6,o6,i7,i8,i9,i10,o8,o9,e1,e2]|refine wki ?_|refine vpd 1 [] ?_|refine vpd 2 [] ?_|refine vpd 6 [] ?_|refine vpd 8 [] ?_|refine vpd 10 [] ?_|refine vfa ?_)
    exact⟨3,rfl,by omega,by omega,by first|(rw[L3];done)|(rw[L3];rfl)|(rw[L3];exact o8)|(rw[L3];exact o9),by first|(rw[H3];done)|(rw[H3];rfl)|(rw[H3];exact o8)|(rw[H3];exact o9)⟩
  ·rw[decide_eq_false k1]at e1;rw[mnZ,if_neg k1]at L3;by_cases k2:hi 2<p3
   ·rw[decide_eq_true k2]at e2;rw[mxZ,if_pos k2]at H3;clear k1 k2;repeat (first|simp only[go_sem,i2,i6,o6,i7,i8,i9,i10,o8,o9,e1,e2]|simp (disch:=first|exact omg|fail) only[AX,i2,i6,o6,i7,i8,i9,i10,o8,o9,e1,e2]|refine wki ?_|refine vpd 1 [] ?_|refine vpd 2 [] ?_|refine vpd 6 [] ?_|refine vpd 8 [] ?_|refine vpd 10 [] ?_|refine vfa ?_)
    exact⟨3,rfl,by omega,by omega,by first|(rw[L3];done)|(rw[L3];rfl)|(rw[L3];exact o8)|(rw[L3];exact o9),by first|(rw[H3];done)|(rw[H3];rfl)|(rw[H3];exact o8)|(rw[H3];exact o9)⟩
   ·rw[decide_eq_false k2]at e2;rw[mxZ,if_neg k2]at H3;clear k1 k2;repeat (first|simp only[go_sem,i2,i6,o6,i7,i8,i9,i10,o8,o9,e1,e2]|simp (disch:=first|exact omg|fail) only[AX,i2,i6,o6,i7,i8,i9,i10,o8,o9,e1,e2]|refine wki ?_|refine vpd 1 [] ?_|refine vpd 2 [] ?_|refine vpd 6 [] ?_|refine vpd 8 [] ?_|refine vpd 10 [] ?_|refine vfa ?_)
    exact⟨3,rfl,by omega,by omega,by first|(rw[L3];done)|(rw[L3];rfl)|(rw[L3];exact o8)|(rw[L3];exact o9),by first|(rw[H3];done)|(rw[H3];rfl)|(rw[H3];exact o8)|(rw[H3];exact o9)⟩
 ·have c1:=ref4_Cmp p4 (lo 3) (by omega) (by have:=lL 3;omega);have c2:=ref4_Cmp p4 (hi 3) (by omega) (by have:=lH 3;omega);have c3:=ref4_Cmp p4 (hi 3) (by omega) (by have:=lH 3;omega);have e1:=cmpZ_lt (a:=p4) (b:=lo 3);have e2:=cmpZ_gt (a:=p4) (b:=hi 3);generalize cmpZ p4 (lo 3)=z1 at *
  generalize cmpZ p4 (hi 3)=z2 at *
  by_cases k1:p4<lo 3
  ·rw[decide_eq_true k1]at e1;rw[mnZ,if_pos k1]at L4;by_cases k2:hi 3<p4
   ·rw[decide_eq_true k2]at e2;rw[mxZ,if_pos k2]at H4;clear k1 k2;repeat (first|simp only[go_sem,i2,i6,o6,i7,i8,i9,i10,o8,o9,e1,e2]|simp (disch:=first|exact omg|fail) only[AX,i2,i6,o6,i7,i8,i9,i10,o8,o9,e1,e2]|refine wki ?_|refine vpd 1 [] ?_|refine vpd 2 [] ?_|refine vpd 6 [] ?_|refine vpd 8 [] ?_|refine vpd 10 [] ?_|refine vfa ?_)
    exact⟨4,rfl,by omega,by omega,by first|(rw[L4];done)|(rw[L4];rfl)|(rw[L4];exact o8)|(rw[L4];exact o9),by first|(rw[H4];done)|(rw[H4];rfl)|(rw[H4];exact o8)|(rw[H4];exact o9)⟩
   ·rw[decide_eq_false k2]at e2;rw[mxZ,if_neg k2]at H4;clear k1 k2;repeat (first|simp only[go_sem,i2,i6,o6,i7,i8,i9,i10,o8,o9,e1,e2]|simp (disch:=first|exact omg|fail) only[AX,i2,i6,o6,i7,i8,i9,i10,o8,o9,e1,e2]|refine wki ?_|refine vpd 1 [] ?_|refine vpd 2 [] ?_|refine vpd 6 [] ?_|refine vpd 8 [] ?_|refine vpd 10 [] ?_|refine vfa ?_)
    exact⟨4,rfl,by omega,by omega,by first|(rw[L4];done)|(rw[L4];rfl)|(rw[L4];exact o8)|(rw[L4];exact o9),by first|(rw[H4];done)|(rw[H4];rfl)|(rw[H4];exact o8)|(rw[H4];exact o9)⟩
  ·rw[decide_eq_false k1]at e1;rw[mnZ,if_neg k1]at L4;by_cases k2:hi 3<p4
   ·rw[decide_eq_true k2]at e2;rw[mxZ,if_pos k2]at H4;clear k1 k2;repeat (first|simp only[go_sem,i2,i6,o6,i7,i8,i9,i10,o8,o9,e1,e2]|simp (disch:=first|exact omg|fail) only[AX,i2,i6,o6,i7,i8,i9,i10,o8,o9,e1,e2]|refine wki ?_|refine vpd 1 [] ?_|refine vpd 2 [] ?_|refine vpd 6 [] ?_|refine vpd 8 [] ?_|refine vpd 10 [] ?_|refine vfa ?_)
    exact⟨4,rfl,by omega,by omega,by first|(rw[L4];done)|(rw[L4];rfl)|(rw[L4];exact o8)|(rw[L4];exact o9),by first|(rw[H4];done)|(rw[H4];rfl)|(rw[H4];exact o8)|(rw[H4];exact o9)⟩
   ·rw[decide_eq_false k2]at e2;rw[mxZ,if_neg k2]at H4;clear k1 k2;repeat (first|simp only[go_sem,i2,i6,o6,i7,i8,i9,i10,o8,o9,e1,e2]|simp (disch:=first|exact omg|fail) only[AX,i2,i6,o6,i7,i8,i9,i10,o8,o9,e1,e2]|refine wki ?_|refine vpd 1 [] ?_|refine vpd 2 [] ?_|refine vpd 6 [] ?_|refine vpd 8 [] ?_|refine vpd 10 [] ?_|refine vfa ?_)
    exact⟨4,rfl,by omega,by omega,by first|(rw[L4];done)|(rw[L4];rfl)|(rw[L4];exact o8)|(rw[L4];exact o9),by first|(rw[H4];done)|(rw[H4];rfl)|(rw[H4];exact o8)|(rw[H4];exact o9)⟩
end Go.Proofs.YtfknkoeagjonbaaGreat
