/- Part 8 of the proof: the evaluator, contracts of functions and their plain laws (joined by program). No condition. -/
import Derived.Test.YtfknkoeagjonbaaGreatPart7
set_option linter.unusedVariables false
set_option linter.unusedSimpArgs false
set_option maxRecDepth 100000
namespace Go.Proofs.YtfknkoeagjonbaaGreat
open Go.Ev
def mnZ (m x:Int):Int:=if x<m then x else m
def mxZ (m x:Int):Int:=if m<x then x else m
def loP (p1 p2 p3 p4:Int):Nat->Int
 |0=>p1
 |1=>p1
 |2=>mnZ p1 p2
 |3=>mnZ (mnZ p1 p2) p3
 |_=>mnZ (mnZ (mnZ p1 p2) p3) p4
def hiP (p1 p2 p3 p4:Int):Nat->Int
 |0=>p1
 |1=>p1
 |2=>mxZ p1 p2
 |3=>mxZ (mxZ p1 p2) p3
 |_=>mxZ (mxZ (mxZ p1 p2) p3) p4
def loQ (a b c d:Int):Int:=loP (a*c) (a*d) (b*c) (b*d) 4
def hiQ (a b c d:Int):Int:=hiP (a*c) (a*d) (b*c) (b*d) 4
theorem cmpZ_lt {a b:Int}:decide (cmpZ a b<0)=decide (a<b):=decide_eq_decide.2 (by unfold cmpZ;split<;>(try split)<;>omega)
theorem cmpZ_gt {a b:Int}:decide (cmpZ a b>0)=decide (b<a):=decide_eq_decide.2 (by unfold cmpZ;split<;>(try split)<;>omega)
theorem cmpZ_le {a b:Int}:decide (cmpZ a b<=0)=decide (a<=b):=decide_eq_decide.2 (by unfold cmpZ;split<;>(try split)<;>omega)
theorem mnZ_is (m x:Int):mnZ m x=m\/mnZ m x=x:=by unfold mnZ;split<;>simp
theorem loP_is (p1 p2 p3 p4:Int) (i:Nat):loP p1 p2 p3 p4 i=p1\/loP p1 p2 p3 p4 i=p2\/loP p1 p2 p3 p4 i=p3\/loP p1 p2 p3 p4 i=p4:=by
 have h2:=mnZ_is p1 p2;have h3:=mnZ_is (mnZ p1 p2) p3;have h4:=mnZ_is (mnZ (mnZ p1 p2) p3) p4;match i with
 |0=>exact .inl rfl
 |1=>exact .inl rfl
 |2=>show mnZ p1 p2=_\/mnZ p1 p2=_\/mnZ p1 p2=_\/mnZ p1 p2=_;omega
 |3=>simp only[loP];omega
 |_+4=>simp only[loP];omega
theorem mxZ_is (m x:Int):mxZ m x=m\/mxZ m x=x:=by unfold mxZ;split<;>simp
theorem hiP_is (p1 p2 p3 p4:Int) (i:Nat):hiP p1 p2 p3 p4 i=p1\/hiP p1 p2 p3 p4 i=p2\/hiP p1 p2 p3 p4 i=p3\/hiP p1 p2 p3 p4 i=p4:=by
 have h2:=mxZ_is p1 p2;have h3:=mxZ_is (mxZ p1 p2) p3;have h4:=mxZ_is (mxZ (mxZ p1 p2) p3) p4;match i with
 |0=>exact .inl rfl
 |1=>exact .inl rfl
 |2=>show mxZ p1 p2=_\/mxZ p1 p2=_\/mxZ p1 p2=_\/mxZ p1 p2=_;omega
 |3=>simp only[hiP];omega
 |_+4=>simp only[hiP];omega
set_option maxHeartbeats 1000000 in
theorem ref4_Prod {a b c d:Int} {w:Nat} (ha:(lim a.natAbs).length<=10000) (hb:(lim b.natAbs).length<=10000) (hc:(lim c.natAbs).length<=10000) (hd:(lim d.natAbs).length<=10000) (hw:w<=4096) (h0:0<w) :
  Go.Ev.Fn CX 190 [ivV a b,ivV c d,.int .i64 (w:Int)] (ivV (loQ a b c d/((2^w:Nat):Int)) (cdZ (hiQ a b c d) (2^w))):=by
 have m1:=ref4_Times a c;have m2:=ref4_Times a d;have m3:=ref4_Times b c;have m4:=ref4_Times b d;have l1:(lim (a*c).natAbs).length<=20000:=by rw[Int.natAbs_mul];have:=lim_len_mul (a:=a.natAbs) (b:=c.natAbs);omega
 have l2:(lim (a*d).natAbs).length<=20000:=by rw[Int.natAbs_mul];have:=lim_len_mul (a:=a.natAbs) (b:=d.natAbs);omega
 have l3:(lim (b*c).natAbs).length<=20000:=by rw[Int.natAbs_mul];have:=lim_len_mul (a:=b.natAbs) (b:=c.natAbs);omega
 have l4:(lim (b*d).natAbs).length<=20000:=by rw[Int.natAbs_mul];have:=lim_len_mul (a:=b.natAbs) (b:=d.natAbs);omega
 unfold loQ hiQ;generalize a*c=p1 at *
 generalize a*d=p2 at *
 generalize b*c=p3 at *
 generalize b*d=p4 at *
 have lL : ∀i,(lim (loP p1 p2 p3 p4 i).natAbs).length<=20000:=by
  intro i;rcases loP_is p1 p2 p3 p4 i with h|h|h|h<;>rw[h]<;>assumption
 have lH : ∀i,(lim (hiP p1 p2 p3 p4 i).natAbs).length<=20000:=by
  intro i;rcases hiP_is p1 p2 p3 p4 i with h|h|h|h<;>rw[h]<;>assumption
 have s1:=ref4_Less (loP p1 p2 p3 p4 4) w (by have:=lL 4;omega) hw h0;have s2:=ref4_More (hiP p1 p2 p3 p4 4) w (by have:=lH 4;omega) hw h0;have L1:loP p1 p2 p3 p4 1=p1:=rfl;have H1:hiP p1 p2 p3 p4 1=p1:=rfl;have L2:loP p1 p2 p3 p4 2=mnZ (loP p1 p2 p3 p4 1) p2:=rfl;have H2:hiP p1 p2 p3 p4 2=mxZ (hiP p1 p2 p3 p4 1) p2:=rfl;have L3:loP p1 p2 p3 p4 3=mnZ (loP p1 p2 p3 p4 2) p3:=rfl;have H3:hiP p1 p2 p3 p4 3=mxZ (hiP p1 p2 p3 p4 2) p3:=rfl;have L4:loP p1 p2 p3 p4 4=mnZ (loP p1 p2 p3 p4 3) p4:=rfl;have H4:hiP p1 p2 p3 p4 4=mxZ (hiP p1 p2 p3 p4 3) p4:=rfl;generalize loP p1 p2 p3 p4=lo at *
 generalize hiP p1 p2 p3 p4=hi at *
 generalize hX:lo 4/((2^w:Nat):Int)=X at *
 generalize hY:cdZ (hi 4) (2^w)=Y at *
 clear hX hY ha hb hc hd;refine fni Tryz.f190 ?_;unfold Tryz.f190;repeat (first|simp only[go_sem]|simp (disch:=first|exact omg|fail) only[AX]|refine wki ?_|refine vpd 1 [] ?_|refine vpd 2 [] ?_|refine vpd 6 [] ?_|refine vpd 8 [] ?_|refine vpd 10 [] ?_|refine vfa ?_)
 refine vp_loop_inv (fun s=>s.tmp 2 = .sv (.int .i64 (w:Int))/\s.tmp 6 = .ptr 6 0 0/\s.obj 6 0=some [.bool false,.sl 0 [],.bool false,.sl 0 []]/\s.tmp 7 = .sv (.sl 4 [.bool (decide (p1<0)),natV (lim p1.natAbs),.bool (decide (p2<0)),natV (lim p2.natAbs),.bool (decide (p3<0)),natV (lim p3.natAbs),.bool (decide (p4<0)),natV (lim p4.natAbs)])/\s.tmp 8 = .ptr 8 0 0/\s.tmp 9 = .ptr 9 0 0 /\
   ∃i:Nat,s.tmp 10 = .sv (.int .i64 (i:Int))/\1<=i/\i<=4/\s.obj 8 0=some [.bool (decide (lo i<0)),natV (lim (lo i).natAbs)]/\s.obj 9 0=some [.bool (decide (hi i<0)),natV (lim (hi i).natAbs)])
  (fun s=>match s.tmp 10 with | .sv (.int _ i)=>4-i.toNat|_=>0) ⟨rfl,rfl,rfl,rfl,rfl,rfl,1,rfl,by omega,by omega,by first|(rw[L1];done)|(rw[L1];rfl)|(rw[L1];exact o8)|(rw[L1];exact o9),by first|(rw[H1];done)|(rw[H1];rfl)|(rw[H1];exact o8)|(rw[H1];exact o9)⟩ ?_
 rintro s ⟨i2,i6,o6,i7,i8,i9,i,i10,g1,g2,o8,o9⟩
 obtain rfl|rfl|rfl|rfl:i=4\/i=1\/i=2\/i=3:=by omega
 ·repeat (first|simp only[go_sem,i2,i6,o6,i7,i8,i9,i10,o8,o9]|simp (disch:=first|exact omg|fail) only[AX,i2,i6,o6,i7,i8,i9,i10,o8,o9]|refine wki ?_|refine vpd 1 [] ?_|refine vpd 2 [] ?_|refine vpd 6 [] ?_|refine vpd 8 [] ?_|refine vpd 10 [] ?_)
  repeat (first|simp only[go_sem,i2,i6,o6,i7,i8,i9,i10,o8,o9]|simp (disch:=first|exact omg|fail) only[AX,i2,i6,o6,i7,i8,i9,i10,o8,o9]|refine wki ?_|refine vpd 1 [] ?_|refine vpd 2 [] ?_|refine vpd 6 [] ?_|refine vpd 8 [] ?_|refine vpd 10 [] ?_|refine vfa ?_)
 ·have c1:=ref4_Cmp p2 (lo 1) (by omega) (by have:=lL 1;omega);have c2:=ref4_Cmp p2 (hi 1) (by omega) (by have:=lH 1;omega);have c3:=ref4_Cmp p2 (hi 1) (by omega) (by have:=lH 1;omega);have e1:=cmpZ_lt (a:=p2) (b:=lo 1);have e2:=cmpZ_gt (a:=p2) (b:=hi 1);generalize cmpZ p2 (lo 1)=z1 at *
  generalize cmpZ p2 (hi 1)=z2 at *
  by_cases k1:p2<lo 1
  ·rw[decide_eq_true k1]at e1;rw[mnZ,if_pos k1]at L2;by_cases k2:hi 1<p2
   ·rw[decide_eq_true k2]at e2;rw[mxZ,if_pos k2]at H2;clear k1 k2;repeat (first|simp only[go_sem,i2,i6,o6,i7,i8,i9,i10,o8,o9,e1,e2]|simp (disch:=first|exact omg|fail) only[AX,i2,i6,o6,i7,i8,i9,i10,o8,o9,e1,e2]|refine wki ?_|refine vpd 1 [] ?_|refine vpd 2 [] ?_|refine vpd 6 [] ?_|refine vpd 8 [] ?_|refine vpd 10 [] ?_|refine vfa ?_)
    exact⟨2,rfl,by omega,by omega,by first|(rw[L2];done)|(rw[L2];rfl)|(rw[L2];exact o8)|(rw[L2];exact o9),by first|(rw[H2];done)|(rw[H2];rfl)|(rw[H2];exact o8)|(rw[H2];exact o9)⟩
   ·rw[decide_eq_false k2]at e2;rw[mxZ,if_neg k2]at H2;clear k1 k2;repeat (first|simp only[go_sem,i2,i6,o6,i7,i8,i9,i10,o8,o9,e1,e2]|simp (disch:=first|exact omg|fail) only[AX,i2,i6,o6,i7,i8,i9,i10,o8,o9,e1,e2]|refine wki ?_|refine vpd 1 [] ?_|refine vpd 2 [] ?_|refine vpd 6 [] ?_|refine vpd 8 [] ?_|refine vpd 10 [] ?_|refine vfa ?_)
    exact⟨2,rfl,by omega,by omega,by first|(rw[L2];done)|(rw[L2];rfl)|(rw[L2];exact o8)|(rw[L2];exact o9),by first|(rw[H2];done)|(rw[H2];rfl)|(rw[H2];exact o8)|(rw[H2];exact o9)⟩
  ·rw[decide_eq_false k1]at e1;rw[mnZ,if_neg k1]at L2;by_cases k2:hi 1<p2
   ·rw[decide_eq_true k2]at e2;rw[mxZ,if_pos k2]at H2;clear k1 k2;repeat (first|simp only[go_sem,i2,i6,o6,i7,i8,i9,i10,o8,o9,e1,e2]|simp (disch:=first|exact omg|fail) only[AX,i2,i6,o6,i7,i8,i9,i10,o8,o9,e1,e2]|refine wki ?_|refine vpd 1 [] ?_|refine vpd 2 [] ?_|refine vpd 6 [] ?_|refine vpd 8 [] ?_|refine vpd 10 [] ?_|refine vfa ?_)
    exact⟨2,rfl,by omega,by omega,by first|(rw[L2];done)|(rw[L2];rfl)|(rw[L2];exact o8)|(rw[L2];exact o9),by first|(rw[H2];done)|(rw[H2];rfl)|(rw[H2];exact o8)|(rw[H2];exact o9)⟩
   ·rw[decide_eq_false k2]at e2;rw[mxZ,if_neg k2]at H2;clear k1 k2;repeat (first|simp only[go_sem,i2,i6,o6,i7,i8,i9,i10,o8,o9,e1,e2]|simp (disch:=first|exact omg|fail) only[AX,i2,i6,o6,i7,i8,i9,i10,o8,o9,e1,e2]|refine wki ?_|refine vpd 1 [] ?_|refine vpd 2 [] ?_|refine vpd 6 [] ?_|refine vpd 8 [] ?_|refine vpd 10 [] ?_|refine vfa ?_)
    exact⟨2,rfl,by omega,by omega,by first|(rw[L2];done)|(rw[L2];rfl)|(rw[L2];exact o8)|(rw[L2];exact o9),by first|(rw[H2];done)|(rw[H2];rfl)|(rw[H2];exact o8)|(rw[H2];exact o9)⟩
 ·have c1:=ref4_Cmp p3 (lo 2) (by omega) (by have:=lL 2;omega);have c2:=ref4_Cmp p3 (hi 2) (by omega) (by have:=lH 2;omega);have c3:=ref4_Cmp p3 (hi 2) (by omega) (by have:=lH 2;omega);have e1:=cmpZ_lt (a:=p3) (b:=lo 2);have e2:=cmpZ_gt (a:=p3) (b:=hi 2);generalize cmpZ p3 (lo 2)=z1 at *
  generalize cmpZ p3 (hi 2)=z2 at *
  by_cases k1:p3<lo 2
  ·rw[decide_eq_true k1]at e1;rw[mnZ,if_pos k1]at L3;by_cases k2:hi 2<p3
   ·rw[decide_eq_true k2]at e2;rw[mxZ,if_pos k2]at H3;clear k1 k2;repeat (first|simp only[go_sem,i2,i6,o6,i7,i8,i9,i10,o8,o9,e1,e2]|simp (disch:=first|exact omg|fail) only[AX,i2,i6,o6,i7,i8,i9,i10,o8,o9,e1,e2]|refine wki ?_|refine vpd 1 [] ?_|refine vpd 2 [] ?_|refine vpd 6 [] ?_|refine vpd 8 [] ?_|refine vpd 10 [] ?_|refine vfa ?_)
    exact⟨3,rfl,by omega,by omega,by first|(rw[L3];done)|(rw[L3];rfl)|(rw[L3];exact o8)|(rw[L3];exact o9),by first|(rw[H3];done)|(rw[H3];rfl)|(rw[H3];exact o8)|(rw[H3];exact o9)⟩
   ·rw[decide_eq_false k2]at e2;rw[mxZ,if_neg k2]at H3;clear k1 k2;repeat (first|simp only[go_sem,i2,i6,o6,i7,i8,i9,i10,o8,o9,e1,e2]|simp (disch:=first|exact omg|fail) only[AX,i2,i6,o6,i7,i8,i9,i10,o8,o9,e1,e2]|refine wki ?_|refine vpd 1 [] ?_|refine vpd 2 [] ?_|refine vpd 6 [] ?_|refine vpd 8 [] ?_|refine vpd 10 [] ?_|refine vfa ?_)
    exact⟨3,rfl,by omega,by omega,by first|(rw[L3];done)|(rw[L3];rfl)|(rw[L3];exact o8)|(rw[L3];exact o9),by first|(rw[H3];done)|(rw[H3];rfl)|(rw[H3];exact o8)|(rw[H3];exact o9)⟩
  ·rw[decide_eq_false k1]at e1;rw[mnZ,if_neg k1]at L3;by_cases k2:hi 2<p3
   ·rw[decide_eq_true k2]at e2;rw[mxZ,if_pos k2]at H3;clear k1 k2;repeat (first|simp only[go_sem,i2,i6,o6,i7,i8,i9,i10,o8,o9,e1,e2]|simp (disch:=first|exact omg|fail) only[AX,i2,i6,o6,i7,i8,i9,i10,o8,o9,e1,e2]|refine wki ?_|refine vpd 1 [] ?_|refine vpd 2 [] ?_|refine vpd 6 [] ?_|refine vpd 8 [] ?_|refine vpd 10 [] ?_|refine vfa ?_)
    exact⟨3,rfl,by omega,by omega,by first|(rw[L3];done)|(rw[L3];rfl)|(rw[L3];exact o8)|(rw[L3];exact o9),by first|(rw[H3];done)|(rw[H3];rfl)|(rw[H3];exact o8)|(rw[H3];exact o9)⟩
   ·rw[decide_eq_false k2]at e2;rw[mxZ,if_neg k2]at H3;clear k1 k2;repeat (first|simp only[go_sem,i2,i6,o6,i7,i8,i9,i10,o8,o9,e1,e2]|simp (disch:=first|exact omg|fail) only[AX,i2,i6,o6,i7,i8,i9,i10,o8,o9,e1,e2]|refine wki ?_|refine vpd 1 [] ?_|refine vpd 2 [] ?_|refine vpd 6 [] ?_|refine vpd 8 [] ?_|refine vpd 10 [] ?_|refine vfa ?_)
    exact⟨3,rfl,by omega,by omega,by first|(rw[L3];done)|(rw[L3];rfl)|(rw[L3];exact o8)|(rw[L3];exact o9),by first|(rw[H3];done)|(rw[H3];rfl)|(rw[H3];exact o8)|(rw[H3];exact o9)⟩
 ·have c1:=ref4_Cmp p4 (lo 3) (by omega) (by have:=lL 3;omega);have c2:=ref4_Cmp p4 (hi 3) (by omega) (by have:=lH 3;omega);have c3:=ref4_Cmp p4 (hi 3) (by omega) (by have:=lH 3;omega);have e1:=cmpZ_lt (a:=p4) (b:=lo 3);have e2:=cmpZ_gt (a:=p4) (b:=hi 3);generalize cmpZ p4 (lo 3)=z1 at *
  generalize cmpZ p4 (hi 3)=z2 at *
  by_cases k1:p4<lo 3
  ·rw[decide_eq_true k1]at e1;rw[mnZ,if_pos k1]at L4;by_cases k2:hi 3<p4
   ·rw[decide_eq_true k2]at e2;rw[mxZ,if_pos k2]at H4;clear k1 k2;repeat (first|simp only[go_sem,i2,i6,o6,i7,i8,i9,i10,o8,o9,e1,e2]|simp (disch:=first|exact omg|fail) only[AX,i2,i6,o6,i7,i8,i9,i10,o8,o9,e1,e2]|refine wki ?_|refine vpd 1 [] ?_|refine vpd 2 [] ?_|refine vpd 6 [] ?_|refine vpd 8 [] ?_|refine vpd 10 [] ?_|refine vfa ?_)
    exact⟨4,rfl,by omega,by omega,by first|(rw[L4];done)|(rw[L4];rfl)|(rw[L4];exact o8)|(rw[L4];exact o9),by first|(rw[H4];done)|(rw[H4];rfl)|(rw[H4];exact o8)|(rw[H4];exact o9)⟩
   ·rw[decide_eq_false k2]at e2;rw[mxZ,if_neg k2]at H4;clear k1 k2;repeat (first|simp only[go_sem,i2,i6,o6,i7,i8,i9,i10,o8,o9,e1,e2]|simp (disch:=first|exact omg|fail) only[AX,i2,i6,o6,i7,i8,i9,i10,o8,o9,e1,e2]|refine wki ?_|refine vpd 1 [] ?_|refine vpd 2 [] ?_|refine vpd 6 [] ?_|refine vpd 8 [] ?_|refine vpd 10 [] ?_|refine vfa ?_)
    exact⟨4,rfl,by omega,by omega,by first|(rw[L4];done)|(rw[L4];rfl)|(rw[L4];exact o8)|(rw[L4];exact o9),by first|(rw[H4];done)|(rw[H4];rfl)|(rw[H4];exact o8)|(rw[H4];exact o9)⟩
  ·rw[decide_eq_false k1]at e1;rw[mnZ,if_neg k1]at L4;by_cases k2:hi 3<p4
   ·rw[decide_eq_true k2]at e2;rw[mxZ,if_pos k2]at H4;clear k1 k2;repeat (first|simp only[go_sem,i2,i6,o6,i7,i8,i9,i10,o8,o9,e1,e2]|simp (disch:=first|exact omg|fail) only[AX,i2,i6,o6,i7,i8,i9,i10,o8,o9,e1,e2]|refine wki ?_|refine vpd 1 [] ?_|refine vpd 2 [] ?_|refine vpd 6 [] ?_|refine vpd 8 [] ?_|refine vpd 10 [] ?_|refine vfa ?_)
    exact⟨4,rfl,by omega,by omega,by first|(rw[L4];done)|(rw[L4];rfl)|(rw[L4];exact o8)|(rw[L4];exact o9),by first|(rw[H4];done)|(rw[H4];rfl)|(rw[H4];exact o8)|(rw[H4];exact o9)⟩
   ·rw[decide_eq_false k2]at e2;rw[mxZ,if_neg k2]at H4;clear k1 k2;repeat (first|simp only[go_sem,i2,i6,o6,i7,i8,i9,i10,o8,o9,e1,e2]|simp (disch:=first|exact omg|fail) only[AX,i2,i6,o6,i7,i8,i9,i10,o8,o9,e1,e2]|refine wki ?_|refine vpd 1 [] ?_|refine vpd 2 [] ?_|refine vpd 6 [] ?_|refine vpd 8 [] ?_|refine vpd 10 [] ?_|refine vfa ?_)
    exact⟨4,rfl,by omega,by omega,by first|(rw[L4];done)|(rw[L4];rfl)|(rw[L4];exact o8)|(rw[L4];exact o9),by first|(rw[H4];done)|(rw[H4];rfl)|(rw[H4];exact o8)|(rw[H4];exact o9)⟩
end Go.Proofs.YtfknkoeagjonbaaGreat
namespace Go.Proofs.YtfknkoeagjonbaaGreat
open Go.Ev
abbrev ivN (a b:Nat):SV := .agg [.bool false,natV (lim a),.bool false,natV (lim b)]
abbrev intN (a:Nat):SV := .agg [.bool false,natV (lim a)]
theorem intN_eq (n:Nat):intV (n:Int)=intN n:=iv_eq (xJ n) (decide_eq_false (by omega))
theorem ivN_eq (m n:Nat):ivV (m:Int) (n:Int)=ivN m n:=by
 show SV.agg [.bool (decide ((m:Int)<0)),natV (lim (m:Int).natAbs),.bool (decide ((n:Int)<0)),natV (lim (n:Int).natAbs)]=_;rw[xJ,xJ,decide_eq_false (by omega),decide_eq_false (by omega)]
theorem cdv_le {a b c:Nat} (hb:0<b) (h:a<=c*b):cdv a b<=c:=by
 unfold cdv;rw[yL hb];omega
theorem div_le_cdv {a b d:Nat} (hd:0<d) (h:a<=b):a/d<=cdv b d:=by
 unfold cdv;exact xf (by omega)
theorem cdZ_nat {n d:Nat} (hd:0<d):cdZ (n:Int) d=(cdv n d:Int):=by
 unfold cdZ cdv;rw[fall_eq (a := -(n:Int)),yJ,xJ];have hm:=yl n d;have hl:=yI n hd;by_cases h0:n%d=0
 ·rw[if_neg (fun h=>h.2 h0)];have e:(n+d-1)/d=n/d:=by
   rw[show n+d-1=(d-1)+d*(n/d) by omega,wZ _ _ hd,yn (by omega),yV]
  rw[e];by_cases hn:n=0
  ·subst hn;simp[sgn]
  ·rw[decide_eq_true (by omega)];show -(-((n/d:Nat):Int))=_;omega
 ·have hn:n≠0:=by rintro rfl;simp at h0
  rw[if_pos ⟨by omega,h0⟩];have e:(n+d-1)/d=n/d+1:=by
   rw[show n+d-1=(n%d-1)+d*(n/d+1) by rw[xY];omega,wZ _ _ hd,yn (by omega),yV]
  rw[e];omega
theorem loQ_nat {a b c d:Nat} (h1:a<=b) (h2:c<=d):loQ a b c d=((a*c:Nat):Int):=by
 have e1:a*c<=a*d:=xI _ h2;have e2:a*c<=b*c:=xC _ h1;have e3:a*c<=b*d:=xO h1 h2;unfold loQ loP mnZ;rw[<- yF,<- yF,<- yF,<- yF];rw[if_neg (show ¬((a*d:Nat):Int)<((a*c:Nat):Int) by omega),if_neg (show ¬((b*c:Nat):Int)<((a*c:Nat):Int) by omega),if_neg (by omega)];rfl
theorem hiQ_nat {a b c d:Nat} (h1:a<=b) (h2:c<=d):hiQ a b c d=((b*d:Nat):Int):=by
 have e1:a*c<=a*d:=xI _ h2;have e2:a*c<=b*c:=xC _ h1;have e3:b*c<=b*d:=xI _ h2;have e4:a*d<=b*d:=xC _ h1;unfold hiQ hiP mxZ;rw[<- yF,<- yF,<- yF,<- yF];repeat' split
 all_goals omega
theorem ref4_ProdN {a b c d w:Nat} (h1:a<=b) (h2:c<=d) (hb:(lim b).length<=10000:=by omega) (hd:(lim d).length<=10000:=by omega) (hw:w<=4096:=by omega) (h0:0<w:=by omega) :
  Go.Ev.Fn CX 190 [ivN a b,ivN c d,.int .i64 (w:Int)] (ivN (a*c/2^w) (cdv (b*d) (2^w))):=by
 have la:=lim_len_mono h1;have lc:=lim_len_mono h2;have h:=ref4_Prod (a:=(a:Int)) (b:=(b:Int)) (c:=(c:Int)) (d:=(d:Int)) (w:=w) (by rw[xJ];omega) (by rw[xJ];omega) (by rw[xJ];omega) (by rw[xJ];omega) hw h0;rw[loQ_nat h1 h2,hiQ_nat h1 h2,cdZ_nat (xK (by omega)),<- wK,ivN_eq,ivN_eq,ivN_eq]at h;exact h
theorem ref4_ByN {a b n:Nat} (ha:(lim a).length<=100000:=by omega) (hb:(lim b).length<=100000:=by omega) (h0:0<n:=by omega) (hn:n<9223372036854775808:=by omega):Go.Ev.Fn CX 259 [ivN a b,.int .i64 (n:Int)] (ivN (a/n) (cdv b n)):=by
 have h:=ref4_By (a:=(a:Int)) (b:=(b:Int)) (by rw[xJ];omega) (by rw[xJ];omega) n h0 hn;rw[cdZ_nat h0,<- wK,ivN_eq,ivN_eq]at h;exact h
theorem ref4_MinusN {x y:Int} {c d:Nat} (hx:(lim x.natAbs).length<=100000:=by omega) (hy:(lim y.natAbs).length<=100000:=by omega) (hc:(lim c).length<=100000:=by omega) (hd:(lim d).length<=100000:=by omega):Go.Ev.Fn CX 122 [ivV x y,ivN c d] (ivV (x-d) (y-c)):=by
 have h:=ref4_Minus (c:=(c:Int)) (d:=(d:Int)) hx hy (by rw[xJ];omega) (by rw[xJ];omega);rw[ivN_eq]at h;exact h
theorem ref4_SumN {x y:Int} {c d:Nat} (hx:(lim x.natAbs).length<=100000:=by omega) (hy:(lim y.natAbs).length<=100000:=by omega) (hc:(lim c).length<=100000:=by omega) (hd:(lim d).length<=100000:=by omega):Go.Ev.Fn CX 143 [ivV x y,ivN c d] (ivV (x+c) (y+d)):=by
 have h:=ref4_Sum (c:=(c:Int)) (d:=(d:Int)) hx hy (by rw[xJ];omega) (by rw[xJ];omega);rw[ivN_eq]at h;exact h
theorem ref4_MostN {a b:Nat} (h1:a<=b) (hb:(lim b).length<=100000:=by omega):Go.Ev.Fn CX 260 [ivN a b] (intN b):=by
 have la:=lim_len_mono h1;have h:=ref4_Most (a:=(a:Int)) (b:=(b:Int)) (by rw[xJ];omega) (by rw[xJ];omega);rw[xJ,xJ,Nat.max_eq_right h1,ivN_eq,intN_eq]at h;exact h
theorem ref4_CmpN {a b:Nat} (ha:(lim a).length<=100000:=by omega) (hb:(lim b).length<=100000:=by omega):Go.Ev.Fn CX 252 [intN a,intN b] (.int .i64 (cmpZ a b)):=by
 have h:=ref4_Cmp (a:Int) (b:Int) (by rw[xJ];omega) (by rw[xJ];omega);rw[intN_eq,intN_eq]at h;exact h
section
variable {w s1 s2:Nat}
set_option maxHeartbeats 1000000 in
theorem ref8_small {v:SV} {q:Rat} {d A B:Nat} (hv:RatA v q 2) (hq:q.num=1) (hd:q.den=d) (hdd:0<d) (hw:w<=900) (hw0:0<w) (hs:smF d w=some (A,B)) :
  Go.Ev.Fn CX 256 [v,.int .i64 (w:Int)] (ivN A B):=by
 have nm:=ref4_Num hv (w:=w) (by omega) (by omega) (by omega);rw[hq,hd,Int.one_mul,cdZ_nat hdd,<- wK,ivN_eq]at nm;unfold smF at hs;rw[pin_eq,pin_eq,pin_eq,pin_eq]at hs;have hP:0<2^w:=xK (by omega);have y2T:cdv (2^w) d<=2^w:=cdv_le hdd (yi _ hdd);have y12:2^w/d<=cdv (2^w) d:=by
  unfold cdv;exact xf (by omega)
 generalize 2^w/d=y1 at *
 generalize cdv (2^w) d=y2 at *
 have ly2:=lim_len_p2 y2T;have ps:=ref4_ProdN (a:=y1) (b:=y2) (c:=y1) (d:=y2) (w:=w) y12 y12 (by omega) (by omega) (by omega) hw0;have s2T:cdv (y2*y2) (2^w)<=2^w:=cdv_le hP (xO y2T y2T);have s12:y1*y1/2^w<=cdv (y2*y2) (2^w):=by
  unfold cdv;refine xf ?_;have:=xO y12 y12;omega
 generalize y1*y1/2^w=s1 at *
 generalize cdv (y2*y2) (2^w)=s2 at *
 have ls2:=lim_len_p2 s2T;split at hs
 ·rename_i A1 A2 B1 B2 hgo;by_cases hfin:B2+4<=A1/\B1<=A2
  ·rw[if_pos hfin]at hs;obtain⟨rfl,rfl⟩:A1-B2-4=A/\A2-B1+4=B:=by simpa using hs
   clear hs;have w2:=ref4_Whole 2;rw[show (2:Int)=((2:Nat):Int) from rfl,intN_eq]at w2;have l2:(lim 2).length<=1:=lim_len_one (by decide);obtain⟨s0,n0,d0,rfl,-⟩:=hv;refine fni Tryz.f256 ?_;unfold Tryz.f256;repeat (first|simp only[go_sem]|simp (disch:=first|exact omg|fail) only[AX]|refine wki ?_|refine vpd 3 [] ?_|refine vfa ?_)
   refine vp_loop_inv (fun s=>s.tmp 1 = .sv (.int .i64 (w:Int))/\s.tmp 4 = .ptr 4 0 0/\s.obj 4 0=some [.bool false,.sl 0 [],.bool false,.sl 0 []]/\s.tmp 6 = .ptr 6 0 0/\s.obj 6 0=some [.bool false,natV (lim s1),.bool false,natV (lim s2)]/\s.tmp 7 = .ptr 7 0 0/\s.tmp 8 = .ptr 8 0 0 /\
     ∃ (f i t1 t2 a1 a2 b1 b2:Nat) (x y:Int),s.tmp 9 = .sv (.int .i64 (i:Int))/\f+i=1001/\1<=i/\smGo w s1 s2 f i (decide (i%2=1)) t1 t2 a1 a2 b1 b2=some (A1,A2,B1,B2) /\
      s.obj 8 0=some [.bool false,natV (lim t1),.bool false,natV (lim t2)]/\s.obj 7 0=some [.bool (decide (x<0)),natV (lim x.natAbs),.bool (decide (y<0)),natV (lim y.natAbs)] /\
      x=(a1:Int)-b2/\y=(a2:Int)-b1/\t1<=t2/\t2<=2^w/\a1<=i*2^w/\a2<=i*2^w/\b1<=i*2^w/\b2<=i*2^w)
    (fun s=>match s.tmp 9 with | .sv (.int _ i)=>1002-i.toNat|_=>0) ⟨rfl,rfl,rfl,rfl,rfl,rfl,rfl,1000,1,y1,y2,y1,y2,0,0,(y1:Int),(y2:Int),rfl,rfl,by omega,hgo,rfl,?_,by omega,by omega,y12,y2T,by omega,by omega,by omega,by omega⟩ ?_
   ·rw[show decide ((y1:Int)<0)=false from decide_eq_false (by omega),show decide ((y2:Int)<0)=false from decide_eq_false (by omega),xJ,xJ];rfl
   rintro s ⟨i1,i4,o4,i6,o6,i7,i8,f,i,t1,t2,a1,a2,b1,b2,x,y,i9,hfi,hi,hg,o8,o7,hx,hy,g1,g2,g3,g4,g5,g6⟩
   cases f with
   |zero=>simp only[smGo]at hg;cases hg
   |succ f=>
    have lt2:=lim_len_p2 g2;have pp:=ref4_ProdN (a:=t1) (b:=t2) (c:=s1) (d:=s2) (w:=w) g1 s12 (by omega) (by omega) (by omega) hw0;have u2t:cdv (t2*s2) (2^w)<=t2:=cdv_le hP (xI _ s2T);have u12:t1*s1/2^w<=cdv (t2*s2) (2^w):=by
     unfold cdv;refine xf ?_;have:=xO g1 s12;omega
    have hbig:i*2^w<=2^(w+10):=by
     rw[xM,xV (2^w)];exact xC _ (by omega)
    have hpl:(i+1)*2^w=i*2^w+2^w:=by rw[xZ,xe]
    have hi2:2^w<=i*2^w:=zI _ (by omega);have big2:i*2^w+i*2^w<=2^(w+11):=by rw[show w+11=w+10+1 by omega,xU];omega
    have nz:2*i+1≠0:=by omega
    have by1:=ref4_ByN (a:=t1*s1/2^w) (b:=cdv (t2*s2) (2^w)) (n:=2*i+1) (xH (lim_len_mono (xH u12 u2t)) (by omega)) (xH (lim_len_mono u2t) (by omega));have x2u:cdv (cdv (t2*s2) (2^w)) (2*i+1)<=cdv (t2*s2) (2^w):=cdv_le (by omega) (yi _ (by omega));have x12:t1*s1/2^w/(2*i+1)<=cdv (cdv (t2*s2) (2^w)) (2*i+1):=div_le_cdv (by omega) u12;have mo:=ref4_MostN (a:=t1*s1/2^w) (b:=cdv (t2*s2) (2^w)) u12 (xH (lim_len_mono u2t) (by omega));have cc:=ref4_CmpN (a:=cdv (t2*s2) (2^w)) (b:=2) (xH (lim_len_mono u2t) (by omega))
    have ec:decide (cmpZ ((cdv (t2*s2) (2^w):Nat):Int) ((2:Nat):Int)<=0)=decide (cdv (t2*s2) (2^w)<=2):=by rw[cmpZ_le];exact decide_eq_decide.2 (by omega)
    have tm:(i:Int).tmod 2=((i%2:Nat):Int):=_root_.id rfl;simp only[smGo,pin_eq]at hg;generalize cmpZ ((cdv (t2*s2) (2^w):Nat):Int) ((2:Nat):Int)=z at *
    generalize t1*s1/2^w=u1 at *
    generalize cdv (t2*s2) (2^w)=u2 at *
    generalize u1/(2*i+1)=x1 at *
    generalize cdv u2 (2*i+1)=x2 at *
    have lu2:=lim_len_p2 (xH u2t g2);have lx2:=lim_len_mono x2u;have lx1:=lim_len_mono x12;have lx:=lim_len_p2 (n:=x.natAbs) (w:=w+10);have ly:=lim_len_p2 (n:=y.natAbs) (w:=w+10);rw[show ((2*i+1:Nat):Int)=2*(i:Int)+1 by omega]at by1;rcases zO i with hpar|hpar
    ·rw[hpar]at tm;rw[hpar,show decide ((0:Nat)=1)=false from rfl]at hg;replace hg:(if u2<=2 then some (a1+x1,a2+x2,b1,b2) else smGo w s1 s2 f (i+1) true u1 u2 (a1+x1) (a2+x2) b1 b2)=some (A1,A2,B1,B2):=hg;have sm:=ref4_SumN (x:=x) (y:=y) (c:=x1) (d:=x2);have lX:=lim_len_p2 (n:=(x+x1).natAbs) (w:=w+11);have lY:=lim_len_p2 (n:=(y+x2).natAbs) (w:=w+11);by_cases hu:u2<=2
     ·rw[decide_eq_true hu]at ec;rw[if_pos hu]at hg;have wd:=ref4_Wide (a:=x+x1) (b:=y+x2) (by omega) (by omega) 4 (by omega);simp only[Option.some.injEq,Prod.mk.injEq]at hg;rw[show x+x1-4=((A1-B2-4:Nat):Int) by omega,show y+x2+4=((A2-B1+4:Nat):Int) by omega,ivN_eq]at wd;generalize x+x1=X at *
      generalize y+x2=Y at *
      clear hg hx hy;repeat (first|simp only[go_sem,i1,i4,o4,i6,o6,i7,i8,i9,o8,o7,tm,ec]|simp (disch:=first|exact omg|fail) only[AX,i1,i4,o4,i6,o6,i7,i8,i9,o8,o7,tm,ec]|refine wki ?_|refine vpd 3 [] ?_|refine vf_of (by first|exact pp|exact by1|exact sm|exact mo|exact w2|exact cc|exact wd) ?_)
     ·rw[decide_eq_false hu]at ec;rw[if_neg hu]at hg;have hpar':decide ((i+1)%2=1)=true:=decide_eq_true (by omega);rw[<- hpar']at hg;generalize hX:x+x1=X at *
      generalize hY:y+x2=Y at *
      repeat (first|simp only[go_sem,i1,i4,o4,i6,o6,i7,i8,i9,o8,o7,tm,ec]|simp (disch:=first|exact omg|fail) only[AX,i1,i4,o4,i6,o6,i7,i8,i9,o8,o7,tm,ec]|refine wki ?_|refine vpd 3 [] ?_|refine vf_of (by first|exact pp|exact by1|exact sm|exact mo|exact w2|exact cc) ?_)
      exact⟨⟨f,i+1,u1,u2,a1+x1,a2+x2,b1,b2,X,Y,rfl,by omega,by omega,hg,rfl,rfl,by omega,by omega,by omega,by omega,by omega,by omega,by omega,by omega⟩,by omega⟩
    ·rw[hpar]at tm;rw[hpar,show decide ((1:Nat)=1)=true from rfl]at hg;replace hg:(if u2<=2 then some (a1,a2,b1+x1,b2+x2) else smGo w s1 s2 f (i+1) false u1 u2 a1 a2 (b1+x1) (b2+x2))=some (A1,A2,B1,B2):=hg;have sm:=ref4_MinusN (x:=x) (y:=y) (c:=x1) (d:=x2);have lX:=lim_len_p2 (n:=(x-x2).natAbs) (w:=w+11);have lY:=lim_len_p2 (n:=(y-x1).natAbs) (w:=w+11);by_cases hu:u2<=2
     ·rw[decide_eq_true hu]at ec;rw[if_pos hu]at hg;have wd:=ref4_Wide (a:=x-x2) (b:=y-x1) (by omega) (by omega) 4 (by omega);simp only[Option.some.injEq,Prod.mk.injEq]at hg;rw[show x-x2-4=((A1-B2-4:Nat):Int) by omega,show y-x1+4=((A2-B1+4:Nat):Int) by omega,ivN_eq]at wd;generalize x-x2=X at *
      generalize y-x1=Y at *
      clear hg hx hy;repeat (first|simp only[go_sem,i1,i4,o4,i6,o6,i7,i8,i9,o8,o7,tm,ec]|simp (disch:=first|exact omg|fail) only[AX,i1,i4,o4,i6,o6,i7,i8,i9,o8,o7,tm,ec]|refine wki ?_|refine vpd 3 [] ?_|refine vf_of (by first|exact pp|exact by1|exact sm|exact mo|exact w2|exact cc|exact wd) ?_)
     ·rw[decide_eq_false hu]at ec;rw[if_neg hu]at hg;have hpar':decide ((i+1)%2=1)=false:=decide_eq_false (by omega);rw[<- hpar']at hg;generalize hX:x-x2=X at *
      generalize hY:y-x1=Y at *
      repeat (first|simp only[go_sem,i1,i4,o4,i6,o6,i7,i8,i9,o8,o7,tm,ec]|simp (disch:=first|exact omg|fail) only[AX,i1,i4,o4,i6,o6,i7,i8,i9,o8,o7,tm,ec]|refine wki ?_|refine vpd 3 [] ?_|refine vf_of (by first|exact pp|exact by1|exact sm|exact mo|exact w2|exact cc) ?_)
      exact⟨⟨f,i+1,u1,u2,a1,a2,b1+x1,b2+x2,X,Y,rfl,by omega,by omega,hg,rfl,rfl,by omega,by omega,by omega,by omega,by omega,by omega,by omega,by omega⟩,by omega⟩
  ·rw[if_neg hfin]at hs;cases hs
 ·cases hs
end
theorem ref8_part {n:Nat} (hn:n<4294967296:=by omega):Go.Ev.Fn CX 257 [.int .u32 (n:Int)] (rv (mkRat 1 n)):=by
 have o:=ref2_Of false [1] [n] (by simp[okL]) (by simp[okL];exact hn) (by simp) (by simp);rw[show wth [1]=1 from rfl,show wth [n]=n by simp[wth]]at o;have o':Go.Ev.Fn CX 39 [.bool false,.sl 1 [.int .u32 1],.sl 1 [.int .u32 (n:Int)]] (rv (mkRat 1 n)):=o;clear o;generalize mkRat 1 n=q at *
 refine fni Tryz.f257 ?_;unfold Tryz.f257;repeat (first|simp only[go_sem]|simp (disch:=first|exact omg|fail) only[AX]|refine wki ?_|refine vfa ?_)
theorem ref4_OftenN {a b n:Nat} (ha:(lim a).length<=100000:=by omega) (hb:(lim b).length<=100000:=by omega) (hn:n<4294967296:=by omega):Go.Ev.Fn CX 258 [ivN a b,.int .i64 (n:Int)] (ivN (a*n) (b*n)):=by
 have h:=ref4_Often (a:=(a:Int)) (b:=(b:Int)) (by rw[xJ];omega) (by rw[xJ];omega) (n:Int) (by omega);rw[<- yF,<- yF,ivN_eq,ivN_eq]at h;exact h
theorem ref4_BackN {a b n:Nat} (ha:(lim a).length<=100000:=by omega) (hb:(lim b).length<=100000:=by omega) (hn:n<=4096:=by omega) (h0:0<n:=by omega):Go.Ev.Fn CX 194 [ivN a b,.int .i64 (n:Int)] (ivN (a/2^n) (cdv b (2^n))):=by
 have h:=ref4_Back (a:=(a:Int)) (b:=(b:Int)) (by rw[xJ];omega) (by rw[xJ];omega) n hn h0;rw[cdZ_nat (xK (by omega)),<- wK,ivN_eq,ivN_eq]at h;exact h
theorem smGo_bd {w s1 s2 T:Nat} (hs1:s1<=2^w) (hs:s2<=2^w) : ∀ (f i:Nat) (odd:Bool) (t1 t2 a1 a2 b1 b2:Nat) {A1 A2 B1 B2:Nat},smGo w s1 s2 f i odd t1 t2 a1 a2 b1 b2=some (A1,A2,B1,B2)->t1<=T->t2<=T->A1<=a1+f*T/\A2<=a2+f*T:=by
 intro f;induction f with
 |zero=>intro i odd t1 t2 a1 a2 b1 b2 A1 A2 B1 B2 h;simp only[smGo]at h;cases h
 |succ f ih=>
  intro i odd t1 t2 a1 a2 b1 b2 A1 A2 B1 B2 h ht1 ht;have hP:0<2^w:=xK (by omega);have u1t:t1*s1/2^w<=t1:=(yL hP).2 (by have:=xI t1 hs1;omega);have x1u:=xv (t1*s1/2^w) (2*i+1);have u2t:cdv (t2*s2) (2^w)<=t2:=cdv_le hP (xI _ hs);have x2u:cdv (cdv (t2*s2) (2^w)) (2*i+1)<=cdv (t2*s2) (2^w):=cdv_le (by omega) (yi _ (by omega));simp only[smGo,pin_eq]at h;generalize cdv (t2*s2) (2^w)=u2 at *
  generalize cdv u2 (2*i+1)=x2 at *
  generalize t1*s1/2^w=u1 at *
  generalize u1/(2*i+1)=x1 at *
  rw[xZ,xe];cases odd with
  |true=>
   replace h:(if u2<=2 then some (a1,a2,b1+x1,b2+x2) else smGo w s1 s2 f (i+1) false u1 u2 a1 a2 (b1+x1) (b2+x2))=some (A1,A2,B1,B2):=h;split at h
   ·simp only[Option.some.injEq,Prod.mk.injEq]at h;omega
   ·have:=ih _ _ _ _ _ _ _ _ h (by omega) (by omega);omega
  |false=>
   replace h:(if u2<=2 then some (a1+x1,a2+x2,b1,b2) else smGo w s1 s2 f (i+1) true u1 u2 (a1+x1) (a2+x2) b1 b2)=some (A1,A2,B1,B2):=h;split at h
   ·simp only[Option.some.injEq,Prod.mk.injEq]at h;omega
   ·have:=ih _ _ _ _ _ _ _ _ h (by omega) (by omega);omega
theorem smF_bd {d w A B:Nat} (hd:0<d) (hw:w<=900) (h:smF d w=some (A,B)):(lim A).length<=50/\(lim B).length<=50:=by
 unfold smF at h;rw[pin_eq,pin_eq,pin_eq,pin_eq]at h;have hP:0<2^w:=xK (by omega);have y2T:cdv (2^w) d<=2^w:=cdv_le hd (yi _ hd);have s2T:cdv (cdv (2^w) d*cdv (2^w) d) (2^w)<=2^w:=cdv_le hP (xO y2T y2T);split at h
 ·rename_i A1 A2 B1 B2 hgo;have y1T:2^w/d<=2^w:=xv _ _;have s1T:2^w/d*(2^w/d)/2^w<=2^w:=(yL hP).2 (by have:=xO y1T y1T;omega);have hb:=smGo_bd s1T s2T _ _ _ _ _ _ _ _ _ hgo y1T y2T;split at h
  ·simp only[Option.some.injEq,Prod.mk.injEq]at h;have hbig:2^w*2048=2^(w+11):=by rw[xM]
   have l1:=lim_len_p2 (n:=B-4) (w:=w+11);have l2:(lim B).length<=41:=xH (lim_len_mono (show B<=(B-4)+4 by omega)) (lim_len_add (L:=40) l1 (xH (lim_len_one (by decide)) (by omega)));exact⟨xH (lim_len_p2 (n:=A) (w:=w+11)) (by omega),by omega⟩
  ·cases h
 ·cases h
theorem ref8_PiIv {w lo hi:Nat} (hw:w<=800) (h:piIv w=some (lo,hi)):Go.Ev.Fn CX 193 [.int .i64 (w:Int)] (ivN lo hi):=by
 unfold piIv at h;split at h
 ·rename_i a1 a2 b1 b2 h1 h2;split at h
  ·rename_i hc;obtain⟨rfl,rfl⟩:(a1*16-b2*4)/2^10=lo/\cdv (a2*16-b1*4) (2^10)=hi:=by simpa using h
   clear h;have p5:=ref8_part (n:=5);have p239:=ref8_part (n:=239);have z5:szR (mkRat 1 5) 2:=⟨lim_len_lt (by decide +kernel),lim_len_lt (by decide +kernel)⟩
   have z239:szR (mkRat 1 239) 2:=⟨lim_len_lt (by decide +kernel),lim_len_lt (by decide +kernel)⟩
   have s5:=ref8_small (d:=5) (RatA_rv z5) (by decide +kernel) (by decide +kernel) (by omega) (by omega) (by omega) h1;have s239:=ref8_small (d:=239) (RatA_rv z239) (by decide +kernel) (by decide +kernel) (by omega) (by omega) (by omega) h2;obtain⟨g1,g2⟩:=smF_bd (by omega) (by omega) h1;obtain⟨g3,g4⟩:=smF_bd (by omega) (by omega) h2;have o1:=ref4_OftenN (a:=a1) (b:=a2) (n:=16);have o2:=ref4_OftenN (a:=b1) (b:=b2) (n:=4);have l16:(lim 16).length<=1:=lim_len_one (by decide);have l4:(lim 4).length<=1:=lim_len_one (by decide);have e1:=lim_len_mul (a:=a1) (b:=16);have e2:=lim_len_mul (a:=a2) (b:=16)
   have e3:=lim_len_mul (a:=b1) (b:=4);have e4:=lim_len_mul (a:=b2) (b:=4);have m:=ref4_MinusN (x:=((a1*16:Nat):Int)) (y:=((a2*16:Nat):Int)) (c:=b1*4) (d:=b2*4) (by rw[xJ];omega) (by rw[xJ];omega);rw[<- Int.ofNat_sub hc.1,<- Int.ofNat_sub hc.2,ivN_eq,ivN_eq]at m;have l5:=lim_len_mono (zt (a1*16) (b2*4));have l6:=lim_len_mono (zt (a2*16) (b1*4));have bk:=ref4_BackN (a:=a1*16-b2*4) (b:=a2*16-b1*4) (n:=10);generalize (a1*16-b2*4)/2^10=x at *
   generalize cdv (a2*16-b1*4) (2^10)=y at *
   generalize a1*16-b2*4=x1 at *
   generalize a2*16-b1*4=x2 at *
   generalize a1*16=x3 at *
   generalize a2*16=x4 at *
   generalize b1*4=x5 at *
   generalize b2*4=x6 at *
   generalize mkRat 1 5=q5 at *
   generalize mkRat 1 239=q239 at *
   rw[show ((w+10:Nat):Int)=(w:Int)+10 by omega]at s5 s239;refine fni Tryz.f193 ?_;unfold Tryz.f193;repeat (first|simp only[go_sem]|simp (disch:=first|exact omg|fail) only[AX]|refine wki ?_|refine vpd 2 [] ?_|refine vfa ?_)
  ·cases h
 ·cases h
end Go.Proofs.YtfknkoeagjonbaaGreat
namespace Go.Proofs.YtfknkoeagjonbaaGreat
open Go.Ev
theorem cdv_ge (a:Nat) {d:Nat} (hd:0<d):a<=cdv a d*d:=by
 unfold cdv;have h1:=yl (a+d-1) d;have h2:=yI (a+d-1) hd;rw[xV]at h1;omega
theorem cdv_geR (a:Nat) {d:Nat} (hd:0<d):(a:Rat)<=((cdv a d:Nat):Rat)*(d:Rat):=by
 have:=cdv_ge a hd;exact_mod_cast this
section
variable {w a b c d:Nat} {q r:Rat}
theorem one_szR':szR 1 1:=⟨lim_len_lt (by decide +kernel),lim_len_lt (by decide +kernel)⟩
theorem enc_prodN (h1:Enc w a b q) (h2:Enc w c d r):Enc w (a*c/2^w) (cdv (b*d) (2^w)) (q*r):=by
 have P:=p2_pos w;refine⟨(enc_mul h1 h2).1,le_by P ?_⟩;have g:=cdv_geR (b*d) (show 0<2^w from xK (by omega));have c1:((b*d:Nat):Rat)=(b:Rat)*(d:Rat):=by exact_mod_cast rfl
 have m:=mul_le h1.2 h2.2 (nat_nonneg b) (xF (enc_nonneg h2) (xG P));rw[c1]at g;have e:q*r*p2 w*p2 w=q*p2 w*(r*p2 w):=by grind
 rw[e];exact xE m g
theorem enc_byN {n m:Nat} (hm:0<m) (h:Enc w a b q):Enc w (a*n/m) (cdv (b*n) m) (q*(n:Rat)/(m:Rat)):=by
 have M:(0:Rat)<(m:Rat):=by exact_mod_cast hm
 refine⟨(enc_times hm h).1,le_by M ?_⟩;have g:=cdv_geR (b*n) hm;have c1:((b*n:Nat):Rat)=(b:Rat)*(n:Rat):=by exact_mod_cast rfl
 rw[c1]at g;have e:=xd (a:=q*(n:Rat)) (b:=(m:Rat)) (by grind);have m1:=xA h.2 (nat_nonneg n);generalize q*(n:Rat)/(m:Rat)=z at *
 have e2:z*p2 w*(m:Rat)=q*p2 w*(n:Rat):=by grind
 rw[e2];exact xE m1 g
def upN (q:Rat) (w:Nat):Nat:=cdv (q.num.natAbs*2^w) q.den
theorem un_up (w:Nat):unN q w<=upN q w:=div_le_cdv q.den_pos (xQ _)
theorem up_unR (h0:0<=q):q*p2 w<=((upN q w:Nat):Rat):=by
 have D:(0:Rat)<(q.den:Rat):=by exact_mod_cast q.den_pos
 have g:=cdv_geR (q.num.natAbs*2^w) q.den_pos;have e:((q.num.natAbs*2^w:Nat):Rat)=q*p2 w*(q.den:Rat):=by
  have c1:((q.num.natAbs*2^w:Nat):Rat)=((q.num.natAbs:Nat):Rat)*p2 w:=by exact_mod_cast rfl
  have h:=num_den q;have h2:((q.num.natAbs:Nat):Rat)=(q.num:Rat):=by
   have:(q.num.natAbs:Int)=q.num:=wJ (zL.2 h0);rw[<- this];rfl
  rw[c1,h2,<- h];grind
 rw[e]at g;exact le_by D g
theorem num_enc (h0:0<=q) (w:Nat):Enc w (unN q w) (upN q w) q:=⟨(unN_le h0 w).1,up_unR h0⟩
theorem num_abs (h0:0<=q):((q.num.natAbs:Nat):Int)=q.num:=wJ (zL.2 h0)
theorem upN_le {n m:Nat} (h0:0<=q) (h:q*(m:Rat)<=(n:Rat)) (hm:n*2^w<=c*m:=by omega) (hm0:0<m:=by omega):upN q w<=c:=by
 refine cdv_le q.den_pos ?_;have D:(0:Rat)<(q.den:Rat):=by exact_mod_cast q.den_pos
 have h2:((q.num.natAbs:Nat):Rat)=q*(q.den:Rat):=by
  rw[num_den q,<- num_abs h0];rfl
 have h3:((q.num.natAbs*m:Nat):Rat)<=((n*q.den:Nat):Rat):=by
  have c1:((q.num.natAbs*m:Nat):Rat)=((q.num.natAbs:Nat):Rat)*(m:Rat):=by exact_mod_cast rfl
  have c2:((n*q.den:Nat):Rat)=(n:Rat)*(q.den:Rat):=by exact_mod_cast rfl
  rw[c1,c2,h2];have:=xA h (xG D);grind
 have h4:q.num.natAbs*m<=n*q.den:=by exact_mod_cast h3
 have h5:=xC (2^w) h4;have h6:=xC q.den hm;refine yv (c:=m) ?_ hm0;have e1:q.num.natAbs*2^w*m=q.num.natAbs*m*2^w:=by grind
 have e2:n*q.den*2^w=n*2^w*q.den:=by grind
 have e3:c*q.den*m=c*m*q.den:=by grind
 rw[e1,e3];rw[e2]at h5;exact xH h5 h6
theorem upN_one (h0:0<=q) (h1:q<=1):upN q w<=2^w:=
 upN_le (n:=1) (m:=1) h0 (by
  have:((1:Nat):Rat)=1:=rfl;rw[this];grind)
theorem upN_half (h0:0<=q) (h1:q+q<=1) (hw:0<w:=by omega):2*upN q w<=2^w:=by
 have e:2^w=2*2^(w-1):=by rw[<- Nat.pow_succ',show (w-1).succ=w by omega]
 have:=upN_le (q:=q) (w:=w) (c:=2^(w-1)) (n:=1) (m:=2) h0 (by
  have a1:((1:Nat):Rat)=1:=rfl;have a2:((2:Nat):Rat)=2:=rfl;rw[a1,a2];grind)
 omega
theorem ref4_NumN {v:SV} {L:Nat} (hv:RatA v q L) (hL1:1<=L) (hL:L<=100000) (hw:w<=4096) (h0:0<=q):Go.Ev.Fn CX 121 [v,.int .i64 (w:Int)] (ivN (unN q w) (upN q w)):=by
 have h:=ref4_Num hv hL1 hL hw;rw[<- num_abs h0,<- yF,cdZ_nat q.den_pos,<- wK,ivN_eq]at h;exact h
theorem ref4_SqrtN (ha:(lim a).length<=60:=by omega) (hb:(lim b).length<=60:=by omega) (hw:w<=1000:=by omega):Go.Ev.Fn CX 255 [ivN a b,.int .i64 (w:Int)] (ivN (rtN (a*2^w)) (rtN (b*2^w)+1)):=by
 have h:=ref4_Sqrt ha hb hw;rw[ivN_eq,ivN_eq]at h;exact h
theorem rtN_mono {m n:Nat} (h:m<=n):rtN m<=rtN n:=by
 have h1:=rtN_le m;have h2:=lt_rtN n;rcases xi (rtN n) (rtN m) with g|g
 ·have:=xO (show rtN n+1<=rtN m by omega) (show rtN n+1<=rtN m by omega);omega
 ·exact g
theorem sqrt_len (hb:b<=2^w):rtN (b*2^w)<=2^w:=by
 have h:=rtN_mono (xC (2^w) hb);rw[<- rtN_eq (a:=2^w*2^w) (r:=2^w) (xQ _) (Nat.mul_lt_mul'' (by omega) (by omega))]at h;exact h
theorem sqrt_pts (h0:0<=q) (e:Enc w a b q) : ∃s1 s2:Rat,0<=s1/\s1*s1<=q/\0<=s2/\q<=s2*s2 /\ ∀s,s1<=s->s<=s2->Enc w (rtN (a*2^w)) (rtN (b*2^w)+1) s:=by
 have P:=p2_pos w;have PP:0<p2 w*p2 w:=xt P P;have m1:=mk_p2n (rtN (a*2^w)) w;have m2:=mk_p2n (rtN (b*2^w)+1) w;have l1:=nat_le_rat (rtN_le (a*2^w));have l2:=nat_le_rat (zf (lt_rtN (b*2^w)));have c1 : ∀m n:Nat,((m*n:Nat):Rat)=(m:Rat)*(n:Rat):=by intro m n;exact_mod_cast rfl
 rw[c1,c1]at l1 l2;change _<=_*p2 w at l1
 change _*p2 w<=_ at l2
 obtain⟨e1,e2⟩:=e;have f1:=xA e1 (xG P);have f2:=xA e2 (xG P);have fin : ∀s:Rat,((rtN (a*2^w):Nat):Rat)<=s*p2 w->s*p2 w<=((rtN (b*2^w)+1:Nat):Rat)->Enc w (rtN (a*2^w)) (rtN (b*2^w)+1) s:=fun s h1 h2=>⟨h1,h2⟩
 have n1:=nat_nonneg (rtN (a*2^w));have n2:=nat_nonneg (rtN (b*2^w)+1);generalize ((rtN (a*2^w):Nat):Rat)=x at *
 generalize ((rtN (b*2^w)+1:Nat):Rat)=y at *
 generalize mkRat ((rtN (a*2^w):Nat):Int) (2^w)=s1 at *
 generalize mkRat ((rtN (b*2^w)+1:Nat):Int) (2^w)=s2 at *
 refine⟨s1,s2,le_by P (by rw[m1,xw];exact n1),le_by PP ?_,le_by P (by rw[m2,xw];exact n2),le_by PP ?_,?_⟩
 ·have:s1*s1*(p2 w*p2 w)=s1*p2 w*(s1*p2 w):=by grind
  rw[this,m1];grind
 ·have:s2*s2*(p2 w*p2 w)=s2*p2 w*(s2*p2 w):=by grind
  rw[this,m2];grind
 ·intro s h1 h2;have k1:=xA h1 (xG P);have k2:=xA h2 (xG P);exact fin s (by rw[<- m1];exact k1) (by rw[<- m2];exact k2)
end
def pwI (w y1 y2:Nat):Nat->Nat->Nat->Nat×Nat
 |0,r1,r2=>(r1,r2)
 |j+1,r1,r2=>pwI w y1 y2 j (r1*y1/2^w) (cdv (r2*y2) (2^w))
theorem pwI_ok {w y1 y2 T:Nat} (h12:y1<=y2) (hy:y2<=2^w) : ∀ (j r1 r2:Nat),r1<=r2->r2<=T->(pwI w y1 y2 j r1 r2).1<=(pwI w y1 y2 j r1 r2).2/\(pwI w y1 y2 j r1 r2).2<=T
 |0,_,_,h1,h2=>⟨h1,h2⟩
 |j+1,r1,r2,h1,h2=>by
  have P:0<2^w:=xK (by omega);exact pwI_ok h12 hy j _ _ (div_le_cdv P (xO h1 h12)) (xH (cdv_le P (xI _ hy)) h2)
theorem pwI_enc {w y1 y2:Nat} {q:Rat} (hq:Enc w y1 y2 q) : ∀ (j r1 r2:Nat) (s:Rat),Enc w r1 r2 s->Enc w (pwI w y1 y2 j r1 r2).1 (pwI w y1 y2 j r1 r2).2 (s*pwR q j)
 |0,_,_,s,h=>by
  show Enc _ _ _ (s*1);rw[yA];exact h
 |j+1,r1,r2,s,h=>by
  have:=pwI_enc hq j _ _ _ (enc_prodN h hq);have e:s*q*pwR q j=s*pwR q (j+1):=by
   show _=s*(pwR q j*q)
   grind
  rw[e]at this;exact this
section
variable {v:SV} {q:Rat} {w L n:Nat}
set_option maxHeartbeats 1000000 in
theorem ref12_power (hv:RatA v q L) (hL1:1<=L) (hL:L<=300) (h0:0<=q) (h1:q<=1) (hn:n<=30:=by omega) (hw:w<=900:=by omega) (hw0:0<w:=by omega) :
  ∃X1 X2:Nat,∃s1 s2:Rat,Go.Ev.Fn CX 191 [v,.int .i64 (n:Int),.int .i64 (w:Int)] (ivN X1 X2)/\X1<=X2/\X2<=2^w+1/\0<=s1/\s1*s1<=q/\0<=s2/\q<=s2*s2 /\
   ∀s,s1<=s->s<=s2->Enc w X1 X2 (pwR q (n/2)*(if n%2=1 then s else 1)):=by
 have nb:=ref4_NumN (w:=w) hv hL1 (by omega) (by omega) h0;have n1:=ref4_NumN (w:=w) (RatA_rv (one_szR')) (by omega) (by omega) (by omega) (show (0:Rat)<=1 by decide);have u1:unN 1 w=2^w:=by show 1*2^w/1=_;rw[xe,zK]
 have u2:upN 1 w=2^w:=by show cdv (1*2^w) 1=_;unfold cdv;rw[xe,zK];omega
 rw[u1,u2]at n1;have i1:=ref2_Int 1;rw[show ((1:Int):Rat)=1 from rfl]at i1;have en:=num_enc h0 w;have y12:=un_up (q:=q) w;have yT:=upN_one (w:=w) h0 h1;obtain⟨s1,s2,p1,p3,p2',p4,p5⟩:=sqrt_pts h0 en;have sq:=sqrt_len yT;have sm:rtN (unN q w*2^w)<=rtN (upN q w*2^w):=rtN_mono (xC _ y12);have one:Enc w (2^w) (2^w) 1:=by
  refine⟨by rw[xc];exact xN,by rw[xc];exact xN⟩
 obtain⟨r1,r2,hr12,hrT,henc,hwalk⟩ : ∃r1 r2:Nat,r1<=r2/\r2<=2^w+1/\(∀s,s1<=s->s<=s2->Enc w r1 r2 (if n%2=1 then s else 1))/\((n%2=1/\r1=rtN (unN q w*2^w)/\r2=rtN (upN q w*2^w)+1)\/(n%2=0/\r1=2^w/\r2=2^w)):=by
  by_cases h:n%2=1
  ·exact⟨_,_,by omega,by omega,fun s a b=>by rw[if_pos h];exact p5 s a b,.inl ⟨h,rfl,rfl⟩⟩
  ·exact⟨_,_,xQ _,by omega,fun s a b=>by rw[if_neg h];exact one,.inr ⟨by omega,rfl,rfl⟩⟩
 obtain⟨k1,k2⟩:=pwI_ok (T:=2^w+1) y12 yT (n/2) r1 r2 hr12 hrT;refine⟨_,_,s1,s2,?_,k1,k2,p1,p3,p2',p4,fun s a b=>by rw[ya];exact pwI_enc en (n/2) _ _ _ (henc s a b)⟩;have hp1:2^w+1<=2^(w+1):=by rw[xU];have:0<2^w:=xK (by omega);omega
 have ly2:=lim_len_p2 yT;have ly1:=lim_len_mono y12;have sqf:=ref4_SqrtN (a:=unN q w) (b:=upN q w) (w:=w);have hX : ∃X,pwI w (unN q w) (upN q w) (n/2) r1 r2=X:=⟨_,rfl⟩
 obtain⟨⟨X1,X2⟩,hX⟩:=hX;rw[hX];clear henc en one p1 p3 p2' p4 p5 u1 u2 sm sq k1 k2;generalize unN q w=y1 at *
 generalize upN q w=y2 at *
 have tm:(n:Int).tmod 2=((n%2:Nat):Int):=_root_.id rfl;rcases hwalk with⟨hod,rfl,rfl⟩|⟨hod,rfl,rfl⟩
 all_goals rw[hod]at tm
 all_goals obtain⟨s0,n0,d0,rfl,-⟩:=hv
 ·refine fni Tryz.f191 ?_;unfold Tryz.f191;repeat (first|simp only[go_sem,tm]|simp (disch:=first|exact omg|fail) only[AX,tm]|refine wki ?_|refine vfa ?_)
  refine vp_loop_inv (fun s=>s.tmp 1 = .sv (.int .i64 (n:Int))/\s.tmp 2 = .sv (.int .i64 (w:Int))/\s.tmp 6 = .ptr 6 0 0/\s.obj 6 0=some [.bool false,.sl 0 [],.bool false,.sl 0 []]/\s.tmp 7 = .ptr 7 0 0/\s.obj 7 0=some [.bool false,natV (lim y1),.bool false,natV (lim y2)]/\s.tmp 8 = .ptr 8 0 0 /\
    ∃j r1 r2:Nat,s.tmp 9 = .sv (.int .i64 ((2*(n/2-j)+2:Nat):Int))/\j<=n/2/\pwI w y1 y2 j r1 r2=(X1,X2)/\s.obj 8 0=some [.bool false,natV (lim r1),.bool false,natV (lim r2)]/\r1<=r2/\r2<=2^w+1)
   (fun s=>match s.tmp 9 with | .sv (.int _ i)=>n+3-i.toNat|_=>0) ⟨rfl,rfl,rfl,rfl,rfl,rfl,rfl,n/2,_,_,by rw[wo];rfl,xQ _,hX,rfl,hr12,hrT⟩ ?_
  rintro s ⟨i1,i2,i6,o6,i7,o7,i8,j,r1,r2,i9,hj,hpw,o8,g1,g2⟩
  cases j with
  |zero=>
   simp only[pwI,Prod.mk.injEq]at hpw;obtain⟨rfl,rfl⟩:=hpw;rw[show 2*(n/2-0)+2=n+2-n%2 by omega,hod]at i9;obtain⟨m,hm⟩ : ∃m:Nat,m=n+2-1:=⟨_,rfl⟩
   rw[<- hm]at i9;have hmn : ¬m<=n:=by omega
   have hdec:decide ((m:Int)<=(n:Int))=false:=decide_eq_false (by omega);repeat (first|simp only[go_sem,i1,i2,i6,o6,i7,o7,i8,i9,o8,hdec]|simp (disch:=first|exact omg|fail) only[AX,i1,i2,i6,o6,i7,o7,i8,i9,o8,hdec]|refine wki ?_)
  |succ j=>
   have lr2:=lim_len_p2 (xH g2 hp1);have pr:=ref4_ProdN (a:=r1) (b:=r2) (c:=y1) (d:=y2) (w:=w) g1 y12 (by omega) (by omega) (by omega) hw0;rw[pwI]at hpw;obtain⟨m,hm⟩ : ∃m:Nat,m=2*(n/2-(j+1))+2:=⟨_,rfl⟩
   rw[<- hm]at i9;have hmn:m<=n:=by omega
   have hdec:decide ((m:Int)<=(n:Int))=true:=decide_eq_true (by omega);have P:0<2^w:=xK (by omega);have u12:r1*y1/2^w<=cdv (r2*y2) (2^w):=div_le_cdv P (xO g1 y12);have u2:cdv (r2*y2) (2^w)<=2^w+1:=xH (cdv_le P (xI _ yT)) g2;generalize r1*y1/2^w=u at *
   generalize cdv (r2*y2) (2^w)=u' at *
   clear sqf;repeat (first|simp only[go_sem,i1,i2,i6,o6,i7,o7,i8,i9,o8,hdec]|simp (disch:=first|exact omg|fail) only[AX,i1,i2,i6,o6,i7,o7,i8,i9,o8,hdec]|refine wki ?_|refine vfa ?_)
   exact⟨⟨j,u,u',by congr 3;omega,by omega,hpw,rfl,u12,u2⟩,by omega⟩
 ·refine fni Tryz.f191 ?_;unfold Tryz.f191;repeat (first|simp only[go_sem,tm]|simp (disch:=first|exact omg|fail) only[AX,tm]|refine wki ?_|refine vfa ?_)
  refine vp_loop_inv (fun s=>s.tmp 1 = .sv (.int .i64 (n:Int))/\s.tmp 2 = .sv (.int .i64 (w:Int))/\s.tmp 6 = .ptr 6 0 0/\s.obj 6 0=some [.bool false,.sl 0 [],.bool false,.sl 0 []]/\s.tmp 7 = .ptr 7 0 0/\s.obj 7 0=some [.bool false,natV (lim y1),.bool false,natV (lim y2)]/\s.tmp 8 = .ptr 8 0 0 /\
    ∃j r1 r2:Nat,s.tmp 9 = .sv (.int .i64 ((2*(n/2-j)+2:Nat):Int))/\j<=n/2/\pwI w y1 y2 j r1 r2=(X1,X2)/\s.obj 8 0=some [.bool false,natV (lim r1),.bool false,natV (lim r2)]/\r1<=r2/\r2<=2^w+1)
   (fun s=>match s.tmp 9 with | .sv (.int _ i)=>n+3-i.toNat|_=>0) ⟨rfl,rfl,rfl,rfl,rfl,rfl,rfl,n/2,_,_,by rw[wo];rfl,xQ _,hX,rfl,hr12,hrT⟩ ?_
  rintro s ⟨i1,i2,i6,o6,i7,o7,i8,j,r1,r2,i9,hj,hpw,o8,g1,g2⟩
  cases j with
  |zero=>
   simp only[pwI,Prod.mk.injEq]at hpw;obtain⟨rfl,rfl⟩:=hpw;rw[show 2*(n/2-0)+2=n+2-n%2 by omega,hod]at i9;obtain⟨m,hm⟩ : ∃m:Nat,m=n+2-0:=⟨_,rfl⟩
   rw[<- hm]at i9;have hmn : ¬m<=n:=by omega
   have hdec:decide ((m:Int)<=(n:Int))=false:=decide_eq_false (by omega);repeat (first|simp only[go_sem,i1,i2,i6,o6,i7,o7,i8,i9,o8,hdec]|simp (disch:=first|exact omg|fail) only[AX,i1,i2,i6,o6,i7,o7,i8,i9,o8,hdec]|refine wki ?_)
  |succ j=>
   have lr2:=lim_len_p2 (xH g2 hp1);have pr:=ref4_ProdN (a:=r1) (b:=r2) (c:=y1) (d:=y2) (w:=w) g1 y12 (by omega) (by omega) (by omega) hw0;rw[pwI]at hpw;obtain⟨m,hm⟩ : ∃m:Nat,m=2*(n/2-(j+1))+2:=⟨_,rfl⟩
   rw[<- hm]at i9;have hmn:m<=n:=by omega
   have hdec:decide ((m:Int)<=(n:Int))=true:=decide_eq_true (by omega);have P:0<2^w:=xK (by omega);have u12:r1*y1/2^w<=cdv (r2*y2) (2^w):=div_le_cdv P (xO g1 y12);have u2:cdv (r2*y2) (2^w)<=2^w+1:=xH (cdv_le P (xI _ yT)) g2;generalize r1*y1/2^w=u at *
   generalize cdv (r2*y2) (2^w)=u' at *
   clear sqf;repeat (first|simp only[go_sem,i1,i2,i6,o6,i7,o7,i8,i9,o8,hdec]|simp (disch:=first|exact omg|fail) only[AX,i1,i2,i6,o6,i7,o7,i8,i9,o8,hdec]|refine wki ?_|refine vfa ?_)
   exact⟨⟨j,u,u',by congr 3;omega,by omega,hpw,rfl,u12,u2⟩,by omega⟩
end
end Go.Proofs.YtfknkoeagjonbaaGreat
namespace Go.Proofs.YtfknkoeagjonbaaGreat
open Go.Ev
def refGo (w y1 y2 a b:Nat) (x:Rat):Nat->Nat->Nat->Nat->Nat->Nat->Option (Nat×Nat×Nat)
 |0,_,_,_,_,_=>none
 |f+1,k,t1,t2,s1,s2=>
  if cdv (cdv (t2*y2) (2^w)*(a+b+2*k)) (a+2+2*k)<=8/\x*(((4*(a+b+2*k+2):Nat):Int):Rat)<=(((3*(a+4+2*k):Nat):Int):Rat) then
   some (s1+t1*y1/2^w*(a+b+2*k)/(a+2+2*k),s2+cdv (cdv (t2*y2) (2^w)*(a+b+2*k)) (a+2+2*k),k+1)
  else refGo w y1 y2 a b x f (k+1) (t1*y1/2^w*(a+b+2*k)/(a+2+2*k)) (cdv (cdv (t2*y2) (2^w)*(a+b+2*k)) (a+2+2*k))
   (s1+t1*y1/2^w*(a+b+2*k)/(a+2+2*k)) (s2+cdv (cdv (t2*y2) (2^w)*(a+b+2*k)) (a+2+2*k))
section
variable {w y1 y2 a b:Nat} {x:Rat}
theorem refGo_enc (hx:Enc w y1 y2 x) : ∀ (f k t1 t2 s1 s2:Nat) {A B K:Nat},refGo w y1 y2 a b x f k t1 t2 s1 s2=some (A,B,K)->Enc w t1 t2 (rR x a b k)->Enc w s1 s2 (sR x a b k) ->
  (A:Rat)<=sR x a b K*p2 w/\sR x a b K*p2 w<=(B:Rat)/\rR x a b K*p2 w<=8/\x*(((4*(a+b+2*K):Nat):Int):Rat)<=(((3*(a+2+2*K):Nat):Int):Rat):=by
 intro f;induction f with
 |zero=>intro k t1 t2 s1 s2 A B K h;simp only[refGo]at h;cases h
 |succ f ih=>
  intro k t1 t2 s1 s2 A B K h ht hs;have e1:=enc_prodN ht hx;have e2:=enc_byN (n:=a+b+2*k) (m:=a+2+2*k) (by omega) e1;have e3:Enc w _ _ (rR x a b (k+1)):=e2;have e4:Enc w _ _ (sR x a b (k+1)):=enc_add hs e3;rw[refGo]at h;by_cases c:cdv (cdv (t2*y2) (2^w)*(a+b+2*k)) (a+2+2*k)<=8/\x*(((4*(a+b+2*k+2):Nat):Int):Rat)<=(((3*(a+4+2*k):Nat):Int):Rat)
  ·rw[if_pos c]at h;simp only[Option.some.injEq,Prod.mk.injEq]at h;obtain⟨rfl,rfl,rfl⟩:=h;refine⟨e4.1,e4.2,?_,?_⟩
   ·refine xE e3.2 ?_;have:=nat_le_rat c.1;exact this
   ·rw[show a+b+2*(k+1)=a+b+2*k+2 by omega,show a+2+2*(k+1)=a+4+2*k by omega];exact c.2
  ·rw[if_neg c]at h;exact ih _ _ _ _ _ h e3 e4
theorem step_half {t:Nat} (hy:2*y2<=2^w):2*cdv (t*y2) (2^w)<=t+1:=by
 have P:0<2^w:=xK (by omega);have h:cdv (t*y2) (2^w)<=(t+1)/2:=by
  refine cdv_le P ?_;have h1:t*(2*y2)<=t*2^w:=xI _ hy;have h2:t*2^w<=2*((t+1)/2)*2^w:=xC _ (by omega);have e1:t*(2*y2)=2*(t*y2):=by grind
  have e2:2*((t+1)/2)*2^w=2*((t+1)/2*2^w):=by rw[xP]
  omega
 omega
theorem step_late {s n m:Nat} (hm:0<m:=by omega) (h:2*n<=3*m:=by omega):2*cdv (s*n) m<=3*s+1:=by
 have h:cdv (s*n) m<=(3*s+1)/2:=by
  refine cdv_le hm ?_;have h1:s*(2*n)<=s*(3*m):=xI _ h;have h2:3*s*m<=2*((3*s+1)/2)*m:=xC _ (by omega);have e1:s*(2*n)=2*(s*n):=by grind
  have e2:s*(3*m)=3*s*m:=by grind
  have e3:2*((3*s+1)/2)*m=2*((3*s+1)/2*m):=by rw[xP]
  omega
 omega
theorem step_early {s n m:Nat} (hm:0<m:=by omega) (h:3*n<=23*m:=by omega):3*cdv (s*n) m<=23*s+2:=by
 have h:cdv (s*n) m<=(23*s+2)/3:=by
  refine cdv_le hm ?_;have h1:s*(3*n)<=s*(23*m):=xI _ h;have h2:23*s*m<=3*((23*s+2)/3)*m:=xC _ (by omega);have e1:s*(3*n)=3*(s*n):=by grind
  have e2:s*(23*m)=23*s*m:=by grind
  have e3:3*((23*s+2)/3)*m=3*((23*s+2)/3*m):=by rw[xP]
  omega
 omega
def okR (w b k t1 t2 s1 s2:Nat):Prop:=t1<=t2/\t2+8<=4^min k b*(2^w+8)/\2^w<=s1/\s1<=s2/\s2<=(k+1)*(4^b*(2^w+8))
theorem okR_step {k t1 t2 s1 s2:Nat} (hP:16<=2^w) (h12:y1<=y2) (hy:2*y2<=2^w) (ha:1<=a) (hb:b<=22) (h:okR w b k t1 t2 s1 s2) :
  okR w b (k+1) (t1*y1/2^w*(a+b+2*k)/(a+2+2*k)) (cdv (cdv (t2*y2) (2^w)*(a+b+2*k)) (a+2+2*k)) (s1+t1*y1/2^w*(a+b+2*k)/(a+2+2*k)) (s2+cdv (cdv (t2*y2) (2^w)*(a+b+2*k)) (a+2+2*k)):=by
 obtain⟨g1,g2,g3,g4,g5⟩:=h;have P:0<2^w:=xK (by omega);have v12:t1*y1/2^w<=cdv (t2*y2) (2^w):=div_le_cdv P (xO g1 h12);have u12:t1*y1/2^w*(a+b+2*k)/(a+2+2*k)<=cdv (cdv (t2*y2) (2^w)*(a+b+2*k)) (a+2+2*k):=div_le_cdv (by omega) (xC _ v12);have sh:=step_half (t:=t2) hy;generalize cdv (t2*y2) (2^w)=s at *
 have key:cdv (s*(a+b+2*k)) (a+2+2*k)+8<=4^min (k+1) b*(2^w+8):=by
  by_cases hk:b<=k
  ·rw[Nat.min_eq_right (show b<=k+1 by omega)];rw[Nat.min_eq_right hk]at g2;have:=step_late (s:=s) (n:=a+b+2*k) (m:=a+2+2*k);have h16:16<=4^b*(2^w+8)\/t2+8<16:=by omega
   by_cases ht:8<=t2
   ·omega
   ·have h1:1<=4^b:=xK (by omega);have h9:2^w+8<=4^b*(2^w+8):=zI _ h1;omega
  ·rw[yx (show k+1<=b by omega),xU,xV (4^k) 4,xP];rw[yx (show k<=b by omega)]at g2;have:=step_early (s:=s) (n:=a+b+2*k) (m:=a+2+2*k);omega
 have top:4^min (k+1) b*(2^w+8)<=4^b*(2^w+8):=xC _ (xD (by omega) (Nat.min_le_right _ _));refine⟨u12,key,xH g3 (wI _ _),by omega,?_⟩;have e:(k+1+1)*(4^b*(2^w+8))=(k+1)*(4^b*(2^w+8))+4^b*(2^w+8):=by rw[xZ (k+1) 1,xe]
 omega
theorem stop_late (h0:0<=x) (h1:x+x<=1) {k:Nat} (hk:b<=k):x*(((4*(a+b+2*k+2):Nat):Int):Rat)<=(((3*(a+4+2*k):Nat):Int):Rat):=by
 have c1:(((4*(a+b+2*k+2):Nat):Int):Rat)=2*((2*(a+b+2*k+2):Nat):Rat):=by
  have c0:(((4*(a+b+2*k+2):Nat):Int):Rat)=((4*(a+b+2*k+2):Nat):Rat):=rfl;rw[c0,show 4*(a+b+2*k+2)=2*(2*(a+b+2*k+2)) by omega];exact_mod_cast rfl
 have c2:(((3*(a+4+2*k):Nat):Int):Rat)=((3*(a+4+2*k):Nat):Rat):=rfl;have h2:((2*(a+b+2*k+2):Nat):Rat)<=((3*(a+4+2*k):Nat):Rat):=nat_le_rat;have n0:=nat_nonneg (2*(a+b+2*k+2));rw[c1,c2];generalize ((2*(a+b+2*k+2):Nat):Rat)=n at *
 generalize ((3*(a+4+2*k):Nat):Rat)=m at *
 have:=xA h1 n0;grind
theorem ref_late (h0:0<=x) (h1:x+x<=1) (hy:2*y2<=2^w) : ∀ (f k t1 t2 s1 s2:Nat),b<=k->3^f*(t2-8)<4^f -> ∃A B K,refGo w y1 y2 a b x (f+1) k t1 t2 s1 s2=some (A,B,K):=by
 intro f;induction f with
 |zero=>
  intro k t1 t2 s1 s2 hk h;have sh:=step_half (t:=t2) hy;have:=step_late (s:=cdv (t2*y2) (2^w)) (n:=a+b+2*k) (m:=a+2+2*k);rw[refGo,if_pos ⟨by simp at h;omega,stop_late h0 h1 hk⟩];exact⟨_,_,_,rfl⟩
 |succ f ih=>
  intro k t1 t2 s1 s2 hk h;have sh:=step_half (t:=t2) hy;have st:=step_late (s:=cdv (t2*y2) (2^w)) (n:=a+b+2*k) (m:=a+2+2*k);rw[refGo];by_cases c:cdv (cdv (t2*y2) (2^w)*(a+b+2*k)) (a+2+2*k)<=8
  ·rw[if_pos ⟨c,stop_late h0 h1 hk⟩];exact⟨_,_,_,rfl⟩
  ·rw[if_neg (fun g=>c g.1)];refine ih _ _ _ _ _ (by omega) ?_;generalize cdv (cdv (t2*y2) (2^w)*(a+b+2*k)) (a+2+2*k)=u at *
   have d:4*(u-8)<=3*(t2-8):=by omega
   have d2:=xI (3^f) d;rw[xU,xU]at h;have e1:3^f*(4*(u-8))=4*(3^f*(u-8)):=by grind
   have e2:3^f*(3*(t2-8))=3^f*3*(t2-8):=by grind
   omega
theorem ref_early (hP:16<=2^w) (h0:0<=x) (h1:x+x<=1) (h12:y1<=y2) (hy:2*y2<=2^w) (ha:1<=a) (hb:b<=22) {F:Nat} (hF:3^F*(4^b*(2^w+8))<4^F) :
  ∀ (j k t1 t2 s1 s2:Nat),k+j=b->okR w b k t1 t2 s1 s2 -> ∃A B K,refGo w y1 y2 a b x (j+(F+1)) k t1 t2 s1 s2=some (A,B,K):=by
 intro j;induction j with
 |zero=>
  intro k t1 t2 s1 s2 hk h;rw[yV];refine ref_late h0 h1 hy F k t1 t2 s1 s2 (by omega) (yM (xI _ ?_) hF);have:=h.2.1;rw[Nat.min_eq_right (by omega)]at this;omega
 |succ j ih=>
  intro k t1 t2 s1 s2 hk h;rw[show j+1+(F+1)=(j+(F+1))+1 by omega,refGo];by_cases c:cdv (cdv (t2*y2) (2^w)*(a+b+2*k)) (a+2+2*k)<=8/\x*(((4*(a+b+2*k+2):Nat):Int):Rat)<=(((3*(a+4+2*k):Nat):Int):Rat)
  ·rw[if_pos c];exact⟨_,_,_,rfl⟩
  ·rw[if_neg c];exact ih _ _ _ _ _ (by omega) (okR_step hP h12 hy ha hb h)
theorem refGo_ok (hP:16<=2^w) (h12:y1<=y2) (hy:2*y2<=2^w) (ha:1<=a) (hb:b<=22) : ∀ (f k t1 t2 s1 s2:Nat) {A B K:Nat},refGo w y1 y2 a b x f k t1 t2 s1 s2=some (A,B,K)->okR w b k t1 t2 s1 s2->K<=k+f/\2^w<=A/\A<=B/\B<=(K+1)*(4^b*(2^w+8)):=by
 intro f;induction f with
 |zero=>intro k t1 t2 s1 s2 A B K h;simp only[refGo]at h;cases h
 |succ f ih=>
  intro k t1 t2 s1 s2 A B K h ho;have st:=okR_step hP h12 hy ha hb ho;rw[refGo]at h;by_cases c:cdv (cdv (t2*y2) (2^w)*(a+b+2*k)) (a+2+2*k)<=8/\x*(((4*(a+b+2*k+2):Nat):Int):Rat)<=(((3*(a+4+2*k):Nat):Int):Rat)
  ·rw[if_pos c]at h;simp only[Option.some.injEq,Prod.mk.injEq]at h;obtain⟨rfl,rfl,rfl⟩:=h;exact⟨by omega,st.2.2.1,st.2.2.2.1,st.2.2.2.2⟩
  ·rw[if_neg c]at h;have:=ih _ _ _ _ _ h st;exact⟨by omega,this.2⟩
theorem ref4_SumNN {a b c d:Nat} (ha:(lim a).length<=100000:=by omega) (hb:(lim b).length<=100000:=by omega) (hc:(lim c).length<=100000:=by omega) (hd:(lim d).length<=100000:=by omega):Go.Ev.Fn CX 143 [ivN a b,ivN c d] (ivN (a+c) (b+d)):=by
 have h:=ref4_SumN (x:=(a:Int)) (y:=(b:Int)) (c:=c) (d:=d) (by rw[xJ];omega) (by rw[xJ];omega) hc hd;rw[<- Int.natCast_add,<- Int.natCast_add,ivN_eq,ivN_eq]at h;exact h
theorem ref4_WideN {a b n:Nat} (ha:(lim a).length<=100000) (hb:(lim b).length<=100000) (h:n<=a) (hn:n<4294967296:=by omega):Go.Ev.Fn CX 262 [ivN a b,.int .i64 (n:Int)] (ivN (a-n) (b+n)):=by
 have w:=ref4_Wide (a:=(a:Int)) (b:=(b:Int)) (by rw[xJ];omega) (by rw[xJ];omega) (n:Int) (by omega);rw[show (a:Int)-(n:Int)=((a-n:Nat):Int) by omega,<- Int.natCast_add,ivN_eq,ivN_eq]at w;exact w
theorem ref4_MostN8 {b:Nat} (hb:(lim b).length<=100000:=by omega):Go.Ev.Fn CX 252 [intN b,intN 8] (.int .i64 (cmpZ b 8)):=ref4_CmpN hb (by have:(lim 8).length<=1:=lim_len_one (by decide);omega)
set_option maxHeartbeats 1000000 in
theorem ref12_row {v:SV} {L:Nat} (hv:RatA v x L) (hL1:1<=L) (hL:L<=300) (ha:1<=a) (ha2:a<=22) (hb:1<=b) (hb2:b<=22) (h0:0<=x) (h1:x+x<=1) (hw0:60<=w:=by omega) (hw:w<=500:=by omega) :
  ∃A B K:Nat,Go.Ev.Fn CX 195 [.int .i64 (a:Int),.int .i64 (b:Int),v,.int .i64 (w:Int)] (ivN A B)/\A<=B/\B<=2^(w+64) /\
   (A:Rat)<=sR x a b K*p2 w/\(sR x a b K+3*rR x a b K)*p2 w<=(B:Rat)/\x*(((4*(a+b+2*K):Nat):Int):Rat)<=(((3*(a+2+2*K):Nat):Int):Rat):=by
 have nb:=ref4_NumN (w:=w) hv hL1 (by omega) (by omega) h0;have n1:=ref4_NumN (w:=w) (RatA_rv (one_szR')) (by omega) (by omega) (by omega) (show (0:Rat)<=1 by decide);have u1:unN 1 w=2^w:=by show 1*2^w/1=_;rw[xe,zK]
 have u2:upN 1 w=2^w:=by show cdv (1*2^w) 1=_;unfold cdv;rw[xe,zK];omega
 rw[u1,u2]at n1;have i1:=ref2_Int 1;rw[show ((1:Int):Rat)=1 from rfl]at i1;have en:=num_enc h0 w;have y12:=un_up (q:=x) w;have yT:=upN_one (w:=w) h0 (show x<=1 by grind);have yH:=upN_half (w:=w) h0 h1;have hP:2^60<=2^w:=xD (n:=2) (by omega) hw0;have hP16:16<=2^w:=by omega
 have ok:okR w b 0 (2^w) (2^w) (2^w) (2^w):=by
  unfold okR;rw[Nat.zero_min,yr,xe,yV,xe];have h1:1<=4^b:=xK (by omega);have h9:2^w+8<=4^b*(2^w+8):=zI _ h1;exact⟨by omega,by omega,by omega,by omega,by omega⟩
 have h40:4^b*(2^w+8)<=2^(w+45):=by
  have a1:4^b<=4^22:=xD (by omega) hb2;have a2:2^(w+45)=4^22*(2^w*2):=by rw[show w+45=44+(w+1) by omega,xM 2 44,xM 2 w 1]
  rw[a2];exact xO a1 (by omega)
 have hF:3^1400*(4^b*(2^w+8))<4^1400:=by
  obtain⟨E,hE⟩ : ∃E:Nat,E=545:=⟨_,rfl⟩
  have h49:4^b*(2^w+8)<=2^E:=xH h40 (xD (by omega) (by omega));obtain⟨N4,hN4⟩ : ∃N,N=4^1400:=⟨_,rfl⟩
  obtain⟨N3,hN3⟩ : ∃N,N=3^1400:=⟨_,rfl⟩
  rw[<- hN4,<- hN3];have hk:N3*2^E<N4:=by rw[hN3,hN4,hE];decide +kernel
  exact yM (xI _ h49) hk
 obtain⟨A,B,K,hg⟩:=ref_early (x:=x) (a:=a) (F:=1400) hP16 h0 h1 y12 yH ha hb2 hF b 0 (2^w) (2^w) (2^w) (2^w) (by omega) ok;obtain⟨k0,k1,k2,k3⟩:=refGo_ok hP16 y12 yH ha hb2 _ _ _ _ _ _ hg ok;have one:Enc w (2^w) (2^w) 1:=⟨by rw[xc];exact xN,by rw[xc];exact xN⟩
 obtain⟨e1,e2,e3,e4⟩:=refGo_enc en _ 0 _ _ _ _ hg one one;have hK:(K+1)*(4^b*(2^w+8))<=2^(w+56):=by
  have:2^(w+56)=2048*2^(w+45):=by rw[show w+56=11+(w+45) by omega,xM 2 11]
  rw[this];exact xO (by omega) h40
 have hB:B+64<=2^(w+64):=by
  have:2^(w+64)=256*2^(w+56):=by rw[show w+64=8+(w+56) by omega,xM 2 8]
  have:1<=2^(w+56):=xK (by omega);omega
 clear hF;have hP64:64<=2^w:=by omega
 refine⟨A-64,B+64,K,?_,by omega,hB,?_,?_,e4⟩;rotate_left
 ·have:((A-64:Nat):Rat)<=(A:Rat):=nat_le_rat;exact xE this e1
 ·have:((B+64:Nat):Rat)=(B:Rat)+64:=by exact_mod_cast rfl
  rw[this];grind
 have lens:=fun (k t1 t2 s1 s2:Nat) (hk:k<=1500) (h:okR w b k t1 t2 s1 s2)=>(show (lim t1).length<=40/\(lim t2).length<=40/\(lim s1).length<=40/\(lim s2).length<=40 from by
  obtain⟨q1,q2,q3,q4,q5⟩:=h;have top:4^min k b*(2^w+8)<=4^b*(2^w+8):=xC _ (xD (by omega) (Nat.min_le_right _ _));have b1:(k+1)*(4^b*(2^w+8))<=2048*2^(w+45):=xO (by omega) h40;have b2:2048*2^(w+45)=2^(w+56):=by rw[show w+56=11+(w+45) by omega,xM 2 11]
  have b3:2^(w+45)<=2^(w+56):=xD (by omega) (by omega);exact⟨lim_len_p2 (w:=w+56),lim_len_p2 (w:=w+56),lim_len_p2 (w:=w+56),lim_len_p2 (w:=w+56)⟩)
 have step:=fun (k t1 t2 s1 s2:Nat) (h:okR w b k t1 t2 s1 s2)=>okR_step (a:=a) hP16 y12 yH ha hb2 h
 have ly2:=lim_len_p2 yT;have w8:=ref4_Whole 8;rw[show (8:Int)=((8:Nat):Int) from rfl,intN_eq]at w8;have zx:=szR_of hv hL1;clear u1 u2 en yH hP one e1 e2 e3 e4 h40 hK hB;generalize unN x w=y1 at *
 generalize upN x w=y2 at *
 obtain⟨s0,n0,d0,rfl,hv2⟩:=hv;refine fni Tryz.f195 ?_;unfold Tryz.f195;repeat (first|simp only[go_sem]|simp (disch:=first|exact omg|fail) only[AX]|refine wki ?_|refine vpd 3 [] ?_|refine vpd 8 [] ?_|refine vpd 9 [] ?_|refine vfa ?_)
 refine vp_loop_inv (fun s=>s.tmp 0 = .sv (.int .i64 (a:Int))/\s.tmp 1 = .sv (.int .i64 (b:Int))/\s.tmp 3 = .sv (.int .i64 (w:Int))/\s.tmp 6 = .ptr 6 0 0/\s.obj 6 0=some [.bool s0,natV n0,natV d0]/\s.tmp 8 = .ptr 8 0 0/\s.obj 8 0=some [.bool false,.sl 0 [],.bool false,.sl 0 []] /\
   s.tmp 9 = .ptr 9 0 0/\s.obj 9 0=some [.bool false,natV (lim y1),.bool false,natV (lim y2)]/\s.tmp 11 = .ptr 11 0 0/\s.tmp 12 = .ptr 12 0 0 /\
   ∃f k t1 t2 s1 s2:Nat,s.tmp 13 = .sv (.int .i64 (k:Int))/\f+k=b+1401/\refGo w y1 y2 a b x f k t1 t2 s1 s2=some (A,B,K)/\s.obj 11 0=some [.bool false,natV (lim s1),.bool false,natV (lim s2)]/\s.obj 12 0=some [.bool false,natV (lim t1),.bool false,natV (lim t2)]/\okR w b k t1 t2 s1 s2)
  (fun s=>match s.tmp 13 with | .sv (.int _ i)=>b+1402-i.toNat|_=>0) ⟨rfl,rfl,rfl,rfl,rfl,rfl,rfl,rfl,rfl,rfl,rfl,_,0,_,_,_,_,rfl,by omega,hg,rfl,rfl,ok⟩ ?_
 rintro s ⟨i0,i1,i3,i6,o6,i8,o8,i9,o9,i11,i12,f,k,t1,t2,s1,s2,i13,hfk,hgo,o11,o12,hok⟩
 obtain⟨lt1,lt2,la1,la2⟩:=lens k t1 t2 s1 s2 (by omega) hok;have st:=step k t1 t2 s1 s2 hok;cases f with
 |zero=>simp only[refGo]at hgo;cases hgo
 |succ f=>
  obtain⟨lu1,lu2,lb1,lb2⟩:=lens (k+1) _ _ _ _ (by omega) st;have pr:=ref4_ProdN (a:=t1) (b:=t2) (c:=y1) (d:=y2) (w:=w) hok.1 y12;have P:0<2^w:=xK (by omega);have v12:t1*y1/2^w<=cdv (t2*y2) (2^w):=div_le_cdv P (xO hok.1 y12);have v2:cdv (t2*y2) (2^w)<=t2:=cdv_le P (xI _ yT);have lv2:=lim_len_mono v2;have lv1:=lim_len_mono v12;have lq1:(lim (a+b+2*k)).length<=1:=lim_len_one;have z1:=lim_len_mul (a:=t1*y1/2^w) (b:=a+b+2*k);have z2:=lim_len_mul (a:=cdv (t2*y2) (2^w)) (b:=a+b+2*k);have of:=ref4_OftenN (a:=t1*y1/2^w) (b:=cdv (t2*y2) (2^w)) (n:=a+b+2*k)
  have by1:=ref4_ByN (a:=t1*y1/2^w*(a+b+2*k)) (b:=cdv (t2*y2) (2^w)*(a+b+2*k)) (n:=a+2+2*k);have u12:=st.1;rw[refGo]at hgo;generalize t1*y1/2^w=v1 at *
  generalize cdv (t2*y2) (2^w)=v2' at *
  generalize v1*(a+b+2*k)/(a+2+2*k)=u1 at *
  generalize cdv (v2'*(a+b+2*k)) (a+2+2*k)=u2 at *
  have sm:=ref4_SumNN (a:=s1) (b:=s2) (c:=u1) (d:=u2);have mo:=ref4_MostN (a:=u1) (b:=u2) u12;have cc:=ref4_MostN8 (b:=u2);have ec:decide (cmpZ ((u2:Nat):Int) ((8:Nat):Int)<=0)=decide (u2<=8):=by rw[cmpZ_le];exact decide_eq_decide.2 (by omega)
  generalize cmpZ ((u2:Nat):Int) ((8:Nat):Int)=z at *
  have j1:=ref2_Int ((4*(a+b+2*k+2):Nat):Int);have mu:=ref2_Mul (show RatA (ratV s0 n0 d0) x L from⟨s0,n0,d0,rfl,hv2⟩) (RatA_rv (int_szR (n:=((4*(a+b+2*k+2):Nat):Int))));have zm:=szR_mul zx (int_szR (n:=((4*(a+b+2*k+2):Nat):Int)));have j2:=ref2_Int ((3*(a+4+2*k):Nat):Int);have cm:=ref2_Cmp (RatA_rv zm) (RatA_rv (int_szR (n:=((3*(a+4+2*k):Nat):Int))));have ex:decide (cmpR (x*(((4*(a+b+2*k+2):Nat):Int):Rat)) (((3*(a+4+2*k):Nat):Int):Rat)<=0)=decide (x*(((4*(a+b+2*k+2):Nat):Int):Rat)<=(((3*(a+4+2*k):Nat):Int):Rat)):=cmpR_le
  generalize cmpR (x*(((4*(a+b+2*k+2):Nat):Int):Rat)) (((3*(a+4+2*k):Nat):Int):Rat)=zc at *
  generalize hX1:x*(((4*(a+b+2*k+2):Nat):Int):Rat)=X1 at *
  generalize hX2:((4*(a+b+2*k+2):Nat):Int)=N1 at *
  generalize hX3:((3*(a+4+2*k):Nat):Int)=N2 at *
  have wd:=ref4_WideN (a:=s1+u1) (b:=s2+u2) (n:=64) (by omega) (by omega) (by have:=st.2.2.1;omega);generalize hR1:(N1:Rat)=N1R at *
  generalize hR2:(N2:Rat)=N2R at *
  rw[<- hX2,show ((4*(a+b+2*k+2):Nat):Int)=4*((a:Int)+(b:Int)+2*(k:Int)+2) by omega]at j1;rw[<- hX3,show ((3*(a+4+2*k):Nat):Int)=3*((a:Int)+4+2*(k:Int)) by omega]at j2;clear lens step hg hX1 hX2 hX3 hR1 hR2 v12 u12 z1 z2;rw[show ((a+b+2*k:Nat):Int)=(a:Int)+(b:Int)+2*(k:Int) by omega]at of;rw[show ((a+2+2*k:Nat):Int)=(a:Int)+2+2*(k:Int) by omega]at by1;by_cases hu:u2<=8
  ·rw[decide_eq_true hu]at ec;by_cases hx:X1<=N2R
   ·rw[decide_eq_true hx]at ex;rw[if_pos ⟨hu,hx⟩]at hgo;simp only[Option.some.injEq,Prod.mk.injEq]at hgo;obtain⟨rfl,rfl,rfl⟩:=hgo;repeat (first|simp only[go_sem,i0,i1,i3,i6,o6,i8,o8,i9,o9,i11,i12,i13,o11,o12,ec,ex]|simp (disch:=first|exact omg|fail) only[AX,i0,i1,i3,i6,o6,i8,o8,i9,o9,i11,i12,i13,o11,o12,ec,ex]|refine wki ?_|refine vpd 3 [] ?_|refine vpd 8 [] ?_|refine vpd 9 [] ?_|refine vf_of (by first|exact pr|exact of|exact by1|exact sm|exact j1|exact mu|exact mo|exact w8|exact cc|exact j2|exact cm|exact wd) ?_)
   ·rw[decide_eq_false hx]at ex;rw[if_neg (fun h=>hx h.2)]at hgo;repeat (first|simp only[go_sem,i0,i1,i3,i6,o6,i8,o8,i9,o9,i11,i12,i13,o11,o12,ec,ex]|simp (disch:=first|exact omg|fail) only[AX,i0,i1,i3,i6,o6,i8,o8,i9,o9,i11,i12,i13,o11,o12,ec,ex]|refine wki ?_|refine vpd 3 [] ?_|refine vpd 8 [] ?_|refine vpd 9 [] ?_|refine vf_of (by first|exact pr|exact of|exact by1|exact sm|exact j1|exact mu|exact mo|exact w8|exact cc|exact j2|exact cm) ?_)
    exact⟨⟨f,k+1,u1,u2,s1+u1,s2+u2,rfl,by omega,hgo,rfl,rfl,st⟩,by omega⟩
  ·rw[decide_eq_false hu]at ec;rw[if_neg (fun h=>hu h.1)]at hgo;repeat (first|simp only[go_sem,i0,i1,i3,i6,o6,i8,o8,i9,o9,i11,i12,i13,o11,o12,ec]|simp (disch:=first|exact omg|fail) only[AX,i0,i1,i3,i6,o6,i8,o8,i9,o9,i11,i12,i13,o11,o12,ec]|refine wki ?_|refine vpd 3 [] ?_|refine vpd 8 [] ?_|refine vpd 9 [] ?_|refine vf_of (by first|exact pr|exact of|exact by1|exact sm|exact j1|exact mu|exact mo|exact w8|exact cc) ?_)
   exact⟨⟨f,k+1,u1,u2,s1+u1,s2+u2,rfl,by omega,hgo,rfl,rfl,st⟩,by omega⟩
end
end Go.Proofs.YtfknkoeagjonbaaGreat
namespace Go.Proofs.YtfknkoeagjonbaaGreat
open Go.Ev
theorem ref9_product (a b c:Nat) (to:Int) (ha:1<=a:=by omega) (hb:1<=b:=by omega) (h1:c=0\/((a+(c-1)*b:Nat):Int)<=to:=by omega) (h2:to<((a+c*b:Nat):Int):=by omega) (hto:to<=1073741824:=by omega) (hto0 : -9223372036854775808<=to:=by omega) (hc:c<=1048576:=by omega) (hab:a<=1073741824:=by omega) (hbb:b<=1073741824:=by omega) :
  Go.Ev.Fn CX 298 [.int .i64 (a:Int),.int .i64 to,.int .i64 (b:Int)] (natV (lim (prodN a b c))):=by
 have hle : ∀i,i<c->((a+i*b:Nat):Int)<=to:=by
  intro i hi;rcases h1 with h|h
  ·omega
  ·have:i*b<=(c-1)*b:=xC _ (by omega);omega
 have hlen : ∀i,i<=c->(lim (prodN a b i)).length<=i+1:=fun i hi=>prodN_len fun j hj=>by have:=hle j (by omega);omega
 refine fni Tryz.f298 ?_;unfold Tryz.f298;repeat (first|simp only[go_sem]|simp (disch:=first|exact omg|fail) only[AX]|refine wki ?_)
 refine vp_loop_inv (fun s=>s.tmp 1 = .sv (.int .i64 to)/\s.tmp 2 = .sv (.int .i64 (b:Int)) /\ ∃i:Nat,s.tmp 8 = .sv (.int .i64 ((a+i*b:Nat):Int))/\RowL s 7 9 (prodN a b i)/\i<=c)
  (fun s=>match s.tmp 8 with | .sv (.int _ n)=>(to+1-n).toNat|_=>0) ⟨rfl,rfl,0,by rw[zY,yE];rfl,.inr ⟨rfl,rfl,rfl⟩,by omega⟩ ?_
 rintro s ⟨i1,i2,i,i8,hR,hi⟩
 by_cases hend:i=c
 ·subst hend;have hlt : ¬((a+i*b:Nat):Int)<=to:=by omega
  rcases hR with i7|⟨hv,i7,iO⟩
  ·repeat (first|simp only[go_sem,i1,i2,i8,i7]|simp (disch:=first|exact omg|fail) only[AX,i1,i2,i8,i7]|refine wki ?_)
  ·rw[hv,lim_one];repeat (first|simp only[go_sem,i1,i2,i8,i7]|simp (disch:=first|exact omg|fail) only[AX,i1,i2,i8,i7]|refine wki ?_)
   exact ro_ref (cs:=[.int .u32 1]) (by decide) iO rfl
 ·have h3:=hle i (by omega);have hl:=hlen i hi;have oN:=ref1_Of (a+i*b);have hl2:=lim_len_one (a:=a+i*b);have hn:a+(i+1)*b=a+i*b+b:=by rw[xZ,xe,zR]
  have hnew:prodN a b (i+1)=prodN a b i*(a+i*b):=rfl;generalize hv:a+i*b=v at *
  have hM:=ref1_MulL (N:=prodN a b i) (D:=v);rcases hR with i7|⟨hv1,i7,iO⟩
  ·repeat (first|simp only[go_sem,i1,i2,i8,i7]|simp (disch:=first|exact omg|fail) only[AX,i1,i2,i8,i7]|refine wki ?_)
   repeat (first|simp only[go_sem,i1,i2,i8,i7]|simp (disch:=first|exact omg|fail) only[AX,i1,i2,i8,i7]|refine wki ?_|refine vfa ?_)
   refine⟨⟨i+1,by rw[hn],.inl (by rw[hnew];rfl),by omega⟩,by omega⟩
  ·rw[hv1,lim_one]at hM;repeat (first|simp only[go_sem,i1,i2,i8,i7,iO,N0]|simp (disch:=first|exact omg|fail) only[AX,i1,i2,i8,i7,iO,N0]|refine wki ?_|refine vfa ?_)
   refine⟨⟨i+1,by rw[hn],.inl (by rw[hnew,hv1];rfl),by omega⟩,by omega⟩
def capN (n:Int):Nat:=(if 512<n then 512 else n).toNat
theorem fac_len {k:Nat} (h:k<=1048576:=by omega):(lim (facN k)).length<=k+1:=prodN_len fun i hi=>by omega
theorem ref9_Factorial (n:Int) (hn : -9223372036854775808<=n:=by omega):Go.Ev.Fn CX 297 [.int .i64 n] (rv (facN (capN n):Rat)):=by
 have hcap:capN n<=512:=by unfold capN;split<;>omega
 have hr:=ref9_product 1 1 (capN n) (if 512<n then 512 else n) (by omega) (by omega) (by unfold capN;split<;>omega) (by unfold capN;split<;>omega) (by split<;>omega) (by split<;>omega);have hl:=fac_len (k:=capN n);have hOf:=ref2_OfL (s:=false) (n:=facN (capN n)) (d:=1) (by omega) (by have:=lim_len1;omega);rw[show mkRat (sgn false (facN (capN n))) 1=(facN (capN n):Rat) from Rat.mkRat_one _,lim_one]at hOf;refine fni Tryz.f297 ?_;unfold Tryz.f297;repeat (first|simp only[go_sem]|simp (disch:=first|exact omg|fail) only[AX]|refine wki ?_|refine vfa ?_)
theorem prod_odd {n:Nat} (h:n%2=1):prodN 1 2 ((n-1)/2)=prodN 3 2 ((n-3)/2):=by
 rcases xi n 3 with h1|h1
 ·obtain rfl:n=1:=by omega
  rfl
 ·obtain⟨k,hk⟩ : ∃k,(n-1)/2=k+1:=⟨(n-3)/2,by omega⟩
  rw[hk,prodN_front,xe,show (n-3)/2=k by omega]
theorem ref9_Half (n:Nat) (h1:1<=n:=by omega) (h:n<=512:=by omega):Go.Ev.Fn CX 250 [.int .i64 (n:Int)] (.tup [rv (gam2 n),.int .i64 (n%2:Nat),.bool true]):=by
 have hu:(n:Int).tmod 2=((n%2:Nat):Int):=rfl;have hd:((n:Int)).tdiv 2=((n/2:Nat):Int):=rfl;by_cases h0:n%2=0
 ·have hF:=ref9_Factorial ((n/2-1:Nat):Int);rw[show capN ((n/2-1:Nat):Int)=n/2-1 by unfold capN;rw[if_neg (by omega)];omega,<- facN_two,show n/2-1-1=n/2-2 by omega]at hF;rw[show gam2 n=((prodN 2 1 (n/2-2):Nat):Rat) from if_pos h0,h0];rw[h0]at hu;refine fni Tryz.f250 ?_;unfold Tryz.f250;repeat (first|simp only[go_sem,hu,hd]|simp (disch:=first|exact omg|fail) only[AX,hu,hd]|refine wki ?_|refine vfa ?_)
  rfl
 ·have hr:=ref9_product 1 2 ((n-1)/2) ((n:Int)-2);have hl:=prodN_len (a:=3) (b:=2) (c:=(n-3)/2) (fun i hi=>by omega);have h01:n%2=1:=by omega
  rw[prod_odd h01]at hr;have hS:=ref1_shift_up [1] (n/2) (by simp[okL]) (by simp) ((n/2:Nat):Int) rfl;rw[show wth [1]=1 from rfl,xe]at hS;have hp:=pow_len (n/2);have hOf:=ref2_OfL (s:=false) (n:=prodN 3 2 ((n-3)/2)) (d:=2^(n/2));rw[show gam2 n=mkRat (prodN 3 2 ((n-3)/2):Nat) (2^(n/2)) from if_neg h0,h01];rw[h01]at hu;refine fni Tryz.f250 ?_;unfold Tryz.f250;repeat (first|simp only[go_sem,hu,hd]|simp (disch:=first|exact omg|fail) only[AX,hu,hd]|refine wki ?_|refine vfa ?_)
  exact⟨rfl,rfl⟩
theorem ref9_Beta (a b:Nat) (ha:1<=a) (ha2:a<=256) (hb:1<=b) (hb2:b<=256:=by omega):Go.Ev.Fn CX 189 [.int .i64 (a:Int),.int .i64 (b:Int)] (.tup [rv (beta2 a b),.int .i64 (a%2*(b%2):Nat),.bool true]):=by
 have g1:=ref9_Half a ha;have g2:=ref9_Half b hb;have g3:=ref9_Half (a+b);have z1:=gam2_size (n:=a);have z2:=gam2_size (n:=b);have z3:=gam2_size (n:=a+b);have m1:=ref2_Mul (RatA_rv z1) (RatA_rv z2);have d1:=ref2_Div (RatA_rv (szR_mul z1 z2)) (RatA_rv z3);rw[decide_eq_true (gam2_pos (n:=a+b)),show gam2 a*gam2 b/gam2 (a+b)=beta2 a b from rfl]at d1;have e1:((a%2+b%2:Nat):Int).tdiv 2=((a%2*(b%2):Nat):Int):=by
  rw[show ((a%2+b%2:Nat):Int).tdiv 2=(((a%2+b%2)/2:Nat):Int) from rfl];rcases zO a with ha|ha<;>rcases zO b with hb|hb<;>rw[ha,hb]
 have hk:a%2*(b%2)<=1:=by
  rcases zO a with ha|ha<;>rcases zO b with hb|hb<;>rw[ha,hb]<;>decide
 generalize hx:a%2*(b%2)=x at *
 refine fni Tryz.f189 ?_;unfold Tryz.f189;repeat (first|simp only[go_sem,e1]|simp (disch:=first|exact omg|fail) only[AX,e1]|refine wki ?_|refine vpd 6 [] ?_|refine vfa ?_)
end Go.Proofs.YtfknkoeagjonbaaGreat
namespace Go.Proofs.YtfknkoeagjonbaaGreat
open Go.Ev
def ivOk3 (w:Nat):Bool:=match piIv w with
 |some (lo,hi)=>Nat.ble (2^w) lo&&Nat.ble hi (2^(w+3))
 |none=>false
theorem iv_ok3:allFrom ivOk3 201 340=true:=by kernel_rfl
theorem ref8_Pi2 {w:Nat} (h1:340<=w) (h2:w<=540:=by omega) : ∃lo hi:Nat,Go.Ev.Fn CX 193 [.int .i64 (w:Int)] (ivN lo hi)/\Enc w lo hi PI0/\2^w<=lo/\lo<=hi/\(lim hi).length<=1000:=by
 have h:=allFrom_at iv_ok2 w (by omega) (by omega);have h3:=allFrom_at iv_ok3 w h1 (by omega);unfold ivOk2 at h;unfold ivOk3 at h3;split at h
 ·rename_i lo hi hpi;rw[hpi]at h3;rw[xh]at h;have k1:=xj h.1;have k2:=xj h.2;have h4:(Nat.ble (2^w) lo&&Nat.ble hi (2^(w+3)))=true:=h3;rw[xh]at h4;have k3:2^w<=lo:=xj h4.1;have k4:=lim_len_p2 (xj h4.2);refine⟨lo,hi,ref8_PiIv (by omega) hpi,⟨pi_lo (by omega) k1,pi_hi (by omega) k2⟩,k3,yv (xH k1 k2) (xK (by omega)),by omega⟩
 ·cases h
theorem ref4_InvN {a b w:Nat} (ha:0<a) (hab:a<=b) (hb:(lim b).length<=100000:=by omega) (hw:w<=2000:=by omega):Go.Ev.Fn CX 192 [ivN a b,.int .i64 (w:Int)] (ivN (2^(2*w)/b) (cdv (2^(2*w)) a)):=by
 have p:=ref4_pow2 (n:=2*w);have l:=lim_len_shl (a:=1) (n:=2*w);have l1:=lim_len1;rw[xe]at l;have f1:=ref4_Fall ((2^(2*w):Nat):Int) b (by omega) (by rw[xJ];omega);have f2:=ref4_Rise ((2^(2*w):Nat):Int) a (by omega) (by rw[xJ];omega) (xH (lim_len_mono hab) (by omega));rw[cdZ_nat ha,intN_eq,intN_eq]at f2;rw[<- wK,intN_eq,intN_eq]at f1;rw[show ((2*w:Nat):Int)=2*(w:Int) by omega]at p;generalize 2^(2*w)/b=x at *
 generalize cdv (2^(2*w)) a=y at *
 generalize 2^(2*w)=P at *
 refine fni Tryz.f192 ?_;unfold Tryz.f192;repeat (first|simp only[go_sem]|simp (disch:=first|exact omg|fail) only[AX]|refine wki ?_|refine vpd 2 [13,18] ?_|refine vfa ?_)
theorem enc_invN {a b w:Nat} {q:Rat} (ha:0<a) (h:Enc w a b q):Enc w (2^(2*w)/b) (cdv (2^(2*w)) a) (1/q):=by
 obtain⟨⟨k1,-⟩,q0⟩:=enc_inv ha h;refine⟨k1,?_⟩;have aR:(0:Rat)<(a:Rat):=by exact_mod_cast ha
 have P:=p2_pos w;have g:=cdv_geR (2^(2*w)) ha;have e0:((2^(2*w):Nat):Rat)=p2 w*p2 w:=by rw[<- p2_plus,show w+w=2*w by omega]
 rw[e0]at g;have iq:1/q*q=1:=xd (by grind);have i0:0<=1/q:=by
  rcases zC (a:=0) (b:=1/q) with k|k
  ·exact k
  ·have:=xA k (show 0<=q by grind);grind
 generalize 1/q=i at *
 refine le_by aR ?_;have k1:=xB h.1 (show 0<=i*p2 w from xF i0 (by grind));have k2:i*p2 w*(q*p2 w)=p2 w*p2 w:=by
  have:i*p2 w*(q*p2 w)=i*q*(p2 w*p2 w):=by grind
  rw[this,iq,xc]
 grind
theorem sR_top2 {x:Rat} {a b K:Nat} (h0:0<=x) (h1:x+x<=1) (hK:x*(((4*(a+b+2*K):Nat):Int):Rat)<=(((3*(a+2+2*K):Nat):Int):Rat)) (j:Nat) :
  sR x a b (K+j)+3*rR x a b (K+j)<=sR x a b K+3*rR x a b K/\x*(((4*(a+b+2*(K+j)):Nat):Int):Rat)<=(((3*(a+2+2*(K+j)):Nat):Int):Rat):=by
 induction j with
 |zero=>exact⟨xN,hK⟩
 |succ j ih=>
  obtain⟨i1,i2⟩:=ih;have M:(0:Rat)<((a+2+2*(K+j):Nat):Rat):=by exact_mod_cast (show 0<a+2+2*(K+j) by omega)
  have e:=rR_step (x:=x) (a:=a) (b:=b) (K+j);have r0:=rR_nn (a:=a) (b:=b) h0 (K+j);have c1:(((4*(a+b+2*(K+j)):Nat):Int):Rat)=4*((a+b+2*(K+j):Nat):Rat):=by
   have:(((4*(a+b+2*(K+j)):Nat):Int):Rat)=((4*(a+b+2*(K+j)):Nat):Rat):=rfl;rw[this];exact_mod_cast rfl
  have c2:(((3*(a+2+2*(K+j)):Nat):Int):Rat)=3*((a+2+2*(K+j):Nat):Rat):=by
   have:(((3*(a+2+2*(K+j)):Nat):Int):Rat)=((3*(a+2+2*(K+j)):Nat):Rat):=rfl;rw[this];exact_mod_cast rfl
  have c3:(((4*(a+b+2*(K+(j+1))):Nat):Int):Rat)=4*((a+b+2*(K+j):Nat):Rat)+8:=by
   have:(((4*(a+b+2*(K+(j+1))):Nat):Int):Rat)=((4*(a+b+2*(K+j))+8:Nat):Rat):=by congr 2
   rw[this];exact_mod_cast rfl
  have c4:(((3*(a+2+2*(K+(j+1))):Nat):Int):Rat)=3*((a+2+2*(K+j):Nat):Rat)+6:=by
   have:(((3*(a+2+2*(K+(j+1))):Nat):Int):Rat)=((3*(a+2+2*(K+j))+6:Nat):Rat):=by congr 2
   rw[this];exact_mod_cast rfl
  rw[c1,c2]at i2;refine⟨?_,by rw[c3,c4];grind⟩;refine xE ?_ i1;show sR x a b (K+j)+rR x a b (K+j+1)+3*rR x a b (K+j+1)<=_;have key:4*rR x a b (K+j+1)<=3*rR x a b (K+j):=by
   clear i1 c1 c2 c3 c4 hK;generalize ((a+2+2*(K+j):Nat):Rat)=m at *
   generalize ((a+b+2*(K+j):Nat):Rat)=n at *
   generalize rR x a b (K+j+1)=r' at *
   generalize rR x a b (K+j)=r at *
   refine le_by M ?_;have k1:=xB i2 r0;have e1:4*r'*m=r*(x*(4*n)):=by
    have:4*r'*m=4*(r'*m):=by grind
    rw[this,e];grind
   rw[e1];have e2:3*r*m=r*(3*m):=by grind
   rw[e2];exact k1
  grind
theorem quo_is {r:Rat} {a:Nat} (h:0<r.num.natAbs*a) (hr:0<=r):2/(r*((a:Int):Rat))=((r.den*2:Nat):Rat)/((r.num.natAbs*a:Nat):Rat):=by
 have N:(0:Rat)<((r.num.natAbs*a:Nat):Rat):=by exact_mod_cast h
 have D:(0:Rat)<(r.den:Rat):=by exact_mod_cast r.den_pos
 have h2:((r.num.natAbs:Nat):Rat)=r*(r.den:Rat):=by
  rw[num_den r,<- num_abs hr];rfl
 have c1:((r.num.natAbs*a:Nat):Rat)=r*(r.den:Rat)*(a:Rat):=by rw[<- h2];exact_mod_cast rfl
 have c2:((r.den*2:Nat):Rat)=(r.den:Rat)*2:=by exact_mod_cast rfl
 have ca:(((a:Int)):Rat)=(a:Rat):=rfl;rw[c1]at N;rw[c1,c2,ca];generalize (r.den:Rat)=d at *
 generalize (a:Rat)=x at *
 have nz:r*x≠0:=by
  intro e;have:r*d*x=r*x*d:=by grind
  rw[this,e]at N;grind
 have e1:=xd (a:=2) (b:=r*x) nz;have e2:=xd (a:=d*2) (b:=r*d*x) (by grind);generalize 2/(r*x)=u at *
 generalize d*2/(r*d*x)=v at *
 have e3:(u-v)*(r*d*x)=0:=by grind
 rcases Rat.mul_eq_zero.1 e3 with g|g
 ·grind
 ·grind
end Go.Proofs.YtfknkoeagjonbaaGreat
namespace Go.Proofs.YtfknkoeagjonbaaGreat
open Go.Ev
theorem cdv_self (a:Nat) {d:Nat} (hd:0<d):cdv a d<=a:=cdv_le hd (yi _ hd)
theorem prod_le {b d w x y:Nat} (h1:b<=2^x) (h2:d<=2^(w+y)):cdv (b*d) (2^w)<=2^(x+y):=by
 refine cdv_le (xK (by omega)) ?_;have:=xO h1 h2;rw[<- xM]at this;rw[<- xM,show x+y+w=x+(w+y) by omega];exact this
theorem gam2_nn (n:Nat):0<=gam2 n:=by
 unfold gam2;split
 ·exact nat_nonneg _
 ·have P:=p2_pos (n/2);exact le_by P (by rw[mk_p2n,xw];exact nat_nonneg _)
theorem beta2_nn (a b:Nat):0<=beta2 a b:=by
 unfold beta2;have h:=gam2_nn (a+b);have h2:0<gam2 (a+b):=by have:=gam2_pos (n:=a+b);grind
 rw[xk];exact xF (xF (gam2_nn a) (gam2_nn b)) (by have:=zU.2 h2;grind)
theorem enc_backN {w A B n:Nat} {q:Rat} (h:Enc (w+n) A B q):Enc w (A/2^n) (cdv B (2^n)) q:=by
 have P:=p2_pos n;have f:=floor_le (a:=A) (d:=2^n);have g:=cdv_geR B (show 0<2^n from xK (by omega));obtain⟨h1,h2⟩:=h;rw[p2_plus]at h1 h2;refine⟨le_by P ?_,le_by P ?_⟩
 ·have e:q*p2 w*p2 n=q*(p2 w*p2 n):=by grind
  rw[e];exact xE f h1
 ·have e:q*p2 w*p2 n=q*(p2 w*p2 n):=by grind
  rw[e];exact xE h2 g
section
variable {v:SV} {x:Rat} {w L a b:Nat}
set_option maxHeartbeats 2000000 in
theorem ref12_core (hv:RatA v x L) (hL1:1<=L) (hL:L<=260) (ha:1<=a) (ha2:a<=22) (hb:1<=b) (hb2:b<=22) (h0:0<=x) (h1:x+x<=1) (hw0:40<=w) (hw:w<=200) :
  ∃A B K:Nat,∃p1 p2' q1 q2:Rat,Go.Ev.Fn CX 120 [.int .i64 (a:Int),.int .i64 (b:Int),v,.int .i64 (w:Int)] (ivN A B)/\A<=B/\B<=2^(w+400) /\
   0<=p1/\p1*p1<=x/\0<=p2'/\x<=p2'*p2'/\0<=q1/\q1*q1<=1-x/\0<=q2/\1-x<=q2*q2 /\
   ∀sx sy,p1<=sx->sx<=p2'->q1<=sy->sy<=q2 -> ∀M,K<=M->Enc w A B (fstR a b x sx sy*sR x a b M):=by
 obtain⟨W,hW,hw1,hw2,hwi⟩ : ∃W:Nat,(∀Q:Nat->Prop,Q W->Q (w+300))/\340<=W/\W<=500/\(w:Int)+300=(W:Int):=⟨w+300,fun Q h=>h,by omega,by omega,rfl⟩
 have zx:=szR_of hv hL1;have zy:=szR_sub one_szR' zx;have hP:2^60<=2^W:=xD (n:=2) (by omega) (by omega);obtain⟨X1,X2,p1,p2',fx,x1,x2,a0,a1,a2,a3,ex⟩:=ref12_power (n:=a) (w:=W) hv hL1 (by omega) h0 (show x<=1 by clear hW;grind);obtain⟨Y1,Y2,q1,q2,fy,y1,y2,b0,b1,b2,b3,ey⟩:=ref12_power (n:=b) (w:=W) (RatA_rv zy) (by omega) (by omega) (show 0<=1-x by clear fx ex;grind) (show 1-x<=1 by clear fx ex;grind);obtain⟨A0,B0,K,fr,r1,r2,r3,r4,r5⟩:=ref12_row (w:=W) hv hL1 (by omega) ha ha2 hb hb2 h0 h1;have er : ∀M,K<=M->Enc W A0 B0 (sR x a b M):=by
  intro M hM;have P:=p2_pos W;obtain⟨j,rfl⟩:=wG hM;refine⟨xE r3 (xA (sR_up h0 hM) (xG P)),xE (xA ?_ (xG P)) r4⟩;have:=(sR_top2 h0 h1 r5 j).1;have n:=rR_nn (a:=a) (b:=b) h0 (K+j);grind
 have hp1:2^(W+1)=2*2^W:=by rw[xU,xV]
 have X2':X2<=2^(W+1):=by omega
 have Y2':Y2<=2^(W+1):=by omega
 have lX2:=lim_len_p2 X2';have lY2:=lim_len_p2 Y2';have pr1:=ref4_ProdN (a:=X1) (b:=X2) (c:=Y1) (d:=Y2) (w:=W) x1 y1;have P0:0<2^W:=xK (by omega);have m12:X1*Y1/2^W<=cdv (X2*Y2) (2^W):=div_le_cdv P0 (xO x1 y1);have mT:cdv (X2*Y2) (2^W)<=2^(W+1+1):=prod_le (y:=1) X2' Y2';have em:=fun sx sy (u1:p1<=sx) (u2:sx<=p2') (v1:q1<=sy) (v2:sy<=q2)=>enc_prodN (ex sx u1 u2) (ey sy v1 v2)
 generalize X1*Y1/2^W=M1 at *
 generalize cdv (X2*Y2) (2^W)=M2 at *
 have lM2:=lim_len_p2 mT;have be:=ref9_Beta a b ha (by omega) hb;obtain⟨c1,c2⟩:=bet_ok ha hb ha2 hb2;have zb:=beta2_size (a:=a) (b:=b);have bnn:0<=beta2 a b:=beta2_nn a b;have qi:=quo_is c2 bnn;have i2:=ref2_Int 2;have ia:=ref2_Int (a:Int);have i1:=ref2_Int 1;have mu:=ref2_Mul (RatA_rv zb) (RatA_rv (int_szR (n:=(a:Int))));have zm:=szR_mul zb (int_szR (n:=(a:Int)));have di:=ref2_Div (RatA_rv (int_szR (n:=2))) (RatA_rv zm);have zq:=szR_div (int_szR (n:=2)) zm;have sb:=ref2_Sub (RatA_rv (int_szR (n:=1))) hv (by omega) hL1;rw[show ((1:Int):Rat)=1 from rfl]at i1 sb
 rw[show ((2:Int):Rat)=2 from rfl]at i2 di zq;have qnn:0<=2/(beta2 a b*((a:Int):Rat)):=by
  have N:(0:Rat)<(((beta2 a b).num.natAbs*a:Nat):Rat):=by exact_mod_cast c2
  rw[qi,xk];exact xF (nat_nonneg _) (by have:=zU.2 N;grind)
 have qT:upN (2/(beta2 a b*((a:Int):Rat))) W<=2^(W+20):=by
  refine upN_le (n:=1048576) (m:=1) qnn ?_ (by rw[xM];omega);have N:(0:Rat)<(((beta2 a b).num.natAbs*a:Nat):Rat):=by exact_mod_cast c2
  refine le_by N ?_;rw[qi];have e1:=xd (a:=(((beta2 a b).den*2:Nat):Rat)) (b:=(((beta2 a b).num.natAbs*a:Nat):Rat)) (by grind);have e2:=nat_le_rat c1;have e3:((1048576*((beta2 a b).num.natAbs*a):Nat):Rat)=((1048576:Nat):Rat)*(((beta2 a b).num.natAbs*a:Nat):Rat):=by exact_mod_cast rfl
  rw[e3,<- e1]at e2;have one:((1:Nat):Rat)=1:=rfl;rw[one,yA];exact e2
 have nq:=ref4_NumN (w:=W) (RatA_rv zq) (by omega) (by omega) (by omega) qnn;have eq:=num_enc qnn W;have q12:=un_up (q:=2/(beta2 a b*((a:Int):Rat))) W;have lq:=lim_len_p2 qT;have pr2:=ref4_ProdN (a:=M1) (b:=M2) (c:=unN (2/(beta2 a b*((a:Int):Rat))) W) (d:=upN (2/(beta2 a b*((a:Int):Rat))) W) (w:=W) m12 q12;have et:=fun sx sy (u1:p1<=sx) (u2:sx<=p2') (v1:q1<=sy) (v2:sy<=q2)=>enc_prodN (em sx sy u1 u2 v1 v2) eq
 have n12:=div_le_cdv (d:=2^W) P0 (xO m12 q12);have nT:cdv (M2*upN (2/(beta2 a b*((a:Int):Rat))) W) (2^W)<=2^(W+1+1+20):=prod_le mT qT;have hbe : ∃be2,be2=beta2 a b:=⟨_,rfl⟩
 obtain⟨be2,hbe⟩:=hbe;have fst : ∀sx sy,(if a%2*(b%2)=1 then 1/PI0 else 1)*(pwR x (a/2)*(if a%2=1 then sx else 1)*(pwR (1-x) (b/2)*(if b%2=1 then sy else 1))*(2/(beta2 a b*((a:Int):Rat))))=fstR a b x sx sy:=by
  intro sx sy;rw[qi];unfold fstR;rw[xk,xk];grind
 generalize 2/(beta2 a b*((a:Int):Rat))=Q at *
 generalize M1*unN Q W/2^W=N1 at *
 generalize cdv (M2*upN Q W) (2^W)=N2 at *
 generalize unN Q W=U1 at *
 generalize upN Q W=U2 at *
 have lN2:=lim_len_p2 nT;have nT':=nT;have lB0:=lim_len_p2 r2;rw[hbe.symm]at be mu di;generalize be2*((a:Int):Rat)=mq at *
 clear em qi c1 c2 zb bnn zm zq qnn eq r3 r4 r5 mT nT qT X2' Y2' x2 y2;by_cases hpi:a%2*(b%2)=1
 ·obtain⟨PL,PH,fp,pe,pl,plh,PHl⟩:=ref8_Pi2 (w:=W) hw1;have be':Go.Ev.Fn CX 189 [.int .i64 (a:Int),.int .i64 (b:Int)] (.tup [rv be2,.int .i64 1,.bool true]):=by
   rw[hpi]at be;exact be
  have PL0:0<PL:=by omega
  have pp:2^(2*W)=2^W*2^W:=by rw[<- xM,show 2*W=W+W by omega]
  have ig:=ref4_InvN (a:=PL) (b:=PH) (w:=W) PL0 plh;have ei:=enc_invN PL0 pe;have i12:2^(2*W)/PH<=cdv (2^(2*W)) PL:=xH (ww plh PL0) (div_le_cdv PL0 (xQ _));have iT:cdv (2^(2*W)) PL<=2^W:=cdv_le PL0 (by rw[pp];exact xI _ pl);have lI:=lim_len_p2 iT;generalize 2^(2*W)/PH=I1 at *
  generalize cdv (2^(2*W)) PL=I2 at *
  have pr4:=ref4_ProdN (a:=N1) (b:=N2) (c:=I1) (d:=I2) (w:=W) n12 i12;have r12:=div_le_cdv (d:=2^W) P0 (xO n12 i12);have rT:cdv (N2*I2) (2^W)<=2^(W+1+1+20):=xH (cdv_le P0 (xI _ iT)) nT';have eG:=fun sx sy (u1:p1<=sx) (u2:sx<=p2') (v1:q1<=sy) (v2:sy<=q2)=>enc_prodN (et sx sy u1 u2 v1 v2) ei
  generalize N1*I1/2^W=R1 at *
  generalize cdv (N2*I2) (2^W)=R2 at *
  have lR2:=lim_len_p2 rT;have pr3:=ref4_ProdN (a:=R1) (b:=R2) (c:=A0) (d:=B0) (w:=W) r12 r1;have z12:=div_le_cdv (d:=2^W) P0 (xO r12 r1);have lz:=lim_len_mul (a:=R2) (b:=B0);have lz2:=lim_len_mono (cdv_self (R2*B0) P0);have eF:=fun sx sy (u1:p1<=sx) (u2:sx<=p2') (v1:q1<=sy) (v2:sy<=q2) M (hM:K<=M)=>enc_prodN (eG sx sy u1 u2 v1 v2) (er M hM)
  have zT:cdv (R2*B0) (2^W)<=2^(W+1+1+20+64):=prod_le rT r2;generalize R1*A0/2^W=Z1 at *
  generalize cdv (R2*B0) (2^W)=Z2 at *
  have bk:=ref4_BackN (a:=Z1) (b:=Z2) (n:=300) (xH (lim_len_mono z12) (by omega));have zT':Z2<=2^(w+400):=xH zT (xD (by omega) (by omega));have oT:cdv Z2 (2^300)<=2^(w+400):=xH (cdv_self Z2 (wP 300)) zT';have o12:=div_le_cdv (d:=2^300) (wP 300) z12;refine⟨_,_,K,p1,p2',q1,q2,?_,o12,oT,a0,a1,a2,a3,b0,b1,b2,b3,?_⟩;rotate_left
  ·intro sx sy u1 u2 v1 v2 M hM;have h:=eF sx sy u1 u2 v1 v2 M hM;have f:=fst sx sy;rw[if_pos hpi,ya (1/PI0)]at f;rw[f]at h;exact enc_backN (w:=w) (n:=300) (hW (fun W=>Enc W Z1 Z2 (fstR a b x sx sy*sR x a b M)) h)
  clear eG eF er et ex ey fst oT zT zT' ei pe a0 a1 a2 a3 b0 b1 b2 b3;generalize 1-x=y at *
  generalize cdv Z2 (2^300)=O2 at *
  generalize Z1/2^300=O1 at *
  obtain⟨s0,n0,d0,rfl,-⟩:=hv;refine fni Tryz.f120 ?_;unfold Tryz.f120;repeat (first|simp only[go_sem,hwi]|simp (disch:=first|exact omg|fail) only[AX,hwi]|refine wki ?_|refine vpd 3 [] ?_|refine vpd 4 [] ?_|refine vpd 5 [] ?_|refine vpd 7 [] ?_|refine vpd 8 [] ?_|refine vfa ?_)
 ·have be':Go.Ev.Fn CX 189 [.int .i64 (a:Int),.int .i64 (b:Int)] (.tup [rv be2,.int .i64 0,.bool true]):=by
   have:a%2*(b%2)=0:=by
    have x1:a%2<=1:=by omega
    have x2:b%2<=1:=by omega
    have:=xO x1 x2;omega
   rw[this]at be;exact be
  have pr3:=ref4_ProdN (a:=N1) (b:=N2) (c:=A0) (d:=B0) (w:=W) n12 r1;have z12:=div_le_cdv (d:=2^W) P0 (xO n12 r1);have lz:=lim_len_mul (a:=N2) (b:=B0);have lz2:=lim_len_mono (cdv_self (N2*B0) P0);have eF:=fun sx sy (u1:p1<=sx) (u2:sx<=p2') (v1:q1<=sy) (v2:sy<=q2) M (hM:K<=M)=>enc_prodN (et sx sy u1 u2 v1 v2) (er M hM)
  have zT:cdv (N2*B0) (2^W)<=2^(W+1+1+20+64):=prod_le nT' r2;generalize N1*A0/2^W=Z1 at *
  generalize cdv (N2*B0) (2^W)=Z2 at *
  have bk:=ref4_BackN (a:=Z1) (b:=Z2) (n:=300) (xH (lim_len_mono z12) (by omega));have zT':Z2<=2^(w+400):=xH zT (xD (by omega) (by omega));have oT:cdv Z2 (2^300)<=2^(w+400):=xH (cdv_self Z2 (wP 300)) zT';have o12:=div_le_cdv (d:=2^300) (wP 300) z12;refine⟨_,_,K,p1,p2',q1,q2,?_,o12,oT,a0,a1,a2,a3,b0,b1,b2,b3,?_⟩;rotate_left
  ·intro sx sy u1 u2 v1 v2 M hM;have h:=eF sx sy u1 u2 v1 v2 M hM;have f:=fst sx sy;rw[if_neg hpi,xc]at f;rw[f]at h;exact enc_backN (w:=w) (n:=300) (hW (fun W=>Enc W Z1 Z2 (fstR a b x sx sy*sR x a b M)) h)
  clear eF er et ex ey fst oT zT zT' a0 a1 a2 a3 b0 b1 b2 b3;generalize 1-x=y at *
  generalize cdv Z2 (2^300)=O2 at *
  generalize Z1/2^300=O1 at *
  obtain⟨s0,n0,d0,rfl,-⟩:=hv;refine fni Tryz.f120 ?_;unfold Tryz.f120;repeat (first|simp only[go_sem,hwi]|simp (disch:=first|exact omg|fail) only[AX,hwi]|refine wki ?_|refine vpd 3 [] ?_|refine vpd 4 [] ?_|refine vpd 5 [] ?_|refine vpd 7 [] ?_|refine vpd 8 [] ?_|refine vfa ?_)
end
end Go.Proofs.YtfknkoeagjonbaaGreat
namespace Go.Proofs.YtfknkoeagjonbaaGreat
open Go.Ev
theorem tm_neg (y:Rat) : ∀m,Ex.tm (-y) m=if m%2=1 then -Ex.tm y m else Ex.tm y m
 |0=>rfl
 |m+1=>by
  have ih:=tm_neg y m;show Ex.tm (-y) m * -y/((m+1:Nat):Rat)=if (m+1)%2=1 then -(Ex.tm y m*y/((m+1:Nat):Rat)) else Ex.tm y m*y/((m+1:Nat):Rat)
  rw[xk,xk];by_cases h:m%2=1
  ·rw[if_pos h]at ih;rw[ih,if_neg (by omega)];grind
  ·rw[if_neg h]at ih;rw[ih,if_pos (by omega)];grind
theorem tm_negB {y:Rat} (h:0<=y) (m:Nat):Ex.Bdd (Ex.tm (-y) m) (Ex.tm y m):=by
 have n:=Ex.tm_nn h m;rw[tm_neg];by_cases g:m%2=1
 ·rw[if_pos g];constructor<;>grind
 ·rw[if_neg g];constructor<;>grind
theorem pe_negB {y:Rat} (h:0<=y) (N:Nat) : ∀c,Ex.Bdd (Ex.E (-y) c*Ex.E y N-Ex.pe (-y) y N c) (Ex.E y c*Ex.E y N-Ex.pe y y N c)
 |0=>by
  show Ex.Bdd (0*_-0) (0*_-0);rw[xw];exact⟨by decide +kernel,by decide +kernel⟩
 |c+1=>by
  have ih:=pe_negB h N c;have m:=Ex.E_mono h (zt N c);have d:Ex.Bdd (Ex.E y N-Ex.E y (N-c)) (Ex.E y N-Ex.E y (N-c)):=by
   generalize Ex.E y N=a at *
   generalize Ex.E y (N-c)=b at *
   clear ih;constructor<;>grind
  have t:=Ex.Bdd_add ih (Ex.Bdd_mul (tm_negB h c) d);have e1:Ex.E (-y) (c+1)*Ex.E y N-Ex.pe (-y) y N (c+1)=Ex.E (-y) c*Ex.E y N-Ex.pe (-y) y N c+Ex.tm (-y) c*(Ex.E y N-Ex.E y (N-c)):=by
   show (Ex.E (-y) c+Ex.tm (-y) c)*Ex.E y N-(Ex.pe (-y) y N c+Ex.tm (-y) c*Ex.E y (N-c))=_;grind
  have e2:Ex.E y (c+1)*Ex.E y N-Ex.pe y y N (c+1)=Ex.E y c*Ex.E y N-Ex.pe y y N c+Ex.tm y c*(Ex.E y N-Ex.E y (N-c)):=by
   show (Ex.E y c+Ex.tm y c)*Ex.E y N-(Ex.pe y y N c+Ex.tm y c*Ex.E y (N-c))=_;grind
  rw[e1,e2];exact t
theorem E_inv {y:Rat} (h:0<=y) {L:Nat} (h1:1<=L) (h2:(y+y)+(y+y)<=((L+1:Nat):Rat)):Ex.Bdd (Ex.E (-y) L-1/Ex.E y L) (2*Ex.tm (y+y) L):=by
 have a:=pe_negB h L L;rw[Ex.pe_full,Ex.pe_full,show -y+y=0 by grind]at a;obtain⟨k,rfl⟩ : ∃k,L=k+1:=⟨L-1,by omega⟩
 rw[Ex.E_zero]at a;have b:=Ex.E_add_ge h h (k+1) (k+1);have c:=Ex.E_tail_le (L:=k+1+(k+1)) (show 0<=y+y by grind) h2;have one:=E_one h h1;have iv:Ex.E y (k+1)*(1/Ex.E y (k+1))=1:=Ex.mul_div _ 1 (by grind);have i0:0<=1/Ex.E y (k+1):=Ex.div_nn (by decide) (by grind);have i1:1/Ex.E y (k+1)<=1:=by
  have:=xA one i0;rw[iv,xc]at this;exact this
 generalize 1/Ex.E y (k+1)=i at *
 have bi:Ex.Bdd i 1:=⟨by grind,i1⟩
 have m:=Ex.Bdd_mul (Ex.Bdd_mono a (show _<=2*Ex.tm (y+y) (k+1) by grind)) bi;rw[yA]at m;have e:(Ex.E (-y) (k+1)*Ex.E y (k+1)-1)*i=Ex.E (-y) (k+1)-i:=by
  have:(Ex.E (-y) (k+1)*Ex.E y (k+1)-1)*i=Ex.E (-y) (k+1)*(Ex.E y (k+1)*i)-i:=by grind
  rw[this,iv,yA]
 rw[e]at m;exact m
theorem E_cut {y:Rat} (h:0<=y) {M:Nat} : ∀k,Ex.Bdd (Ex.E (-y) (M+k)-Ex.E (-y) M) (Ex.E y (M+k)-Ex.E y M)
 |0=>by rw[yE,zg,zg];exact⟨by decide +kernel,by decide +kernel⟩
 |k+1=>by
  have ih:=E_cut h (M:=M) k;have t:=Ex.Bdd_add ih (tm_negB h (M+k));have e1:Ex.E (-y) (M+(k+1))-Ex.E (-y) M=Ex.E (-y) (M+k)-Ex.E (-y) M+Ex.tm (-y) (M+k):=by
   show Ex.E (-y) (M+k)+Ex.tm (-y) (M+k)-_=_;grind
  have e2:Ex.E y (M+(k+1))-Ex.E y M=Ex.E y (M+k)-Ex.E y M+Ex.tm y (M+k):=by
   show Ex.E y (M+k)+Ex.tm y (M+k)-_=_;grind
  rw[e1,e2];exact t
theorem E_near {y e:Rat} (h:0<=y) (h1:y+y<=1) (he:0<e) (M:Nat) : ∃s,∀L,s<=L->Ex.Bdd (Ex.E (-y) M-1/Ex.E y L) (2*Ex.tm y M+e):=by
 obtain⟨N,hN⟩:=Ex.tm_small (show 0<=y+y by grind) he;refine⟨N+M+1,fun L hL => ?_⟩;obtain⟨n1,n2⟩:=hN L (by omega);have a:=E_inv h (show 1<=L by omega) n1;obtain⟨k,rfl⟩ : ∃k,L=M+k:=⟨L-M,by omega⟩
 have b:=E_cut h (M:=M) k;have c1:((1:Nat):Rat)<=((M+1:Nat):Rat):=Ex.castle (by omega);have c:=Ex.E_tail_le (L:=M+k) h (N:=M) (xE h1 c1);obtain⟨a1,a2⟩:=a;obtain⟨b1,b2⟩:=b;constructor<;>grind
def EncZ (w:Nat) (a b:Int) (q:Rat):Prop:=(a:Rat)<=q*p2 w/\q*p2 w<=(b:Rat)
def nRow (w Y1 Y2:Nat):Nat->Nat->Nat->Nat->Int->Int->Option (Int×Int)
 |0,_,_,_,_,_=>none
 |f+1,i,t1,t2,s1,s2=>
  if cdv (cdv (t2*Y2) (2^w)) i<=2 then some ((if i%2=1 then s1-(cdv (cdv (t2*Y2) (2^w)) i:Nat) else s1+(t1*Y1/2^w/i:Nat))-4,(if i%2=1 then s2-(t1*Y1/2^w/i:Nat) else s2+(cdv (cdv (t2*Y2) (2^w)) i:Nat))+4)
  else nRow w Y1 Y2 f (i+1) (t1*Y1/2^w/i) (cdv (cdv (t2*Y2) (2^w)) i) (if i%2=1 then s1-(cdv (cdv (t2*Y2) (2^w)) i:Nat) else s1+(t1*Y1/2^w/i:Nat)) (if i%2=1 then s2-(t1*Y1/2^w/i:Nat) else s2+(cdv (cdv (t2*Y2) (2^w)) i:Nat))
def nInv (w i t1 t2:Nat) (s1 s2:Int):Prop:=1<=i/\t1<=t2/\t2<=2^w/\s1<=s2/\(2^w:Nat)+(t2:Int)<=2*s1+4*(i:Int)/\2*s2+(t2:Int)<=3*(2^w:Nat)+4*(i:Int)
theorem nInv_0 (w:Nat):nInv w 1 (2^w) (2^w) (2^w:Nat) (2^w:Nat):=by
 refine⟨by omega,by omega,by omega,by omega,by omega,by omega⟩
theorem nStep_le {w Y2 i t2:Nat} (hY:4*Y2<=2^w) (hi:1<=i):4*cdv (cdv (t2*Y2) (2^w)) i<=t2+3:=by
 have P:0<2^w:=xK (by omega);have a:=cdv_self (cdv (t2*Y2) (2^w)) hi;have b:cdv (t2*Y2) (2^w)<=(t2+3)/4:=by
  refine cdv_le P ?_;have m:=xI t2 hY;have h:t2<=(t2+3)/4*4:=by omega
  have m2:=xC (2^w) h;have e1:t2*(4*Y2)=4*(t2*Y2):=by rw[ym]
  have e2:(t2+3)/4*4*2^w=4*((t2+3)/4*2^w):=by rw[xV _ 4,xP]
  rw[e1]at m;rw[e2]at m2;omega
 omega
theorem nInv_step {w Y1 Y2 i t1 t2:Nat} {s1 s2:Int} (hY:4*Y2<=2^w) (h12:Y1<=Y2) (h:nInv w i t1 t2 s1 s2) :
  nInv w (i+1) (t1*Y1/2^w/i) (cdv (cdv (t2*Y2) (2^w)) i) (if i%2=1 then s1-(cdv (cdv (t2*Y2) (2^w)) i:Nat) else s1+(t1*Y1/2^w/i:Nat)) (if i%2=1 then s2-(t1*Y1/2^w/i:Nat) else s2+(cdv (cdv (t2*Y2) (2^w)) i:Nat)):=by
 obtain⟨h1,h2,h3,h4,h5,h6⟩:=h;have P:0<2^w:=xK (by omega);have st:=nStep_le (t2:=t2) hY h1;have u12:t1*Y1/2^w/i<=cdv (cdv (t2*Y2) (2^w)) i:=div_le_cdv h1 (div_le_cdv P (xO h2 h12));generalize t1*Y1/2^w/i=u1 at *
 generalize cdv (cdv (t2*Y2) (2^w)) i=u2 at *
 unfold nInv;generalize 2^w=T at *
 by_cases g:i%2=1
 ·rw[if_pos g,if_pos g];refine⟨by omega,u12,by omega,by omega,by omega,by omega⟩
 ·rw[if_neg g,if_neg g];refine⟨by omega,u12,by omega,by omega,by omega,by omega⟩
theorem nRow_end {w Y1 Y2:Nat} (hY:4*Y2<=2^w) (h12:Y1<=Y2) : ∀ (m f i t1 t2:Nat) (s1 s2:Int),nInv w i t1 t2 s1 s2->t2<=4^m+1->m+2<=f -> ∃A B,nRow w Y1 Y2 f i t1 t2 s1 s2=some (A,B)/\A<=B/\(2^w:Nat)<=2*A+4*(i+m+4:Nat)/\2*B<=3*(2^w:Nat)+4*(i+m+5:Nat):=by
 intro m;induction m with
 |zero=>
  intro f i t1 t2 s1 s2 h ht hf;obtain⟨f,rfl⟩ : ∃j,f=j+1:=⟨f-1,by omega⟩
  have st:=nStep_le (t2:=t2) hY h.1;have iv:=nInv_step hY h12 h;have:4^0=1:=rfl;rw[nRow,if_pos (by omega)];obtain⟨-,-,-,q4,q5,q6⟩:=iv;refine⟨_,_,rfl,by omega,by omega,by omega⟩
 |succ m ih=>
  intro f i t1 t2 s1 s2 h ht hf;obtain⟨f,rfl⟩ : ∃j,f=j+1:=⟨f-1,by omega⟩
  have st:=nStep_le (t2:=t2) hY h.1;have iv:=nInv_step hY h12 h;have e4:4^(m+1)=4^m*4:=xU _ _;rw[nRow];by_cases g:cdv (cdv (t2*Y2) (2^w)) i<=2
  ·rw[if_pos g];obtain⟨-,-,-,q4,q5,q6⟩:=iv;refine⟨_,_,rfl,by omega,by omega,by omega⟩
  ·rw[if_neg g];obtain⟨A,B,r1,r2,r3,r4⟩:=ih f (i+1) _ _ _ _ iv (by omega) (by omega);exact⟨A,B,r1,r2,by omega,by omega⟩
theorem castZ (a b:Int):((a+b:Int):Rat)=(a:Rat)+(b:Rat):=Rat.intCast_add a b
theorem castZs (a b:Int):((a-b:Int):Rat)=(a:Rat)-(b:Rat):=Rat.intCast_sub a b
theorem castZn (n:Nat):(((n:Nat):Int):Rat)=(n:Rat):=rfl
theorem nRow_enc {w Y1 Y2:Nat} {y:Rat} (hy:Enc w Y1 Y2 y) (hy1:(y+y)+(y+y)<=1) : ∀ (f i t1 t2:Nat) (s1 s2 A B:Int),nRow w Y1 Y2 f (i+1) t1 t2 s1 s2=some (A,B)->Enc w t1 t2 (Ex.tm y i)->EncZ w s1 s2 (Ex.E (-y) (i+1)) -> ∃s,∀L,s<=L->EncZ w A B (1/Ex.E y L):=by
 have y0:=enc_nonneg hy;have P:=p2_pos w;intro f;induction f with
 |zero=>intro i t1 t2 s1 s2 A B h;cases h
 |succ f ih=>
  intro i t1 t2 s1 s2 A B h ht hs;have e1:=enc_byN (n:=1) (m:=i+1) (by omega) (enc_prodN ht hy);have e2:Ex.tm y i*y*((1:Nat):Rat)/((i+1:Nat):Rat)=Ex.tm y (i+1):=by
   have:((1:Nat):Rat)=1:=rfl;rw[this,yA];rfl
  rw[e2,yD,yD]at e1;have e3:EncZ w (if (i+1)%2=1 then s1-(cdv (cdv (t2*Y2) (2^w)) (i+1):Nat) else s1+(t1*Y1/2^w/(i+1):Nat)) (if (i+1)%2=1 then s2-(t1*Y1/2^w/(i+1):Nat) else s2+(cdv (cdv (t2*Y2) (2^w)) (i+1):Nat)) (Ex.E (-y) (i+1+1)):=by
   show EncZ w _ _ (Ex.E (-y) (i+1)+Ex.tm (-y) (i+1));rw[tm_neg];obtain⟨k1,k2⟩:=hs;obtain⟨k3,k4⟩:=e1;by_cases g:(i+1)%2=1
   ·rw[if_pos g,if_pos g,if_pos g];unfold EncZ;rw[castZs,castZs,castZn,castZn];constructor<;>grind
   ·rw[if_neg g,if_neg g,if_neg g];unfold EncZ;rw[castZ,castZ,castZn,castZn];constructor<;>grind
  rw[nRow]at h;generalize (if (i+1)%2=1 then s1-(cdv (cdv (t2*Y2) (2^w)) (i+1):Nat) else s1+(t1*Y1/2^w/(i+1):Nat))=z1 at *
  generalize (if (i+1)%2=1 then s2-(t1*Y1/2^w/(i+1):Nat) else s2+(cdv (cdv (t2*Y2) (2^w)) (i+1):Nat))=z2 at *
  by_cases g:cdv (cdv (t2*Y2) (2^w)) (i+1)<=2
  ·rw[if_pos g]at h;simp only[Option.some.injEq,Prod.mk.injEq]at h;obtain⟨rfl,rfl⟩:=h;obtain⟨e,he,hep⟩ : ∃e:Rat,0<e/\e*p2 w=1:=⟨1/p2 w,by rw[xk,xc];exact zU.2 P,xd (by grind)⟩
   obtain⟨s,hs⟩:=E_near y0 (show y+y<=1 by grind) he (i+1+1);refine⟨s,fun L hL => ?_⟩;obtain⟨n1,n2⟩:=hs L hL;have u2:((cdv (cdv (t2*Y2) (2^w)) (i+1):Nat):Rat)<=2:=Ex.castle g;have tn:=Ex.tm_nn y0 (i+1);have ts:=Ex.tm_succ y (i+1);have tn2:=Ex.tm_nn y0 (i+1+1);have half:2*Ex.tm y (i+1+1)<=Ex.tm y (i+1):=by
    have c1:((2:Nat):Rat)<=((i+1+1:Nat):Rat):=Ex.castle (by omega);have m1:=xA c1 tn2;have m2:=xA (show y<=1 by grind) tn;rw[ts,show ((2:Nat):Rat)=2 from rfl]at m1;grind
   have b:=xA half (xG P);have b2:=xE e1.2 u2;obtain⟨k1,k2⟩:=e3;have m1:=xA n1 (xG P);have m2:=xA n2 (xG P);unfold EncZ;rw[castZ,castZs,show ((4:Int):Rat)=4 from rfl];generalize 1/Ex.E y L=v at *
   generalize Ex.tm y (i+1+1)=a at *
   generalize Ex.tm y (i+1)=a' at *
   generalize Ex.E (-y) (i+1+1)=c at *
   clear e1 e2 hs ih ts tn tn2 half n1 n2 hy hy1;constructor<;>grind
  ·rw[if_neg g]at h;exact ih (i+1) _ _ _ _ A B h e1 e3
def sqn (w:Nat):Nat->Nat->Nat->Nat×Nat
 |0,a,b=>(a,b)
 |k+1,a,b=>sqn w k (a*a/2^w) (cdv (b*b) (2^w))
theorem sqn_enc {w:Nat} : ∀ (k lo hi:Nat) (q:Rat),Enc w lo hi q->Enc w (sqn w k lo hi).1 (sqn w k lo hi).2 (q^2^k)
 |0,lo,hi,q,h=>by
  rw[yr,yo,yw,xc];exact h
 |k+1,lo,hi,q,h=>by
  have ih:=sqn_enc k _ _ (q*q) (enc_prodN h h);have e:q^2^(k+1)=(q*q)^2^k:=by
   rw[xU,Nat.mul_two,Ex.pow_plus,Ex.mul_powR]
  rw[e];exact ih
theorem sqn_step {w lo hi c:Nat} (h1:lo<=hi) (h2:hi<=2^(w+c)):lo*lo/2^w<=cdv (hi*hi) (2^w)/\cdv (hi*hi) (2^w)<=2^(w+(c+c)):=
 ⟨div_le_cdv (xK (by omega)) (xO h1 h1),by have:=prod_le (w:=w) h2 h2;rw[show w+c+c=w+(c+c) by omega]at this;exact this⟩
theorem inv_pow {q:Rat} (h:q≠0) : ∀n:Nat,(1/q)^n=1/q^n
 |0=>by rw[yw,yw];decide +kernel
 |n+1=>by
  rw[yo,yo,inv_pow h n,xk,xk,xk,Rat.inv_mul_rev];grind
theorem inv_far {y x:Rat} {w j s1 A B:Nat} (hj:0<j) (h0:0<=y) (hx:(j:Rat)*y=x) (h : ∀L,s1<=L->Enc w A B ((1/Ex.E y L)^j)) : ∃s,∀L,s<=L->Enc w A B (1/Ex.E x L):=by
 refine⟨j*(s1+1)+1,fun L hL => ?_⟩;have k1:s1+1<=j*(s1+1):=zI _ hj;have PR:=p2_pos w;have u1:=Ex.E_pow_le h0 (s1+1) j;have u2:=Ex.E_pow_ge h0 (show 0<L by omega) j;rw[hx]at u1 u2;have x0:0<=x:=by rw[<- hx];exact xF (Ex.nat_nn j) h0
 have m:=Ex.E_mono x0 hL;have a1:=(h (s1+1) (by omega)).2;have a2:=(h L (by omega)).1;have o1:=E_one h0 (show 1<=s1+1 by omega);have o2:=E_one h0 (show 1<=L by omega);have o3:=E_one x0 (show 1<=L by omega);rw[inv_pow (by grind)]at a1 a2;have anti : ∀p q:Rat,0<p->p<=q->1/q<=1/p:=by
  intro p q hp hpq;have i1:p*(1/p)=1:=Ex.mul_div _ 1 (by grind);have i2:q*(1/q)=1:=Ex.mul_div _ 1 (by grind);have n1:0<=1/p:=Ex.div_nn (by decide) hp;have n2:0<=1/q:=Ex.div_nn (by decide) (by grind);have m1:=xA hpq (xF n1 n2);have e1:p*(1/p*(1/q))=1/q:=by rw[<- zG,i1,xc]
  have e2:q*(1/p*(1/q))=1/p:=by rw[ya (1/p),<- zG,i2,xc]
  rw[e1,e2]at m1;exact m1
 have pw:(1:Rat)<=Ex.E y (s1+1)^j:=by
  have:=pow_mono (a:=1) (by decide) o1 j;have e : ∀n:Nat,(1:Rat)^n=1:=by
   intro n;induction n with
   |zero=>rfl
   |succ n ih=>rw[yo,ih,xc]
  rw[e]at this;exact this
 refine⟨xE a2 (xA (anti _ _ (by grind) u2) (xG PR)),xE (xA (anti _ _ (by grind) (xE u1 m)) (xG PR)) a1⟩
end Go.Proofs.YtfknkoeagjonbaaGreat
namespace Go.Proofs.YtfknkoeagjonbaaGreat
open Go.Ev
def tk (y:Rat) (k0:Nat):Nat->Rat
 |0=>1
 |j+1=>tk y k0 j*y*((1:Nat):Rat)/((k0+2*j:Nat):Rat)
def sk (y:Rat) (k0:Nat):Nat->Rat
 |0=>0
 |j+1=>sk y k0 j+tk y k0 j
section
variable {y:Rat} {k0:Nat}
theorem tk_step (hk:1<=k0) (j:Nat):((k0+2*j:Nat):Rat)*tk y k0 (j+1)=tk y k0 j*y:=by
 have c:(0:Rat)<((k0+2*j:Nat):Rat):=Ex.castlt (a:=0) (by omega);show _*(tk y k0 j*y*((1:Nat):Rat)/_)=_;rw[Ex.mul_div _ _ (by grind),show ((1:Nat):Rat)=1 from rfl,yA]
theorem tk_nn (hk:1<=k0) (h:0<=y) : ∀j,0<=tk y k0 j
 |0=>by show (0:Rat)<=1;decide
 |j+1=>by
  have ih:=tk_nn hk h j;exact Ex.div_nn (xF (xF ih h) (Ex.nat_nn 1)) (Ex.castlt (a:=0) (by omega))
theorem sk_nn (hk:1<=k0) (h:0<=y) : ∀j,0<=sk y k0 j
 |0=>xN
 |j+1=>by
  have a:=sk_nn hk h j;have b:=tk_nn hk h j;show 0<=sk y k0 j+tk y k0 j;grind
theorem tk_half (hk:1<=k0) (h:0<=y) {j:Nat} (g:y+y<=((k0+2*j:Nat):Rat)):tk y k0 (j+1)+tk y k0 (j+1)<=tk y k0 j:=by
 have c:(0:Rat)<((k0+2*j:Nat):Rat):=Ex.castlt (a:=0) (by omega);have e:=tk_step (y:=y) hk j;have n:=tk_nn hk h j;refine le_by c ?_;have m:=xB g n;have e2:(tk y k0 (j+1)+tk y k0 (j+1))*((k0+2*j:Nat):Rat)=((k0+2*j:Nat):Rat)*tk y k0 (j+1)+((k0+2*j:Nat):Rat)*tk y k0 (j+1):=by grind
 rw[e2,e];grind
theorem sk_rest (hk:1<=k0) (h:0<=y) {i:Nat} (g:y+y<=((k0+2*i:Nat):Rat)) : ∀m,sk y k0 (i+1+m)+tk y k0 (i+m)<=sk y k0 (i+1)+tk y k0 i
 |0=>xN
 |m+1=>by
  have ih:=sk_rest hk h g m;have hf:=tk_half (j:=i+m) hk h (xE g (Ex.castle (by omega)));show sk y k0 (i+1+m)+tk y k0 (i+1+m)+tk y k0 (i+(m+1))<=_;rw[show i+1+m=i+m+1 by omega]at *
  rw[show i+(m+1)=i+m+1 by omega];grind
theorem sk_up (hk:1<=k0) (h:0<=y) {i L:Nat} (g:i<=L):sk y k0 i<=sk y k0 L:=by
 obtain⟨m,rfl⟩:=wG g;clear g;induction m with
 |zero=>exact xN
 |succ m ih=>
  have:=tk_nn hk h (i+m);show _<=sk y k0 (i+m)+tk y k0 (i+m);grind
theorem sk_top (hk:1<=k0) (h:0<=y) {i L:Nat} (g:y+y<=((k0+2*i:Nat):Rat)):sk y k0 L<=sk y k0 (i+1)+tk y k0 i:=by
 have n:=tk_nn hk h i;rcases Nat.le_total L (i+1) with e|e
 ·have:=sk_up hk h e;grind
 ·obtain⟨m,rfl⟩:=wG e;have:=sk_rest hk h g m;have:=tk_nn hk h (i+m);grind
theorem tk_big (hk:1<=k0) (h:0<=y) {c:Nat} (hc:(c:Rat)<=y) (hc2:y<((c+1:Nat):Rat)) : ∀j,((k0+2*j:Nat):Rat)<y+y->1<=tk y k0 j*p2 ((k0+2*j+1-c)/2)
 |0,g=>by
  show 1<=1*p2 _;rw[xc];have:1<=2^((k0+2*0+1-c)/2):=xK (by omega);exact Ex.castle this
 |j+1,g=>by
  have g0:((k0+2*j:Nat):Rat)<y+y:=by
   have:((k0+2*j:Nat):Rat)<=((k0+2*(j+1):Nat):Rat):=Ex.castle (by omega);grind
  have ih:=tk_big hk h hc hc2 j g0;have K:(0:Rat)<((k0+2*j:Nat):Rat):=Ex.castlt (a:=0) (by omega);have e:=tk_step (y:=y) hk j;have n:=tk_nn hk h j;have n1:=tk_nn hk h (j+1);by_cases b:k0+2*j<=c
  ·have b':((k0+2*j:Nat):Rat)<=y:=xE (Ex.castle b) hc;have up:tk y k0 j<=tk y k0 (j+1):=by
    refine le_by K ?_;rw[ya (tk y k0 (j+1)),e];exact xB b' n
   have p:p2 ((k0+2*j+1-c)/2)<=p2 ((k0+2*(j+1)+1-c)/2):=Ex.castle (xD (by omega) (by omega));exact xE ih (mul_le up p n1 (xG (p2_pos _)))
  ·have up:tk y k0 j<=2*tk y k0 (j+1):=by
    refine le_by K ?_;have e2:2*tk y k0 (j+1)*((k0+2*j:Nat):Rat)=2*(tk y k0 j*y):=by rw[<- e];grind
    rw[e2];have:=xB (xG g0) n;grind
   have p:p2 ((k0+2*(j+1)+1-c)/2)=2*p2 ((k0+2*j+1-c)/2):=by
    rw[show (k0+2*(j+1)+1-c)/2=(k0+2*j+1-c)/2+1 by omega];show ((2^(_+1):Nat):Rat)=_;rw[xU,Ex.castmul,ya];rfl
   rw[p];have m:=xA up (xG (p2_pos ((k0+2*j+1-c)/2)));grind
end
theorem le_128 {x:Rat} (h:x<=64):x*2<=128:=by grind
theorem tk_late {y:Rat} {k0 w j:Nat} (hk:1<=k0) (hk2:k0<=300) (h:0<=y) (h128:y<=128) (hw:80<=w) (g:tk y k0 j*p2 w<4):y+y<=((k0+2*j:Nat):Rat):=by
 refine yZ.1 fun b => ?_
 obtain⟨c,hc,hc2⟩ : ∃c:Nat,(c:Rat)<=y/\y<((c+1:Nat):Rat):=by
  refine⟨y.floor.toNat,?_,?_⟩
  ·have f0:0<=y.floor:=Rat.le_floor_iff.2 h;have:((y.floor.toNat:Nat):Rat)=((y.floor:Int):Rat):=by
    rw[<- castZn,Int.toNat_of_nonneg f0]
   rw[this];exact Rat.floor_le y
  ·have f0:0<=y.floor:=Rat.le_floor_iff.2 h;have:((y.floor.toNat+1:Nat):Rat)=((y.floor:Int):Rat)+1:=by
    rw[Ex.castadd,<- castZn,Int.toNat_of_nonneg f0];rfl
   rw[this,show ((y.floor:Int):Rat)+1=((y.floor+1:Int):Rat) by rw[castZ];rfl];exact Rat.lt_floor_add_one y
 have big:=tk_big hk h hc hc2 j b;have kc:k0+2*j<2*(c+1):=by
  have:((k0+2*j:Nat):Rat)<((2*(c+1):Nat):Rat):=by
   rw[Ex.castmul,show ((2:Nat):Rat)=2 from rfl];grind
  exact_mod_cast this
 have c128:c<=128:=by
  have:(c:Rat)<=((128:Nat):Rat):=xE hc h128;exact_mod_cast this
 have n:=tk_nn hk h j;have e:p2 w=4*(p2 (w-2-(k0+2*j+1-c)/2)*p2 ((k0+2*j+1-c)/2)):=by
  rw[<- p2_plus];have:2^w=4*2^(w-2-(k0+2*j+1-c)/2+(k0+2*j+1-c)/2):=by
   rw[show (4:Nat)=2^2 from rfl,<- xM];congr 1;omega
  show ((2^w:Nat):Rat)=4*((2^(_+_):Nat):Rat)
  rw[this,Ex.castmul];rfl
 have one:(1:Rat)<=p2 (w-2-(k0+2*j+1-c)/2):=Ex.castle (show 1<=2^_ from xK (by omega));have m:=mul_le one big (xG (p2_pos _)) (by decide);rw[e]at g;grind
theorem tRow_enc {w Y1 Y2 M k0:Nat} {y c:Rat} (hk0:1<=k0) (hy:Enc w Y1 Y2 y) (hc:0<=c) (late : ∀i,M<=k0+2*i->c*tk y k0 i*p2 w<4->y+y<=((k0+2*i:Nat):Rat)) :
  ∀ (f i t1 t2 a1 a2 A B:Nat),tRow w Y1 Y2 M f (k0+2*i) t1 t2 a1 a2=some (A,B)->Enc w t1 t2 (c*tk y k0 i)->Enc w a1 a2 (c*sk y k0 (i+1)) -> ∃s,∀L,s<=L->Enc w A B (c*sk y k0 L):=by
 have y0:=enc_nonneg hy;have P:=p2_pos w;intro f;induction f with
 |zero=>intro i t1 t2 a1 a2 A B h;cases h
 |succ f ih=>
  intro i t1 t2 a1 a2 A B h ht ha;rw[tRow]at h;by_cases g:M<=k0+2*i/\t2<4
  ·rw[if_pos g]at h;simp only[Option.some.injEq,Prod.mk.injEq]at h;obtain⟨rfl,rfl⟩:=h;have t3:(t2:Rat)<=3:=Ex.castle (b:=3) (by omega);have lt:=late i g.1 (by have:=ht.2;grind);refine⟨i+1,fun L hL => ?_⟩;have up:=sk_up hk0 y0 hL;have top:=sk_top (L:=L) hk0 y0 lt;have m1:=xA (xB up hc) (xG P);have m2:=xA (xB top hc) (xG P);refine⟨xE ha.1 m1,xE m2 ?_⟩;rw[Ex.castadd,show ((8:Nat):Rat)=8 from rfl,Rat.mul_add,wj];have a:=ha.2;have b:=ht.2;generalize c*sk y k0 (i+1)*p2 w=u at *
   generalize c*tk y k0 i*p2 w=v at *
   clear late ih m1 m2 up top lt;grind
  ·rw[if_neg g]at h;have e1:=enc_times (n:=1) (d:=k0+2*i) (by omega) (enc_mul ht hy);have e2:c*tk y k0 i*y*((1:Nat):Rat)/((k0+2*i:Nat):Rat)=c*tk y k0 (i+1):=by
    show _=c*(tk y k0 i*y*((1:Nat):Rat)/((k0+2*i:Nat):Rat))
    rw[xk,xk];grind
   rw[e2]at e1;have e3:=enc_add ha e1;rw[<- Rat.mul_add]at e3;exact ih (i+1) _ _ _ _ A B h e1 e3
def wRow (W D:Nat):Nat->Nat->Nat->Nat->Nat->Nat->Nat×Nat
 |0,_,_,_,s,e=>(s,e)
 |f+1,k,t,d,s,e=>pin (k+2) fun k'=>pin (t*W/k+2) fun t'=>pin ((d*W+t*D)/k+8) fun d'=>pin (s+t') fun s'=>pin (e+d') fun e'=>wRow W D f k' t' d' s' e'
theorem wRow_succ (W D f k t d s e:Nat):wRow W D (f+1) k t d s e=wRow W D f (k+2) (t*W/k+2) ((d*W+t*D)/k+8) (s+(t*W/k+2)) (e+((d*W+t*D)/k+8)):=by
 rw[wRow,pin_eq,pin_eq,pin_eq,pin_eq,pin_eq]
theorem wRow_up (W D:Nat) : ∀ (f k t d s e:Nat),s<=(wRow W D f k t d s e).1/\e<=(wRow W D f k t d s e).2
 |0,_,_,_,s,e=>⟨xQ _,xQ _⟩
 |f+1,k,t,d,s,e=>by
  have h:=wRow_up W D f (k+2) (t*W/k+2) ((d*W+t*D)/k+8) (s+(t*W/k+2)) (e+((d*W+t*D)/k+8));rw[wRow_succ];exact⟨xH (wI _ _) h.1,xH (wI _ _) h.2⟩
theorem wRow_step {w Y1 Y2 W D k t1 t2 t d:Nat} (hk:1<=k) (hY:Y2<=W*2^w) (hY1:Y1<=Y2) (hD:Y2<=Y1+D) (h12:t1<=t2) (ht:t2<=t*2^w) (hd:t2<=t1+d) :
  (t2*Y2/2^w+1)*1/k+1<=(t*W/k+2)*2^w/\(t2*Y2/2^w+1)*1/k+1<=t1*Y1/2^w*1/k+((d*W+t*D)/k+8):=by
 have P:0<2^w:=xK (by omega);rw[yD,yD];have a:t2*Y2/2^w<=t2*W:=by
  refine(yL P).2 ?_;have m:=xI t2 hY;rw[<- xP]at m;omega
 have gap:t2*Y2/2^w<=t1*Y1/2^w+(d*W+t*D)+1:=by
  have h1:t2*Y2<=t1*Y1+(d*W+t*D)*2^w:=by
   have m1:t2*Y2<=(t1+d)*Y2:=xC _ hd;have m2:t1*Y2<=t1*(Y1+D):=xI _ hD;have m3:d*Y2<=d*(W*2^w):=xI _ hY;have m4:t1*D<=t*2^w*D:=xC _ (xH h12 ht);have e1:(d*W+t*D)*2^w=d*(W*2^w)+t*2^w*D:=by rw[xZ];rw[xP d,wl t D]
   rw[xZ]at m1;rw[xY]at m2;omega
  have h2:=xf (c:=2^w) h1;rw[Nat.add_mul_div_right _ _ P]at h2;omega
 constructor
 ·have b:(t2*Y2/2^w+1)/k<=t*W/k*2^w+2^w:=by
   refine(yL hk).2 ?_;have m:=xC W ht;have q:=wh (t*W) hk;have m2:=xC (2^w) (show t*W+1<=k*(t*W/k+1) by omega);have e1:t*2^w*W=t*W*2^w:=by rw[xP,xV (2^w),<- xP]
   have e2:(t*W/k*2^w+2^w)*k=k*(t*W/k+1)*2^w:=by
    generalize t*W/k=z;generalize 2^w=p;grind
   rw[xZ,xe]at m2;omega
  have e:(t*W/k+2)*2^w=t*W/k*2^w+2^w+2^w:=by rw[xZ];omega
  omega
 ·generalize t2*Y2/2^w=q2 at *
  generalize t1*Y1/2^w=q1 at *
  generalize d*W+t*D=g at *
  have h3:(q2+1)/k<=(q1+g+2)/k:=xf (by omega);have h4:(q1+g+2)/k<=q1/k+g/k+4:=by
   refine(yL hk).2 ?_;have a1:=wh q1 hk;have a2:=wh g hk;have e:(q1/k+g/k+4)*k=k*(q1/k+1)+k*(g/k+1)+2*k:=by
    generalize q1/k=z1;generalize g/k=z2;grind
   omega
  omega
theorem tRow_wide {w Y1 Y2 M W D:Nat} (hY:Y2<=W*2^w) (hY1:Y1<=Y2) (hD:Y2<=Y1+D) : ∀ (f F k t1 t2 a1 a2 t d s e A B:Nat),f<=F->1<=k->tRow w Y1 Y2 M f k t1 t2 a1 a2=some (A,B)->t1<=t2->t2<=t*2^w->t2<=t1+d->a2<=s*2^w->a2<=a1+e->a1<=a2 ->
  A<=B/\B<=(wRow W D F k t d s e).1*2^w+8/\B<=A+(wRow W D F k t d s e).2+8:=by
 intro f;induction f with
 |zero=>intro F k t1 t2 a1 a2 t d s e A B _ _ h;cases h
 |succ f ih=>
  intro F k t1 t2 a1 a2 t d s e A B hF hk h h12 ht hd hs he ha;obtain⟨F,rfl⟩ : ∃G,F=G+1:=⟨F-1,by omega⟩
  rw[tRow]at h;by_cases g:M<=k/\t2<4
  ·rw[if_pos g]at h;simp only[Option.some.injEq,Prod.mk.injEq]at h;obtain⟨rfl,rfl⟩:=h;obtain⟨u1,u2⟩:=wRow_up W D (F+1) k t d s e;have m:=xC (2^w) u1;exact⟨by omega,by omega,by omega⟩
  ·rw[if_neg g]at h;obtain⟨s1,s2⟩:=wRow_step hk hY hY1 hD h12 ht hd;have q0:t1*Y1/2^w*1/k<=(t2*Y2/2^w+1)*1/k+1:=by
    refine yP (xf (xC 1 ?_));exact yP (xf (xO h12 hY1))
   rw[wRow_succ];have ih':=fun t1 t2 a1 a2 t d s e=>ih F (k+2) t1 t2 a1 a2 t d s e A B (by omega) (by omega)
   clear ih hY hY1 hD ht hd;generalize t1*Y1/2^w*1/k=u1 at *
   generalize (t2*Y2/2^w+1)*1/k+1=u2 at *
   generalize t*W/k+2=t' at *
   generalize (d*W+t*D)/k+8=d' at *
   refine ih' _ _ _ _ t' d' (s+t') (e+d') h q0 s1 s2 ?_ (by omega) (by omega);rw[xZ];omega
end Go.Proofs.YtfknkoeagjonbaaGreat
namespace Go.Proofs.YtfknkoeagjonbaaGreat
open Go.Ev
def pRow (w Y1 Y2:Nat):Nat->Nat->Nat->Nat->Nat×Nat
 |0,_,a,b=>(a,b)
 |f+1,k,a,b=>pRow w Y1 Y2 f (k+2) (a*Y1/2^w*1/k) ((b*Y2/2^w+1)*1/k+1)
def wPow (W D:Nat):Nat->Nat->Nat->Nat->Nat×Nat
 |0,_,t,d=>(t,d)
 |f+1,k,t,d=>pin (k+2) fun k'=>pin (t*W/k+2) fun t'=>pin ((d*W+t*D)/k+8) fun d'=>wPow W D f k' t' d'
theorem wPow_succ (W D f k t d:Nat):wPow W D (f+1) k t d=wPow W D f (k+2) (t*W/k+2) ((d*W+t*D)/k+8):=by
 rw[wPow,pin_eq,pin_eq,pin_eq]
theorem tk_next {c y:Rat} {k0 i:Nat}:c*tk y k0 i*y*((1:Nat):Rat)/((k0+2*i:Nat):Rat)=c*tk y k0 (i+1):=by
 show _=c*(tk y k0 i*y*((1:Nat):Rat)/((k0+2*i:Nat):Rat))
 rw[xk,xk];grind
theorem pRow_enc {w Y1 Y2 k0:Nat} {y c:Rat} (hk0:1<=k0) (hy:Enc w Y1 Y2 y) : ∀ (f i a b:Nat),Enc w a b (c*tk y k0 i)->Enc w (pRow w Y1 Y2 f (k0+2*i) a b).1 (pRow w Y1 Y2 f (k0+2*i) a b).2 (c*tk y k0 (i+f))
 |0,i,a,b,h=>h
 |f+1,i,a,b,h=>by
  have e1:=enc_times (n:=1) (d:=k0+2*i) (by omega) (enc_mul h hy);rw[tk_next]at e1;have ih:=pRow_enc hk0 hy f (i+1) _ _ e1;rw[show i+1+f=i+(f+1) by omega]at ih;exact ih
theorem pRow_wide {w Y1 Y2 W D:Nat} (hY:Y2<=W*2^w) (hY1:Y1<=Y2) (hD:Y2<=Y1+D) : ∀ (f k a b t d:Nat),1<=k->a<=b->b<=t*2^w->b<=a+d ->
  (pRow w Y1 Y2 f k a b).1<=(pRow w Y1 Y2 f k a b).2/\(pRow w Y1 Y2 f k a b).2<=(wPow W D f k t d).1*2^w/\(pRow w Y1 Y2 f k a b).2<=(pRow w Y1 Y2 f k a b).1+(wPow W D f k t d).2
 |0,k,a,b,t,d,_,h1,h2,h3=>⟨h1,h2,h3⟩
 |f+1,k,a,b,t,d,hk,h1,h2,h3=>by
  obtain⟨s1,s2⟩:=wRow_step hk hY hY1 hD h1 h2 h3;have q0:a*Y1/2^w*1/k<=(b*Y2/2^w+1)*1/k+1:=by
   refine yP (xf (xC 1 ?_));exact yP (xf (xO h1 hY1))
  rw[wPow_succ];exact pRow_wide hY hY1 hD f (k+2) _ _ _ _ (by omega) q0 s1 s2
theorem mulS {w a b c d α β γ δ:Nat} (h1:a<=b) (h2:c<=d) (h3:b<=α*2^w) (h4:d<=β*2^w) (h5:b<=a+γ) (h6:d<=c+δ) :
  a*c/2^w<=b*d/2^w+1/\b*d/2^w+1<=(α*β+1)*2^w/\b*d/2^w+1<=a*c/2^w+(γ*β+α*δ+2):=by
 have P:0<2^w:=xK (by omega);refine⟨yP (xf (xO h1 h2)),?_,?_⟩
 ·have m:=xO h3 h4;have q:b*d/2^w<=α*β*2^w:=by
   refine(yL P).2 ?_;have e:α*2^w*(β*2^w)=α*β*2^w*2^w:=by generalize 2^w=z;grind
   omega
  rw[xZ];omega
 ·have m1:b*d<=(a+γ)*d:=xC _ h5;have m2:a*d<=a*(c+δ):=xI _ h6;have m3:γ*d<=γ*(β*2^w):=xI _ h4;have m4:a*δ<=α*2^w*δ:=xC _ (xH h1 h3);have e1:(γ*β+α*δ)*2^w=γ*(β*2^w)+α*2^w*δ:=by rw[xZ,xP γ,wl α δ]
  rw[xZ]at m1;rw[xY]at m2;have h:=xf (c:=2^w) (show b*d<=a*c+(γ*β+α*δ)*2^w by omega);rw[Nat.add_mul_div_right _ _ P]at h;omega
theorem told_in {A B w q:Nat} {V:Rat} (hq:q<=w) (h:Enc w A B V):mkRat ((A/2^(w-q):Nat):Int) (2^q)<=V/\V<=mkRat ((B/2^(w-q)+1:Nat):Int) (2^q):=by
 have P:=p2_pos q;have R:=p2_pos (w-q);have a:=mk_p2 (A/2^(w-q)) q;have b:=mk_p2 (B/2^(w-q)+1) q;have f:=floor_le (a:=A) (d:=2^(w-q));have g:=le_floor (a:=B) (d:=2^(w-q)) (xK (by omega));have e:p2 w=p2 q*p2 (w-q):=by rw[<- p2_plus];congr 1;omega
 obtain⟨h1,h2⟩:=h;rw[e,<- zG]at h1 h2;refine⟨le_by P (le_by R ?_),le_by P (le_by R ?_)⟩
 ·rw[a];exact xE f h1
 ·rw[b];exact xE h2 g
theorem told_thin {A B w p:Nat} (hq:p+2<=w) (h:B<=A+2^(w-(p+2))):(mkRat ((B/2^(w-(p+2))+1:Nat):Int) (2^(p+2))-mkRat ((A/2^(w-(p+2)):Nat):Int) (2^(p+2)))*p2 p<=1:=by
 have a:=mk_p2 (A/2^(w-(p+2))) (p+2);have b:=mk_p2 (B/2^(w-(p+2))+1) (p+2);have P:0<2^(w-(p+2)):=xK (by omega);have d:=xf (c:=2^(w-(p+2))) h;rw[Nat.add_div_right _ P]at d;have d2:B/2^(w-(p+2))+1<=A/2^(w-(p+2))+4:=by omega
 have d3:((B/2^(w-(p+2))+1:Nat):Rat)<=((A/2^(w-(p+2)):Nat):Rat)+4:=by
  have:=Ex.castle d2;rw[Ex.castadd (A/2^(w-(p+2))) 4]at this;exact this
 rw[<- a,<- b]at d3;have e:p2 (p+2)=p2 p*4:=by rw[p2_plus];rfl
 rw[e]at d3;generalize mkRat ((B/2^(w-(p+2))+1:Nat):Int) (2^(p+2))=x at *
 generalize mkRat ((A/2^(w-(p+2)):Nat):Int) (2^(p+2))=y at *
 grind
def wSt (W D:Nat):Nat->Nat->Nat->Nat->Nat->Nat->Nat×Nat×Nat×Nat
 |0,_,t,d,s,e=>(t,d,s,e)
 |f+1,k,t,d,s,e=>pin (k+2) fun k'=>pin (t*W/k+2) fun t'=>pin ((d*W+t*D)/k+8) fun d'=>pin (s+t') fun s'=>pin (e+d') fun e'=>wSt W D f k' t' d' s' e'
theorem wSt_succ (W D f k t d s e:Nat):wSt W D (f+1) k t d s e=wSt W D f (k+2) (t*W/k+2) ((d*W+t*D)/k+8) (s+(t*W/k+2)) (e+((d*W+t*D)/k+8)):=by
 rw[wSt,pin_eq,pin_eq,pin_eq,pin_eq,pin_eq]
theorem wRow_late : ∀ (f k t d s e:Nat),600<=k->t<=4->d<=20->(wRow 129 41 f k t d s e).1<=s+4*f/\(wRow 129 41 f k t d s e).2<=e+20*f
 |0,k,t,d,s,e,_,_,_=>⟨xQ _,xQ _⟩
 |f+1,k,t,d,s,e,h1,h2,h3=>by
  have a:t*129/k<=0:=Nat.le_of_lt_succ ((yC (by omega)).2 (by omega));have b:(d*129+t*41)/k<=4:=Nat.le_of_lt_succ ((yC (by omega)).2 (by omega));have ih:=wRow_late f (k+2) (t*129/k+2) ((d*129+t*41)/k+8) (s+(t*129/k+2)) (e+((d*129+t*41)/k+8)) (by omega) (by omega) (by omega);rw[wRow_succ];exact⟨xH ih.1 (by omega),xH ih.2 (by omega)⟩
theorem wRow_st : ∀ (m f k t d s e:Nat) {t' d' s' e':Nat},wSt 129 41 m k t d s e=(t',d',s',e')->t'<=4->d'<=20->600<=k+2*m->(wRow 129 41 (m+f) k t d s e).1<=s'+4*f/\(wRow 129 41 (m+f) k t d s e).2<=e'+20*f
 |0,f,k,t,d,s,e,t',d',s',e',h,h1,h2,h3=>by
  have h':(t,d,s,e)=(t',d',s',e'):=h;simp only[Prod.mk.injEq]at h';obtain⟨rfl,rfl,rfl,rfl⟩:=h';rw[yV];exact wRow_late f k t d s e (by omega) h1 h2
 |m+1,f,k,t,d,s,e,t',d',s',e',h,h1,h2,h3=>by
  rw[wSt_succ]at h;rw[show m+1+f=m+f+1 by omega,wRow_succ];exact wRow_st m f (k+2) _ _ _ _ h h1 h2 (by omega)
def igR (n:Nat):Nat×Nat:=match wSt 129 41 300 (n+2) 2 1 2 1 with
 |(_,_,s,e)=>(s+20000,e+100000)
def igP (n:Nat):Nat×Nat:=if n%2=1 then wPow 129 41 (n/2) 3 50 400 else wPow 129 41 (n/2) 2 2 1
def igOk (n:Nat):Bool:=match wSt 129 41 300 (n+2) 2 1 2 1,igP n with
 |(t',d',s,e),(t,d)=>Nat.ble t' 4&&Nat.ble d' 20&&pin (t*(s+20001)+1) fun u=>pin (d*(s+20001)+t*(e+100008)+2) fun v=>Nat.ble (v*2+u*2+2) (2^120)
theorem ig_ok:allFrom igOk 30 1=true:=by kernel_rfl
theorem ig_at {n:Nat} (h1:1<=n) (h2:n<=30):((igP n).2*((igR n).1+1)+(igP n).1*((igR n).2+8)+2)*2+((igP n).1*((igR n).1+1)+1)*2+2<=2^120 /\
  (wRow 129 41 5200 (n+2) 2 1 2 1).1<=(igR n).1/\(wRow 129 41 5200 (n+2) 2 1 2 1).2<=(igR n).2:=by
 have h:=allFrom_at ig_ok n h1 (by omega);unfold igOk at h;unfold igR;have st:=fun t' d' s' e'=>wRow_st 300 4900 (n+2) 2 1 2 1 (t':=t') (d':=d') (s':=s') (e':=e')
 rw[show 300+4900=5200 from rfl]at st;generalize wRow 129 41 5200 (n+2) 2 1 2 1=R at *
 generalize wSt 129 41 300 (n+2) 2 1 2 1=r at *
 generalize igP n=q at *
 obtain⟨t',d',s,e⟩:=r;obtain⟨t,d⟩:=q;generalize 2^120=K1 at *
 simp only[pin_eq,xh]at h;obtain⟨⟨g1,g2⟩,g3⟩:=h;obtain⟨a,b⟩:=st t' d' s e rfl (xj g1) (xj g2) (by omega);exact⟨xj g3,xH a (show s+4*4900<=s+20000 by omega),xH b (show e+20*4900<=e+100000 by omega)⟩
end Go.Proofs.YtfknkoeagjonbaaGreat
namespace Go.Ev
def ivOkB (w:Nat):Bool:=match piIv w with
 |some (lo,hi)=>Nat.ble (lo*2^(800-w)) (rootPi*rootPi)&&(Nat.ble (rootPi*rootPi) (hi*2^(800-w))&&(Nat.ble (2^w) lo&&Nat.ble hi (2^(w+3))))
 |none=>false
theorem iv_okB:allFrom ivOkB 351 50=true:=by kernel_rfl
end Go.Ev
namespace Go.Proofs.YtfknkoeagjonbaaGreat
open Go.Ev
def dRow (w Y1 Y2:Nat) (y:Rat):Nat->Nat->Nat->Nat->Nat->Nat->Option (Nat×Nat)
 |0,_,_,_,_,_=>none
 |f+1,k,t1,t2,s1,s2=>if cdv (cdv (t2*Y2) (2^w)) k<=2/\y+y<=((k+2:Nat):Rat) then some (s1+t1*Y1/2^w/k-8,s2+cdv (cdv (t2*Y2) (2^w)) k+8) else
   dRow w Y1 Y2 y f (k+2) (t1*Y1/2^w/k) (cdv (cdv (t2*Y2) (2^w)) k) (s1+t1*Y1/2^w/k) (s2+cdv (cdv (t2*Y2) (2^w)) k)
def dInv (w k0 i k t1 t2 s1 s2:Nat):Prop:=k=k0+2*i/\t1<=t2/\t2<=2^(w+7*min i 128)/\2^w<=s1/\s1<=s2/\s2<=(i+1)*2^(w+896)
theorem dInv_0 (w k0:Nat):dInv w k0 0 k0 (2^w) (2^w) (2^w) (2^w):=by
 have:2^w<=2^(w+896):=xD (by omega) (by omega);exact⟨by omega,by omega,by rw[Nat.zero_min,yX,yE];omega,by omega,by omega,by omega⟩
theorem dStep_le {w Y2 k t2:Nat} (hY:Y2<=2^w*128) (hk:1<=k):cdv (cdv (t2*Y2) (2^w)) k<=t2*128/\(256<=k->2*cdv (cdv (t2*Y2) (2^w)) k<=t2+1):=by
 have P:0<2^w:=xK (by omega);have a:cdv (t2*Y2) (2^w)<=t2*128:=cdv_le P (by
  have m:=xI t2 hY;rw[xV (2^w),<- xP]at m;exact m)
 refine⟨xH (cdv_self _ hk) a,fun g => ?_⟩;have b:cdv (cdv (t2*Y2) (2^w)) k<=(t2+1)/2:=cdv_le hk (by
  have h:t2<=(t2+1)/2*2:=by omega
  have m:=xI ((t2+1)/2) g;omega)
 omega
theorem dInv_step {w Y1 Y2 k0 i k t1 t2 s1 s2:Nat} (hY:Y2<=2^w*128) (h12:Y1<=Y2) (hk0:1<=k0) (h:dInv w k0 i k t1 t2 s1 s2) :
  dInv w k0 (i+1) (k+2) (t1*Y1/2^w/k) (cdv (cdv (t2*Y2) (2^w)) k) (s1+t1*Y1/2^w/k) (s2+cdv (cdv (t2*Y2) (2^w)) k):=by
 obtain⟨h1,h2,h3,h4,h5,h6⟩:=h;have P:0<2^w:=xK (by omega);have hk:0<k:=by omega
 obtain⟨u1,u2⟩:=dStep_le (t2:=t2) hY hk;have u12:t1*Y1/2^w/k<=cdv (cdv (t2*Y2) (2^w)) k:=div_le_cdv hk (div_le_cdv P (xO h2 h12));generalize t1*Y1/2^w/k=x at *
 generalize cdv (cdv (t2*Y2) (2^w)) k=z at *
 have nt:z<=2^(w+7*min (i+1) 128):=by
  by_cases hi:i<128
  ·rw[show min (i+1) 128=min i 128+1 by omega,show w+7*(min i 128+1)=(w+7*min i 128)+7 by omega,xM _ _ 7,show (2:Nat)^7=128 from rfl];omega
  ·rw[show min (i+1) 128=min i 128 by omega];have:2^0<=2^(w+7*min i 128):=xD (by omega) (by omega);have:=u2 (by omega);omega
 have up:2^(w+7*min (i+1) 128)<=2^(w+896):=xD (by omega) (by omega);refine⟨by omega,u12,nt,by omega,by omega,?_⟩;rw[xZ (i+1) 1,xe];omega
theorem two_le {y c:Rat} (h:y<=128) (g:256<=c):y+y<=c:=by grind
theorem dbl_two (x:Rat):x*2=x+x:=by grind
theorem dbl_four (x:Rat):x*4=x*2+x*2:=by grind
theorem dRow_low {w Y1 Y2 k0:Nat} {y:Rat} (hY:Y2<=2^w*128) (h12:Y1<=Y2) (hk0:1<=k0) (hy:y<=128) (hw:8<=2^w) : ∀ (m f i k t1 t2 s1 s2:Nat),dInv w k0 i k t1 t2 s1 s2->256<=k->t2<=2^m+1->m+1<=f -> ∃A B,dRow w Y1 Y2 y f k t1 t2 s1 s2=some (A,B)/\A<=B/\B<=(i+m+3)*2^(w+896):=by
 have fin : ∀i k t1 t2 s1 s2:Nat,dInv w k0 i k t1 t2 s1 s2->s1-8<=s2+8/\s2+8<=(i+2)*2^(w+896):=by
  intro i k t1 t2 s1 s2 h;obtain⟨h1,h2,h3,h4,h5,h6⟩:=h;have:2^w<=2^(w+896):=xD (by omega) (by omega);refine⟨by omega,?_⟩;rw[show i+2=i+1+1 by omega,xZ (i+1) 1];omega
 have late : ∀k:Nat,256<=k->y+y<=((k+2:Nat):Rat):=by
  intro k hk;have c:((256:Nat):Rat)<=((k+2:Nat):Rat):=Ex.castle (by omega);rw[show ((256:Nat):Rat)=256 from rfl]at c;exact two_le hy c
 intro m;induction m with
 |zero=>
  intro f i k t1 t2 s1 s2 h hk ht hf;obtain⟨f,rfl⟩ : ∃j,f=j+1:=⟨f-1,by omega⟩
  have st:=(dStep_le (t2:=t2) hY (show 1<=k by omega)).2 hk;have iv:=dInv_step hY h12 hk0 h;have:2^0=1:=rfl;rw[dRow,if_pos ⟨by omega,late k hk⟩];obtain⟨q1,q2⟩:=fin _ _ _ _ _ _ iv;exact⟨_,_,rfl,q1,xH q2 (xC _ (by omega))⟩
 |succ m ih=>
  intro f i k t1 t2 s1 s2 h hk ht hf;obtain⟨f,rfl⟩ : ∃j,f=j+1:=⟨f-1,by omega⟩
  have st:=(dStep_le (t2:=t2) hY (show 1<=k by omega)).2 hk;have iv:=dInv_step hY h12 hk0 h;have e2:2^(m+1)=2^m*2:=xU _ _;rw[dRow];by_cases g:cdv (cdv (t2*Y2) (2^w)) k<=2/\y+y<=((k+2:Nat):Rat)
  ·rw[if_pos g];obtain⟨q1,q2⟩:=fin _ _ _ _ _ _ iv;exact⟨_,_,rfl,q1,xH q2 (xC _ (by omega))⟩
  ·rw[if_neg g];obtain⟨A,B,r1,r2,r3⟩:=ih f (i+1) (k+2) _ _ _ _ iv (by omega) (by omega) (by omega);exact⟨A,B,r1,r2,by rw[show i+(m+1)+3=i+1+m+3 by omega];exact r3⟩
theorem dRow_end {w Y1 Y2 k0:Nat} {y:Rat} (hY:Y2<=2^w*128) (h12:Y1<=Y2) (hk0:1<=k0) (hy:y<=128) (hw:8<=2^w) (hw2:w<=1000) : ∀ (d f i k t1 t2 s1 s2:Nat),dInv w k0 i k t1 t2 s1 s2->256<=k+2*d->i+d<=128->d+1900<=f -> ∃A B,dRow w Y1 Y2 y f k t1 t2 s1 s2=some (A,B)/\A<=B/\B<=2^(w+908):=by
 have up : ∀z B:Nat,z<=4096->B<=z*2^(w+896)->B<=2^(w+908):=by
  intro z B hz hB;rw[show w+908=12+(w+896) by omega,xM 2 12];exact xH hB (xC _ hz)
 intro d;induction d with
 |zero=>
  intro f i k t1 t2 s1 s2 h hk hi hf;have h3:=h.2.2.1;obtain⟨m,hm⟩ : ∃m:Nat,m=1896:=⟨_,rfl⟩
  obtain⟨A,B,r1,r2,r3⟩:=dRow_low hY h12 hk0 hy hw m f i k t1 t2 s1 s2 h (by omega) (yP (xH h3 (xD (by omega) (by omega)))) (by omega);exact⟨A,B,r1,r2,up _ _ (by omega) r3⟩
 |succ d ih=>
  intro f i k t1 t2 s1 s2 h hk hi hf;obtain⟨f,rfl⟩ : ∃j,f=j+1:=⟨f-1,by omega⟩
  have iv:=dInv_step hY h12 hk0 h;rw[dRow];by_cases g:cdv (cdv (t2*Y2) (2^w)) k<=2/\y+y<=((k+2:Nat):Rat)
  ·rw[if_pos g];obtain⟨h1,h2,h3,h4,h5,h6⟩:=iv;have:2^w<=2^(w+896):=xD (by omega) (by omega);refine⟨_,_,rfl,by omega,up (i+3) _ (by omega) ?_⟩;rw[show i+3=i+1+1+1 by omega,xZ (i+1+1) 1];omega
  ·rw[if_neg g];exact ih f (i+1) (k+2) _ _ _ _ iv (by omega) (by omega) (by omega)
theorem dRow_enc {w Y1 Y2 k0:Nat} {y:Rat} (hk0:1<=k0) (hy:Enc w Y1 Y2 y) : ∀ (f i t1 t2 s1 s2 A B:Nat),dRow w Y1 Y2 y f (k0+2*i) t1 t2 s1 s2=some (A,B)->Enc w t1 t2 (tk y k0 i)->Enc w s1 s2 (sk y k0 (i+1)) -> ∃s,∀L,s<=L->Enc w A B (sk y k0 L):=by
 have y0:=enc_nonneg hy;have P:=p2_pos w;intro f;induction f with
 |zero=>intro i t1 t2 s1 s2 A B h;cases h
 |succ f ih=>
  intro i t1 t2 s1 s2 A B h ht hs;have e1:=enc_byN (n:=1) (m:=k0+2*i) (by omega) (enc_prodN ht hy);rw[show tk y k0 i*y*((1:Nat):Rat)/((k0+2*i:Nat):Rat)=tk y k0 (i+1) from rfl,yD,yD]at e1;have e3:=enc_add hs e1;rw[show sk y k0 (i+1)+tk y k0 (i+1)=sk y k0 (i+1+1) from rfl]at e3;rw[dRow]at h;generalize t1*Y1/2^w/(k0+2*i)=u1 at *
  generalize cdv (cdv (t2*Y2) (2^w)) (k0+2*i)=u2 at *
  by_cases g:u2<=2/\y+y<=((k0+2*i+2:Nat):Rat)
  ·rw[if_pos g]at h;simp only[Option.some.injEq,Prod.mk.injEq]at h;obtain⟨rfl,rfl⟩:=h;have t3:(u2:Rat)<=2:=Ex.castle (b:=2) g.1;refine⟨i+1+1,fun L hL => ?_⟩;have up:=sk_up hk0 y0 hL;have top:=sk_top (i:=i+1) (L:=L) hk0 y0 (by rw[show k0+2*(i+1)=k0+2*i+2 by omega];exact g.2);have m1:=xA up (xG P);have m2:=xA top (xG P);have sub:((s1+u1-8:Nat):Rat)<=((s1+u1:Nat):Rat):=Ex.castle (by omega);refine⟨xE sub (xE e3.1 m1),xE m2 ?_⟩;rw[Ex.castadd (s2+u2) 8,show ((8:Nat):Rat)=8 from rfl,wj];have a:=e3.2;have b:=e1.2;generalize sk y k0 (i+1+1)*p2 w=p at *
   generalize tk y k0 (i+1)*p2 w=q at *
   clear m1 m2 up top ih;grind
  ·rw[if_neg g]at h;exact ih (i+1) _ _ _ _ A B h e1 e3
theorem iv_piB {W:Nat} (h1:50<=W:=by omega) (h2:W<=400:=by omega) : ∃lo hi:Nat,piIv W=some (lo,hi)/\(lo:Rat)<=SQ*SQ*p2 W/\SQ*SQ*p2 W<=(hi:Rat)/\2^W<=lo/\lo<=hi/\hi<=2^(W+3):=by
 have h:=allFrom_at iv_okB W h1 (by omega);unfold ivOkB at h;split at h
 ·rename_i lo hi hpi;rw[xh,xh,xh]at h;obtain⟨a,b,c,d⟩:=h;have a':=xj a;have b':=xj b;exact⟨lo,hi,hpi,sq_lo (by omega) a',sq_hi (by omega) b',xj c,yv (xH a' b') (xK (by omega)),xj d⟩
 ·cases h
end Go.Proofs.YtfknkoeagjonbaaGreat
namespace Go.Proofs.YtfknkoeagjonbaaGreat
open Go.Ev
theorem divZ_neg {n d:Nat} (hd:0<d) : -(n:Int)/(d:Int) = -((cdv n d:Nat):Int):=by
 have h:=cdZ_nat (n:=n) hd;unfold cdZ at h;omega
theorem cdZ_neg {n d:Nat}:cdZ (-(n:Int)) d = -((n/d:Nat):Int):=by
 unfold cdZ;rw[Int.neg_neg,<- wK]
theorem loQ_mix {a b c d:Nat} (h1:a<=b) (h2:c<=d):loQ a b (-(d:Int)) (-(c:Int)) = -((b*d:Nat):Int)/\hiQ a b (-(d:Int)) (-(c:Int)) = -((a*c:Nat):Int):=by
 have e1:a*c<=a*d:=xI _ h2;have e2:a*c<=b*c:=xC _ h1;have e3:b*c<=b*d:=xI _ h2;have e4:a*d<=b*d:=xC _ h1;unfold loQ loP hiQ hiP mnZ mxZ;rw[wY,wY,wY,wY,<- yF,<- yF,<- yF,<- yF];generalize a*c=x1 at *
 generalize a*d=x2 at *
 generalize b*c=x3 at *
 generalize b*d=x4 at *
 constructor<;>(repeat' split)<;>omega
theorem loQ_neg {a b c d:Nat} (h1:a<=b) (h2:c<=d):loQ (-(b:Int)) (-(a:Int)) (-(d:Int)) (-(c:Int))=((a*c:Nat):Int)/\hiQ (-(b:Int)) (-(a:Int)) (-(d:Int)) (-(c:Int))=((b*d:Nat):Int):=by
 have e1:a*c<=a*d:=xI _ h2;have e2:a*c<=b*c:=xC _ h1;have e3:b*c<=b*d:=xI _ h2;have e4:a*d<=b*d:=xC _ h1;unfold loQ loP hiQ hiP mnZ mxZ;rw[Int.neg_mul_neg,Int.neg_mul_neg,Int.neg_mul_neg,Int.neg_mul_neg,<- yF,<- yF,<- yF,<- yF];generalize a*c=x1 at *
 generalize a*d=x2 at *
 generalize b*c=x3 at *
 generalize b*d=x4 at *
 constructor<;>(repeat' split)<;>omega
def sgL (i t1 t2:Nat):Int:=if i%2=1 then (t1:Int) else -(t2:Int)
def sgH (i t1 t2:Nat):Int:=if i%2=1 then (t2:Int) else -(t1:Int)
theorem ey_round {w Y1 Y2 i t1 t2:Nat} {s1 s2:Int} (hw0:0<w) (hw:w<=4096) (hi:1<=i) (hi2:i<1000000) (h12:Y1<=Y2) (ht:t1<=t2) (lY:(lim Y2).length<=1000) (lt:(lim t2).length<=1000) (l1:(lim s1.natAbs).length<=1000) (l2:(lim s2.natAbs).length<=1000) :
  ∃V1 V2:Int,Go.Ev.Fn CX 190 [ivV (sgL i t1 t2) (sgH i t1 t2),ivV (-(Y2:Int)) (-(Y1:Int)),.int .i64 (w:Int)] (ivV V1 V2) /\
   Go.Ev.Fn CX 259 [ivV V1 V2,.int .i64 (i:Int)] (ivV (sgL (i+1) (t1*Y1/2^w/i) (cdv (cdv (t2*Y2) (2^w)) i)) (sgH (i+1) (t1*Y1/2^w/i) (cdv (cdv (t2*Y2) (2^w)) i))) /\
   Go.Ev.Fn CX 143 [ivV s1 s2,ivV (sgL (i+1) (t1*Y1/2^w/i) (cdv (cdv (t2*Y2) (2^w)) i)) (sgH (i+1) (t1*Y1/2^w/i) (cdv (cdv (t2*Y2) (2^w)) i))] (ivV (if i%2=1 then s1-(cdv (cdv (t2*Y2) (2^w)) i:Nat) else s1+(t1*Y1/2^w/i:Nat)) (if i%2=1 then s2-(t1*Y1/2^w/i:Nat) else s2+(cdv (cdv (t2*Y2) (2^w)) i:Nat))) /\
   Go.Ev.Fn CX 260 [ivV (sgL (i+1) (t1*Y1/2^w/i) (cdv (cdv (t2*Y2) (2^w)) i)) (sgH (i+1) (t1*Y1/2^w/i) (cdv (cdv (t2*Y2) (2^w)) i))] (intN (cdv (cdv (t2*Y2) (2^w)) i)):=by
 have P:0<2^w:=xK (by omega);have lt1:=lim_len_mono ht;have lY1:=lim_len_mono h12;have z:=lim_len_mul (a:=t2) (b:=Y2);have lv2:=lim_len_mono (cdv_self (t2*Y2) P);have v12:t1*Y1/2^w<=cdv (t2*Y2) (2^w):=div_le_cdv P (xO ht h12);have lv1:=lim_len_mono v12;have u12:t1*Y1/2^w/i<=cdv (cdv (t2*Y2) (2^w)) i:=div_le_cdv hi v12;have lu2:=lim_len_mono (cdv_self (cdv (t2*Y2) (2^w)) hi);have lu1:=lim_len_mono u12;by_cases g:i%2=1
 ·have eL:sgL i t1 t2=(t1:Int):=if_pos g;have eH:sgH i t1 t2=(t2:Int):=if_pos g;have pr:=ref4_Prod (a:=(t1:Int)) (b:=(t2:Int)) (c := -(Y2:Int)) (d := -(Y1:Int)) (w:=w) (by rw[xJ];omega) (by rw[xJ];omega) (by rw[yJ,xJ];omega) (by rw[yJ,xJ];omega) hw hw0;rw[(loQ_mix ht h12).1,(loQ_mix ht h12).2,divZ_neg P,cdZ_neg]at pr;have e1:sgL (i+1) (t1*Y1/2^w/i) (cdv (cdv (t2*Y2) (2^w)) i) = -((cdv (cdv (t2*Y2) (2^w)) i:Nat):Int):=if_neg (by omega);have e2:sgH (i+1) (t1*Y1/2^w/i) (cdv (cdv (t2*Y2) (2^w)) i) = -((t1*Y1/2^w/i:Nat):Int):=if_neg (by omega);rw[eL,eH,e1,e2,if_pos g,if_pos g]
  generalize cdv (t2*Y2) (2^w)=v2 at *
  generalize t1*Y1/2^w=v1 at *
  have by1:=ref4_By (a := -(v2:Int)) (b := -(v1:Int)) (by rw[yJ,xJ];omega) (by rw[yJ,xJ];omega) i hi (by omega);rw[divZ_neg hi,cdZ_neg]at by1;generalize cdv v2 i=u2 at *
  generalize v1/i=u1 at *
  have sm:=ref4_Sum (a:=s1) (b:=s2) (c := -(u2:Int)) (d := -(u1:Int)) (by omega) (by omega) (by rw[yJ,xJ];omega) (by rw[yJ,xJ];omega);have mo:=ref4_Most (a := -(u2:Int)) (b := -(u1:Int)) (by rw[yJ,xJ];omega) (by rw[yJ,xJ];omega);rw[yJ,yJ,xJ,xJ,Nat.max_eq_left u12,intN_eq]at mo;rw[<- Int.sub_eq_add_neg,<- Int.sub_eq_add_neg]at sm;exact⟨_,_,pr,by1,sm,mo⟩
 ·have eL:sgL i t1 t2 = -(t2:Int):=if_neg g;have eH:sgH i t1 t2 = -(t1:Int):=if_neg g;have pr:=ref4_Prod (a := -(t2:Int)) (b := -(t1:Int)) (c := -(Y2:Int)) (d := -(Y1:Int)) (w:=w) (by rw[yJ,xJ];omega) (by rw[yJ,xJ];omega) (by rw[yJ,xJ];omega) (by rw[yJ,xJ];omega) hw hw0;rw[(loQ_neg ht h12).1,(loQ_neg ht h12).2,cdZ_nat P,<- wK]at pr;have e1:sgL (i+1) (t1*Y1/2^w/i) (cdv (cdv (t2*Y2) (2^w)) i)=((t1*Y1/2^w/i:Nat):Int):=if_pos (by omega);have e2:sgH (i+1) (t1*Y1/2^w/i) (cdv (cdv (t2*Y2) (2^w)) i)=((cdv (cdv (t2*Y2) (2^w)) i:Nat):Int):=if_pos (by omega);rw[eL,eH,e1,e2,if_neg g,if_neg g]
  generalize cdv (t2*Y2) (2^w)=v2 at *
  generalize t1*Y1/2^w=v1 at *
  have by1:=ref4_By (a:=(v1:Int)) (b:=(v2:Int)) (by rw[xJ];omega) (by rw[xJ];omega) i hi (by omega);rw[cdZ_nat hi,<- wK]at by1;generalize cdv v2 i=u2 at *
  generalize v1/i=u1 at *
  have sm:=ref4_Sum (a:=s1) (b:=s2) (c:=(u1:Int)) (d:=(u2:Int)) (by omega) (by omega) (by rw[xJ];omega) (by rw[xJ];omega);have mo:=ref4_Most (a:=(u1:Int)) (b:=(u2:Int)) (by rw[xJ];omega) (by rw[xJ];omega);rw[xJ,xJ,Nat.max_eq_right u12,intN_eq]at mo;exact⟨_,_,pr,by1,sm,mo⟩
section
variable {w Y1 Y2:Nat}
set_option maxHeartbeats 1000000 in
theorem ref6_row (hw0:64<=w) (hw:w<=900) (hY:4*Y2<=2^w) (h12:Y1<=Y2) : ∃A B:Nat,0<A/\A<=B/\B<=2^(w+1)/\nRow w Y1 Y2 (w/2+3) 1 (2^w) (2^w) (2^w:Nat) (2^w:Nat)=some ((A:Int),(B:Int)) /\
  Go.Ev.Fn CX 220 [ivV (-(Y2:Int)) (-(Y1:Int)),.int .i64 (w:Int)] (ivN A B):=by
 have i0:=nInv_0 w;have big:64*64<=2^w:=xH (show 64*64<=2^64 by decide) (xD (by omega) hw0);have bw:16*w<=2^w:=by
  have h1:16*w<=2^14:=by omega
  exact xH h1 (xD (by omega) (by omega))
 obtain⟨A',B',hr,hAB,hA,hB⟩:=nRow_end (w:=w) hY h12 (w/2+1) (w/2+3) 1 (2^w) (2^w) _ _ i0 (by
  have e:4^(w/2+1)=2^(2*(w/2+1)):=by rw[zF]
  rw[e];have:=xD (n:=2) (by omega) (show w<=2*(w/2+1) by omega);omega) (by omega)
 obtain⟨A,rfl⟩ : ∃A:Nat,A'=(A:Int):=⟨A'.toNat,by omega⟩
 obtain⟨B,rfl⟩ : ∃B:Nat,B'=(B:Int):=⟨B'.toNat,by omega⟩
 have e1:2^(w+1)=2^w*2:=xU _ _;refine⟨A,B,by omega,by omega,by omega,hr,?_⟩;have lp:=lim_len_p2 (n:=2^w) (w:=w) (xQ _);have lY:(lim Y2).length<=40:=lim_len_p2 (w:=w);have lens:=fun (i t1 t2:Nat) (s1 s2:Int) (hi:i<=w) (h:nInv w i t1 t2 s1 s2)=>(show (lim t2).length<=40/\(lim s1.natAbs).length<=80/\(lim s2.natAbs).length<=80/\t1<=t2/\1<=i from by
  obtain⟨q1,q2,q3,q4,q5,q6⟩:=h;exact⟨lim_len_p2 q3,xH (lim_len_p2 (w:=w+1)) (by omega),xH (lim_len_p2 (w:=w+1)) (by omega),q2,q1⟩)
 have step:=fun (i t1 t2:Nat) (s1 s2:Int) (h:nInv w i t1 t2 s1 s2)=>nInv_step (Y1:=Y1) hY h12 h
 have n1:=ref4_NumN (w:=w) (RatA_rv (one_szR')) (by omega) (by omega) (by omega) (show (0:Rat)<=1 by decide);have u1:unN 1 w=2^w:=by show 1*2^w/1=_;rw[xe,zK]
 have u2:upN 1 w=2^w:=by show cdv (1*2^w) 1=_;unfold cdv;rw[xe,zK];omega
 rw[u1,u2]at n1;have i1:=ref2_Int 1;rw[show ((1:Int):Rat)=1 from rfl]at i1;have w2:=ref4_Whole 2;rw[show (2:Int)=((2:Nat):Int) from rfl,intN_eq]at w2;have l2:(lim 2).length<=1:=lim_len_one (by decide);have b0:decide ((((2^w:Nat):Int))<0)=false:=decide_eq_false (by omega);obtain⟨yn1,hyn1⟩ : ∃z:Int,z = -(Y2:Int):=⟨_,rfl⟩
 obtain⟨yn2,hyn2⟩ : ∃z:Int,z = -(Y1:Int):=⟨_,rfl⟩
 have rnd:=fun (i t1 t2:Nat) (s1 s2:Int)=>ey_round (w:=w) (Y1:=Y1) (Y2:=Y2) (i:=i) (t1:=t1) (t2:=t2) (s1:=s1) (s2:=s2) (by omega) (by omega)
 rw[<- hyn1,<- hyn2]at rnd ⊢;clear u1 u2 hA hB hAB e1 big bw;refine fni Tryz.f220 ?_;unfold Tryz.f220;repeat (first|simp only[go_sem]|simp (disch:=first|exact omg|fail) only[AX]|refine wki ?_|refine vpd 2 [] ?_|refine vfa ?_)
 refine vp_loop_inv (fun s=>s.tmp 1 = .sv (.int .i64 (w:Int))/\s.tmp 2 = .ptr 2 0 0/\s.obj 2 0=some [.bool (decide (yn1<0)),natV (lim yn1.natAbs),.bool (decide (yn2<0)),natV (lim yn2.natAbs)]/\s.tmp 4 = .ptr 4 0 0/\s.obj 4 0=some [.bool false,.sl 0 [],.bool false,.sl 0 []]/\s.tmp 6 = .ptr 6 0 0/\s.tmp 7 = .ptr 7 0 0 /\
   ∃f i t1 t2:Nat,∃s1 s2:Int,s.tmp 8 = .sv (.int .i64 (i:Int))/\f+i=w/2+4/\nRow w Y1 Y2 f i t1 t2 s1 s2=some ((A:Int),(B:Int))/\s.obj 6 0=some [.bool (decide (s1<0)),natV (lim s1.natAbs),.bool (decide (s2<0)),natV (lim s2.natAbs)]/\s.obj 7 0=some [.bool (decide (sgL i t1 t2<0)),natV (lim (sgL i t1 t2).natAbs),.bool (decide (sgH i t1 t2<0)),natV (lim (sgH i t1 t2).natAbs)]/\nInv w i t1 t2 s1 s2)
  (fun s=>match s.tmp 8 with | .sv (.int _ i)=>w/2+5-i.toNat|_=>0) ⟨rfl,rfl,rfl,rfl,rfl,rfl,rfl,_,1,_,_,_,_,rfl,by omega,hr,by rw[b0,xJ];rfl,by rw[show sgL 1 (2^w) (2^w)=((2^w:Nat):Int) from rfl,show sgH 1 (2^w) (2^w)=((2^w:Nat):Int) from rfl,b0,xJ];rfl,i0⟩ ?_
 rintro s ⟨i1',i2,o2,i4,o4,i6,i7,f,i,t1,t2,s1,s2,i8,hfi,hgo,o6,o7,hok⟩
 obtain⟨lt2,ls1,ls2,t12,hi1⟩:=lens i t1 t2 s1 s2 (by omega) hok;have st:=step i t1 t2 s1 s2 hok;cases f with
 |zero=>simp only[nRow]at hgo;cases hgo
 |succ f=>
  obtain⟨V1,V2,pr,by1,sm,mo⟩:=rnd i t1 t2 s1 s2 hi1 (by omega) h12 t12 (by omega) (by omega) (by omega) (by omega);obtain⟨lu2,lz1,lz2,-,-⟩:=lens (i+1) _ _ _ _ (by omega) st;rw[nRow]at hgo;generalize (if i%2=1 then s1-(cdv (cdv (t2*Y2) (2^w)) i:Nat) else s1+(t1*Y1/2^w/i:Nat))=z1 at *
  generalize (if i%2=1 then s2-(t1*Y1/2^w/i:Nat) else s2+(cdv (cdv (t2*Y2) (2^w)) i:Nat))=z2 at *
  generalize t1*Y1/2^w/i=u1 at *
  generalize cdv (cdv (t2*Y2) (2^w)) i=u2 at *
  have cc:=ref4_CmpN (a:=u2) (b:=2);have ec:decide (cmpZ ((u2:Nat):Int) ((2:Nat):Int)<=0)=decide (u2<=2):=by rw[cmpZ_le];exact decide_eq_decide.2 (by omega)
  generalize cmpZ ((u2:Nat):Int) ((2:Nat):Int)=cz at *
  have wd:=ref4_Wide (a:=z1) (b:=z2) (by omega) (by omega) 4 (by omega);clear lens step rnd hr;by_cases hu:u2<=2
  ·rw[decide_eq_true hu]at ec;rw[if_pos hu]at hgo;simp only[Option.some.injEq,Prod.mk.injEq]at hgo;rw[hgo.1,hgo.2,ivN_eq]at wd;clear hgo st;generalize sgL (i+1) u1 u2=T1 at *
   generalize sgH (i+1) u1 u2=T2 at *
   repeat (first|simp only[go_sem,i1',i2,o2,i4,o4,i6,i7,i8,o6,o7,ec]|simp (disch:=first|exact omg|fail) only[AX,i1',i2,o2,i4,o4,i6,i7,i8,o6,o7,ec]|refine wki ?_|refine vpd 2 [] ?_|refine vf_of (by first|exact pr|exact by1|exact sm|exact mo|exact w2|exact cc|exact wd) ?_)
  ·rw[decide_eq_false hu]at ec;rw[if_neg hu]at hgo
   have fin : ∀T1 T2:Int,T1=sgL (i+1) u1 u2->T2=sgH (i+1) u1 u2->(∃f' i' t1 t2:Nat,∃s1 s2:Int,TV.sv (.int .i64 ((i+1:Nat):Int)) = .sv (.int .i64 (i':Int))/\f'+i'=w/2+4/\nRow w Y1 Y2 f' i' t1 t2 s1 s2=some ((A:Int),(B:Int))/\[SV.bool (decide (z1<0)),natV (lim z1.natAbs),.bool (decide (z2<0)),natV (lim z2.natAbs)]=[.bool (decide (s1<0)),natV (lim s1.natAbs),.bool (decide (s2<0)),natV (lim s2.natAbs)]/\[SV.bool (decide (T1<0)),natV (lim T1.natAbs),.bool (decide (T2<0)),natV (lim T2.natAbs)]=[.bool (decide (sgL i' t1 t2<0)),natV (lim (sgL i' t1 t2).natAbs),.bool (decide (sgH i' t1 t2<0)),natV (lim (sgH i' t1 t2).natAbs)]/\nInv w i' t1 t2 s1 s2):=by
    rintro T1 T2 rfl rfl
    exact⟨f,i+1,u1,u2,z1,z2,rfl,by omega,hgo,rfl,rfl,st⟩
   have fin2:=fin _ _ rfl rfl;clear fin hgo st;generalize sgL (i+1) u1 u2=T1 at *
   generalize sgH (i+1) u1 u2=T2 at *
   repeat (first|simp only[go_sem,i1',i2,o2,i4,o4,i6,i7,i8,o6,o7,ec]|simp (disch:=first|exact omg|fail) only[AX,i1',i2,o2,i4,o4,i6,i7,i8,o6,o7,ec]|refine wki ?_|refine vpd 2 [] ?_|refine vf_of (by first|exact pr|exact by1|exact sm|exact mo|exact w2|exact cc) ?_)
   exact⟨fin2,by omega⟩
theorem neg_numE (y:Rat) (h:0<=y):(-y).num = -((y.num.natAbs:Nat):Int):=by rw[Rat.neg_num,num_abs h]
theorem ref4_NumNeg {v:SV} {y:Rat} {L:Nat} (hv:RatA v (-y) L) (hL1:1<=L) (hL:L<=100000) (hw:w<=4096) (h0:0<=y):Go.Ev.Fn CX 121 [v,.int .i64 (w:Int)] (ivV (-((upN y w:Nat):Int)) (-((unN y w:Nat):Int))):=by
 have h:=ref4_Num hv hL1 hL hw;rw[neg_numE y h0,Rat.neg_den,wX,<- yF,divZ_neg y.den_pos,cdZ_neg]at h;exact h
theorem sq_one:Enc w (2^w) (2^w) 1:=⟨by rw[xc];exact xN,by rw[xc];exact xN⟩
set_option maxHeartbeats 1000000 in
theorem ref6_IvX {v:SV} {x:Rat} {L:Nat} (hv:RatA v x L) (hL1:1<=L) (hL:L<=300) (h0:x<=0) (h64 : -64<=x) (hw:w<=600) :
  ∃A B:Nat,A<=B/\B<=2^(w+130+256)/\Go.Ev.Fn CX 150 [v,.int .i64 (w:Int)] (ivN A B)/\(∃s,∀L,s<=L->Enc w A B (evX x L)) /\
   ∃A0 B0:Nat,nRow (w+130) (unN (-x*(1/256)) (w+130)) (upN (-x*(1/256)) (w+130)) ((w+130)/2+3) 1 (2^(w+130)) (2^(w+130)) (2^(w+130):Nat) (2^(w+130):Nat)=some ((A0:Int),(B0:Int))/\A=(sqn (w+130) 8 A0 B0).1/2^130/\B=cdv (sqn (w+130) 8 A0 B0).2 (2^130):=by
 obtain⟨W,hW,hw1,hw2,hwi⟩ : ∃W:Nat,(∀Q:Nat->Prop,Q W->Q (w+130))/\130<=W/\W<=730/\(w:Int)+130=(W:Int):=⟨w+130,fun Q h=>h,by omega,by omega,rfl⟩
 obtain⟨y,hy⟩ : ∃y:Rat,y = -x*(1/256):=⟨_,rfl⟩
 have h256:(1/256:Rat)*256=1:=by decide +kernel
 have y256:((256:Nat):Rat)*y = -x:=by rw[hy,show ((256:Nat):Rat)=256 from rfl];grind
 have y0:0<=y:=by rw[hy];exact xF (by grind) (by decide +kernel)
 have y4:y*((4:Nat):Rat)<=((1:Nat):Rat):=by
  rw[show ((4:Nat):Rat)=4 from rfl,show ((1:Nat):Rat)=1 from rfl];rw[show ((256:Nat):Rat)=256 from rfl]at y256;grind
 have yh:(y+y)+(y+y)<=1:=by
  rw[show ((4:Nat):Rat)=4 from rfl,show ((1:Nat):Rat)=1 from rfl]at y4;grind
 have xy:x*mkRat 1 (2^8) = -y:=by
  rw[show mkRat 1 (2^8)=(1/256:Rat) by decide +kernel,hy];grind
 have zx:=szR_of hv hL1;have z8:szR (mkRat 1 (2^8)) 1:=⟨lim_len_lt (by decide +kernel),lim_len_lt (by decide +kernel)⟩
 have zq:=szR_mul zx z8 hL1;have mu:=ref2_Mul hv (RatA_rv z8) hL1;rw[xy]at mu zq;have nm:=ref4_NumNeg (w:=W) (RatA_rv zq) (by omega) (by omega) (by omega) y0;have sh:=ref1_shl (N:=1) (m:=8) (by rw[lim_one];simp);rw[xe,lim_one]at sh;have l:=lim_len_shl (a:=1) (n:=8);have l1:=lim_len1;rw[xe]at l;have of:=ref2_OfL (s:=false) (n:=1) (d:=2^8);rw[lim_one,show sgn false 1=1 from rfl]at of;have hY:4*upN y W<=2^W:=by
  have e:2^W=2^(W-2)*4:=by rw[show (4:Nat)=2^2 from rfl,<- xM];congr 1;omega
  have:=upN_le (w:=W) (c:=2^(W-2)) y0 y4;omega
 obtain⟨A0,B0,a1,a2,a3,hr,fr⟩:=ref6_row (w:=W) (by omega) (by omega) hY (un_up W);have E1:Ex.E (-y) 1=1:=by show (0:Rat)+1=1;decide +kernel
 obtain⟨s1,hs⟩:=nRow_enc (num_enc y0 W) yh _ 0 _ _ _ _ _ _ hr sq_one (by rw[E1];exact sq_one);have en : ∀L,s1<=L->Enc W A0 B0 (1/Ex.E y L):=fun L hL=>hs L hL
 have en8:=fun L hL=>sqn_enc (w:=W) 8 A0 B0 _ (en L hL)
 obtain⟨s2,hs2⟩:=inv_far (x := -x) (j:=2^8) (by omega) y0 (by rw[show (2:Nat)^8=256 from rfl];exact y256) en8;have st : ∀ (k lo hi c:Nat),lo<=hi->hi<=2^(W+c)->c<=128->(Go.Ev.Fn CX 190 [ivN lo hi,ivN lo hi,.int .i64 (W:Int)] (ivN (lo*lo/2^W) (cdv (hi*hi) (2^W))))/\lo*lo/2^W<=cdv (hi*hi) (2^W)/\cdv (hi*hi) (2^W)<=2^(W+(c+c)):=by
  intro k lo hi c q1 q2 q3;obtain⟨m1,m2⟩:=sqn_step q1 q2;have lh:=lim_len_p2 q2;exact⟨ref4_ProdN q1 q1,m1,m2⟩
 have fin : ∀ (k lo hi c:Nat),lo<=hi->hi<=2^(W+c)->c*2^k<=256->(sqn W k lo hi).1<=(sqn W k lo hi).2/\(sqn W k lo hi).2<=2^(W+256):=by
  intro k;induction k with
  |zero=>intro lo hi c q1 q2 q3;exact⟨q1,xH q2 (xD (by omega) (by omega))⟩
  |succ k ih=>
   intro lo hi c q1 q2 q3;obtain⟨m1,m2⟩:=sqn_step q1 q2;refine ih _ _ (c+c) m1 m2 ?_;rw[xU,<- Nat.mul_two]at *
   rw[xP,xV 2];exact q3
 obtain⟨R1,R2,hR⟩ : ∃R1 R2:Nat,sqn W 8 A0 B0=(R1,R2):=⟨_,_,rfl⟩
 obtain⟨f1,f2⟩:=fin 8 A0 B0 1 a2 a3 (by omega);rw[hR]at f1 f2 hs2;simp only at f1 f2 hs2;have lR2:=lim_len_p2 f2;have lR1:=lim_len_mono f1;have bk:=ref4_BackN (a:=R1) (b:=R2) (n:=130);have o12:=div_le_cdv (d:=2^130) (wP 130) f1;have f2':R2<=2^(w+130+256):=hW (fun W=>R2<=2^(W+256)) f2;refine⟨R1/2^130,cdv R2 (2^130),o12,xH (cdv_self R2 (wP 130)) f2',?_,⟨s2+1,fun L hL => ?_⟩,?_⟩;rotate_left
 ·have e:evX x L=1/Ex.E (-x) L:=by
   unfold evX;by_cases g:x<0
   ·rw[if_pos g]
   ·rw[if_neg g];have x0:x=0:=Rat.le_antisymm h0 (yZ.1 g);subst x0;obtain⟨k,rfl⟩ : ∃k,L=k+1:=⟨L-1,by omega⟩
    rw[Rat.neg_zero,Ex.E_zero];decide +kernel
  rw[e];exact enc_backN (w:=w) (n:=130) (hW (fun W=>Enc W R1 R2 (1/Ex.E (-x) L)) (hs2 L (by omega)))
 ·have:=hW (fun W=>nRow W (unN (-x*(1/256)) W) (upN (-x*(1/256)) W) (W/2+3) 1 (2^W) (2^W) (2^W:Nat) (2^W:Nat)=some ((A0:Int),(B0:Int))/\sqn W 8 A0 B0=(R1,R2)) ⟨by rw[<- hy];exact hr,hR⟩;exact⟨A0,B0,this.1,by rw[this.2],by rw[this.2]⟩
 ·clear en en8 hs hs2 hr fin f2' o12;obtain⟨s0,n0,d0,rfl,-⟩:=hv;generalize hyn1 : -((upN y W:Nat):Int)=yn1 at *
  generalize hyn2 : -((unN y W:Nat):Int)=yn2 at *
  generalize R1/2^130=O1 at *
  generalize cdv R2 (2^130)=O2 at *
  generalize mkRat 1 (2^8)=q8 at *
  generalize 2^8=P8 at *
  generalize -y=my at *
  refine fni Tryz.f150 ?_;unfold Tryz.f150;repeat (first|simp only[go_sem,hwi]|simp (disch:=first|exact omg|fail) only[AX,hwi]|refine wki ?_|refine vpd 3 [12,11,14] ?_|refine vfa ?_)
  refine vp_loop_inv (fun s=>s.tmp 1 = .sv (.int .i64 (w:Int))/\s.tmp 4 = .ptr 4 0 0/\s.obj 4 0=some [.bool false,.sl 0 [],.bool false,.sl 0 []]/\s.tmp 5 = .sv (.int .i64 130)/\s.tmp 6 = .sv (.int .i64 8)/\s.tmp 8 = .ptr 8 0 0 /\
    ∃k lo hi c:Nat,s.tmp 9 = .sv (.int .i64 ((8-k:Nat):Int))/\k<=8/\s.obj 8 0=some [.bool false,natV (lim lo),.bool false,natV (lim hi)]/\sqn W k lo hi=(R1,R2)/\lo<=hi/\hi<=2^(W+c)/\c*2^k<=256)
   (fun s=>match s.tmp 9 with | .sv (.int _ i)=>9-i.toNat|_=>0) ⟨rfl,rfl,rfl,rfl,rfl,rfl,8,A0,B0,1,rfl,by omega,rfl,hR,a2,a3,by omega⟩ ?_
  rintro s ⟨i1,i4,o4,i5,i6,i8,k,lo,hi,c,i9,hk,o8,hsq,g1,g2,g3⟩
  cases k with
  |zero=>
   have hsq':(lo,hi)=(R1,R2):=hsq;simp only[Prod.mk.injEq]at hsq';obtain⟨rfl,rfl⟩:=hsq';repeat (first|simp only[go_sem,i1,i4,o4,i5,i6,i8,i9,o8,hwi]|simp (disch:=first|exact omg|fail) only[AX,i1,i4,o4,i5,i6,i8,i9,o8,hwi]|refine wki ?_|refine vpd 3 [12,11,14] ?_|refine vfa ?_)
  |succ k=>
   have c128:c<=128:=by
    rw[xU,<- xP]at g3;have:=yi c (show 0<2^k from xK (by omega));omega
   obtain⟨mu2,m1,m2⟩:=st k lo hi c g1 g2 c128;have hsq':sqn W k (lo*lo/2^W) (cdv (hi*hi) (2^W))=(R1,R2):=hsq;clear hsq st;generalize lo*lo/2^W=lo' at *
   generalize cdv (hi*hi) (2^W)=hi' at *
   have g3':(c+c)*2^k<=256:=by
    rw[xU,xV _ 2,<- xP,Nat.mul_two]at g3;exact g3
   repeat (first|simp only[go_sem,i1,i4,o4,i5,i6,i8,i9,o8,hwi]|simp (disch:=first|exact omg|fail) only[AX,i1,i4,o4,i5,i6,i8,i9,o8,hwi]|refine wki ?_|refine vpd 3 [12,11,14] ?_|refine vfa ?_)
   exact⟨⟨k,lo',hi',c+c,by congr 2;omega,by omega,rfl,hsq',m1,m2,g3'⟩,by omega⟩
theorem ref6_Iv {v:SV} {x:Rat} {L:Nat} (hv:RatA v x L) (hL1:1<=L) (hL:L<=300) (h0:x<=0) (h64 : -64<=x) (hw:w<=600:=by omega) :
  ∃A B:Nat,A<=B/\B<=2^(w+130+256)/\Go.Ev.Fn CX 150 [v,.int .i64 (w:Int)] (ivN A B) /\ ∃s,∀L,s<=L->Enc w A B (evX x L):=by
 obtain⟨A,B,a,b,c,d,-⟩:=ref6_IvX hv hL1 hL h0 h64 hw;exact⟨A,B,a,b,c,d⟩
end
end Go.Proofs.YtfknkoeagjonbaaGreat
namespace Go.Proofs.YtfknkoeagjonbaaGreat
open Go.Ev
theorem by_ok {N D w:Nat} (hD:0<D) (hN:N<=64*D) (hw:8<=w:=by omega):N*2^w/D*2/1<=(N*2^w/D+1)*2/1+1/\(N*2^w/D+1)*2/1+1<=N*2^w/D*2/1+41/\(N*2^w/D+1)*2/1+1<=129*2^w/\N*2^w/D<=2^w*64 /\
  ∀x:Rat,x*(D:Rat)=(N:Rat)->Enc w (N*2^w/D*2/1) ((N*2^w/D+1)*2/1+1) (x*2):=by
 have P:2^8<=2^w:=xD (by omega) hw;have Tle:N*2^w/D<=2^w*64:=by
  refine(yL hD).2 ?_;have m:=xC (2^w) hN;have e:64*D*2^w=2^w*64*D:=by rw[xV,<- xP]
  omega
 refine⟨by omega,by omega,by omega,Tle,fun x hx => ?_⟩;have f:=floor_le (a:=N*2^w) (d:=D);have g:=le_floor (a:=N*2^w) (d:=D) hD;have dR:(0:Rat)<(D:Rat):=by exact_mod_cast hD
 have k:((N*2^w:Nat):Rat)=x*p2 w*(D:Rat):=by
  have:((N*2^w:Nat):Rat)=(N:Rat)*p2 w:=by exact_mod_cast rfl
  rw[this,<- hx];grind
 rw[k]at f g;have e:=enc_times (n:=2) (d:=1) (by omega) (show Enc w (N*2^w/D) (N*2^w/D+1) x from⟨le_by dR f,le_by dR g⟩);have e2:x*((2:Nat):Rat)/((1:Nat):Rat)=x*2:=by
  rw[show ((2:Nat):Rat)=2 from rfl,show ((1:Nat):Rat)=1 from rfl];generalize x*2=z;have:=xd (a:=z) (b:=1) (by decide);rw[yA]at this;exact this
 rw[e2]at e;exact e
theorem nn_of {N D:Nat} {x:Rat} (hD:0<D) (h:x*(D:Rat)=(N:Rat)):0<=x:=by
 have dR:(0:Rat)<(D:Rat):=by exact_mod_cast hD
 refine le_by dR ?_;rw[xw,h];exact nat_nonneg N
theorem le_of64 {N D:Nat} {x:Rat} (hD:0<D) (h:x*(D:Rat)=(N:Rat)) (hN:N<=64*D):x<=64:=by
 have dR:(0:Rat)<(D:Rat):=by exact_mod_cast hD
 refine le_by dR ?_;rw[h];have:=Ex.castle hN;rw[Ex.castmul]at this;exact this
theorem one_encE (w:Nat):Enc w (2^w) (2^w+1) 1:=by
 refine⟨by rw[xc];exact xN,?_⟩;rw[xc];exact_mod_cast yg (2^w)
section
variable {N D w n:Nat}
theorem incg_row (hn:1<=n) (hn2:n<=30) (hD:0<D) (hN:N<=64*D) (lN:(lim N).length<=300) (lD:(lim D).length<=300) (hw0:80<=w:=by omega) (hw:w<=1000:=by omega) :
  ∃A B:Nat,(∀s:Bool,Go.Ev.Fn CX 165 [.int .i64 (n:Int),ratV s (lim N) (lim D),.int .i64 (w:Int)] (spanV A B))/\A<=B/\B<2^(w+10014)/\B<=((igR n).1+1)*2^w/\B<=A+((igR n).2+8) /\
   ∀x:Rat,x*(D:Rat)=(N:Rat) -> ∃s0,∀L,s0<=L->Enc w A B (1*sk (x*2) (n+2) L):=by
 have fr:=fun s=>fix_RatS (s:=s) (n:=N) (d:=D) (w:=w) hD
 have P:2^8<=2^w:=xD (by omega) (by omega);obtain⟨b1,b2,b3,b4,b5⟩:=by_ok (w:=w) hD hN;generalize N*2^w/D=T at *
 have e9:2^(w+9)=2^w*512:=xM _ _ _;have e8:2^(w+8)=2^w*256:=xM _ _ _;have e10:2^(w+10)=2^w*1024:=xM _ _ _;have lT:=lim_len_pw (n:=T) (w:=w+9);have lT1:=lim_len_pw (n:=T+1) (w:=w+9);have o2:=nat_Of 2;have o1:=fix_One;have l1:=lim_len1;have l2:(lim 2).length<=1:=lim_len_one (by decide);have ti:=fix_Times (a:=T) (b:=T+1) (n:=2) (d:=1);have un:=fix_Unit (w:=w);generalize T*2/1=Q1 at *
 generalize (T+1)*2/1+1=Q2 at *
 have lQ1:=lim_len_pw (n:=Q1) (w:=w+9);have lQ2:=lim_len_pw (n:=Q2) (w:=w+9);have i0:=tInv_0 (w:=w) (k0:=n+2) (t1:=2^w) (t2:=2^w+1) (a1:=2^w) (a2:=2^w+1);obtain⟨F,hF⟩ : ∃F:Nat,F=5200:=⟨_,rfl⟩
 obtain⟨A,B,hr,hAB,hB⟩:=tRow_end (w:=w) (Y1:=Q1) (Y2:=Q2) (M:=0) (k0:=n+2) (by omega) b1 (by omega) (by omega) (by omega) 1023 F 0 (n+2) _ _ _ _ i0 (by omega) (by omega) (by omega);obtain⟨-,w1,w2⟩:=tRow_wide (W:=129) (D:=41) b3 b1 b2 F F (n+2) _ _ _ _ 2 1 2 1 A B (xQ _) (by omega) hr (by omega) (by omega) (by omega) (by omega) (by omega) (by omega);obtain⟨-,w3,w4⟩:=ig_at hn hn2;rw[hF]at w1 w2;generalize wRow 129 41 5200 (n+2) 2 1 2 1=wr at *
 have w5:=xC (2^w) w3;refine⟨A,B,fun s => ?_,hAB,hB,?_,by omega,fun x hx => ?_⟩;rotate_left
 ·rw[xZ,xe];omega
 ·have en:=b5 x hx;have x0:=nn_of hD hx;have x64:=le_of64 hD hx hN;exact tRow_enc (c:=1) (k0:=n+2) (by omega) en (by decide) (fun i _ g=>tk_late (w:=w) (by omega) (by omega) (enc_nonneg en) (le_128 x64) (by omega) (by rw[xc]at g;exact g)) F 0 _ _ _ _ A B hr (by
   show Enc w _ _ (1*1);rw[xc];exact one_encE w) (by show Enc w _ _ (1*(0+1));rw[Rat.zero_add,xc];exact one_encE w)
 have lens:=fun (i k t1 t2 a1 a2:Nat) (hi:i<=F) (h:tInv w (n+2) i k t1 t2 a1 a2)=>(show (lim t1).length<=1000/\(lim t2).length<=1000/\(lim a1).length<=1000/\(lim a2).length<=1000 from by
  obtain⟨h1,h2,h3,h4,h5⟩:=h;have a:=lim_len_pw h4;have b:=lim_len_mono h2;have up:(i+2)*2^(w+10000)<=2^(w+10014):=by
   have e:2^(w+10014)=16384*2^(w+10000):=by rw[show w+10014=14+(w+10000) by omega,xM 2 14]
   rw[e];exact xC _ (by omega)
  have c:=lim_len_pw (n:=a2) (w:=w+10014);have d:=lim_len_mono h3;exact⟨by omega,by omega,by omega,by omega⟩)
 have step:=fun (i k t1 t2 a1 a2:Nat) (h:tInv w (n+2) i k t1 t2 a1 a2)=>tInv_step (Y1:=Q1) (Y2:=Q2) (by omega) b1 (by omega) h
 have frs:=fr s;obtain⟨W1,hW1⟩ : ∃W1:Nat,W1=2^w:=⟨_,rfl⟩
 rw[<- hW1]at un i0 hr;clear fr b2 b3 b4 b5 e8 e9 e10 hB hAB w1 w2 w3 w4 w5 P;refine fni Tryz.f165 ?_;unfold Tryz.f165;repeat (first|simp only[go_sem]|simp (disch:=first|exact omg|fail) only[AX]|refine wki ?_|refine vfa ?_)
 refine vp_loop_inv (fun s'=>s'.tmp 2 = .sv (.int .i64 (w:Int))/\s'.tmp 6 = .ptr 6 0 0/\s'.obj 6 0=some [.sl 0 [],.sl 0 []]/\s'.tmp 7 = .ptr 7 0 0/\s'.obj 7 0=some [natV (lim Q1),natV (lim Q2)]/\s'.tmp 8 = .ptr 8 0 0/\s'.tmp 9 = .ptr 9 0 0 /\
   ∃f i k t1 t2 a1 a2:Nat,s'.tmp 10 = .sv (.int .i64 (k:Int))/\f+i=F/\tRow w Q1 Q2 0 f k t1 t2 a1 a2=some (A,B)/\s'.obj 9 0=some [natV (lim t1),natV (lim t2)]/\s'.obj 8 0=some [natV (lim a1),natV (lim a2)]/\tInv w (n+2) i k t1 t2 a1 a2)
  (fun s'=>match s'.tmp 10 with | .sv (.int _ i)=>20000-i.toNat|_=>0) ⟨rfl,rfl,rfl,rfl,rfl,rfl,rfl,F,0,n+2,W1,W1+1,W1,W1+1,rfl,by omega,hr,rfl,rfl,i0⟩ ?_
 rintro s' ⟨i2,i6,o6,i7,o7,i8,i9,f,i,k,t1,t2,a1,a2,i10,hfi,hgo,o9,o8,hok⟩
 obtain⟨lt1,lt2,la1,la2⟩:=lens i k t1 t2 a1 a2 (by omega) hok;have hk:=hok.1;have st:=step i k t1 t2 a1 a2 hok;have sm:=fix_Small (a:=t1) (b:=t2) (k:=2);cases f with
 |zero=>simp only[tRow]at hgo;cases hgo
 |succ f=>
  rw[tRow]at hgo;by_cases hs:t2<4
  ·rw[if_pos ⟨zj _,hs⟩]at hgo;simp only[Option.some.injEq,Prod.mk.injEq]at hgo;obtain⟨rfl,rfl⟩:=hgo;rw[decide_eq_true (show t2<2^2 from hs)]at sm;have wd:=fix_Wider (a:=a1) (b:=a2) (n:=8);clear step lens st hr;repeat (first|simp only[go_sem,i2,i6,o6,i7,o7,i8,i9,i10,o8,o9,xL]|simp (disch:=first|exact omg|fail) only[AX,i2,i6,o6,i7,o7,i8,i9,i10,o8,o9,xL]|refine wki ?_|refine vfa ?_)
  ·rw[if_neg (fun h=>hs h.2)]at hgo;rw[decide_eq_false (show ¬t2<2^2 from hs)]at sm;obtain⟨lu1,lu2,lb1,lb2⟩:=lens (i+1) (k+2) _ _ _ _ (by omega) st;have mu:=fix_Mul (a:=t1) (b:=t2) (c:=Q1) (d:=Q2) (w:=w);have qk:=nat_Of k;have lq:(lim k).length<=2:=lim_len_lt;have z1:=lim_len_mul (a:=t1) (b:=Q1);have z2:=lim_len_mul (a:=t2) (b:=Q2);have z3:=lim_len_mono (xv (t1*Q1) (2^w));have z4:=lim_len_add (a:=t2*Q2/2^w) (b:=1) (L:=5000) (xH (lim_len_mono (xv (t2*Q2) (2^w))) (by omega));have tk:=fix_Times (a:=t1*Q1/2^w) (b:=t2*Q2/2^w+1) (n:=1) (d:=k);generalize t1*Q1/2^w*1/k=u1 at *
   generalize (t2*Q2/2^w+1)*1/k+1=u2 at *
   generalize t1*Q1/2^w=v1 at *
   generalize t2*Q2/2^w+1=v2 at *
   have ad:=fix_Add (a:=a1) (b:=a2) (c:=u1) (d:=u2);clear step lens hr;repeat (first|simp only[go_sem,i2,i6,o6,i7,o7,i8,i9,i10,o8,o9,xg]|simp (disch:=first|exact omg|fail) only[AX,i2,i6,o6,i7,o7,i8,i9,i10,o8,o9,xg]|refine wki ?_|refine vf_of (by first|exact sm|exact mu|exact o1|exact qk|exact tk|exact ad) ?_)
   exact⟨⟨f,i+1,k+2,u1,u2,a1+u1,a2+u2,rfl,by omega,hgo,rfl,rfl,st⟩,by omega⟩
end
end Go.Proofs.YtfknkoeagjonbaaGreat
