/- Part 11 of the proof: the evaluator, contracts of functions and their plain laws (joined by program). No condition. -/
import Derived.Test.YtfknkoeagjonbaaGreatPart10
set_option linter.unusedVariables false
set_option linter.unusedSimpArgs false
set_option maxRecDepth 100000
namespace Go.Proofs.YtfknkoeagjonbaaGreat
open Go.Ev
section
variable {kind k n p:Int} {X Y X' tn P D d f:Nat} {xs ys tc:List SV} {sm ss:Bool} {nm dm ns ds:List Nat} {s x l h:Rat} {dg:List SV} {e:Int}
theorem P_no (he:e≠0) (st:Go.Ev.Fn CX 48 [testV kind (.sl X xs) (.sl Y ys) (.sl tn tc) sm nm dm ss ns ds k n] (.tup [rv s,.sl X' dg,.int .i64 e])) :
  Go.Ev.Fn CX 14 [testV kind (.sl X xs) (.sl Y ys) (.sl tn tc) sm nm dm ss ns ds k n,.int .i64 p] (.tup [ballZ,.int .i64 e]):=by
 refine fni Tryz.f14 ?_;unfold Tryz.f14;repeat (first|simp only[go_sem]|simp (disch:=first|exact omg|fail) only[AX]|refine wki ?_|refine vpd 9 [] ?_|refine vpd 11 [] ?_|refine vpd 14 [] ?_|refine vfa ?_)
theorem refP_no (he:e≠0) (st:Go.Ev.Fn CX 55 [testV kind (.sl X xs) (.sl Y ys) (.sl tn tc) sm nm dm ss ns ds k n] (.tup [rv s,.sl X' dg,.int .i64 e])) :
  Go.Ev.Fn CX 15 [testV kind (.sl X xs) (.sl Y ys) (.sl tn tc) sm nm dm ss ns ds k n,.int .i64 p] (.tup [ballR 0 0,.int .i64 e]):=by
 have z:=ref19_zero;have o:=ref4_Of (RatA_rv (int_szR (n:=0)));rw[show ((0:Int):Rat)=0 from rfl]at o;refine fni Tryz.f15 ?_;unfold Tryz.f15;repeat (first|simp only[go_sem]|simp (disch:=first|exact omg|fail) only[AX]|refine wki ?_|refine vpd 6 [] ?_|refine vpd 11 [] ?_|refine vpd 13 [] ?_|refine vfa ?_)
theorem Exact_no (he:e≠0\/kind≠8) (st:Go.Ev.Fn CX 48 [testV kind (.sl X xs) (.sl Y ys) (.sl tn tc) sm nm dm ss ns ds k n] (.tup [rv s,.sl X' dg,.int .i64 e])) :
  Go.Ev.Fn CX 16 [testV kind (.sl X xs) (.sl Y ys) (.sl tn tc) sm nm dm ss ns ds k n] (.tup [rv 0,.bool false]):=by
 have r0:=rat_Int 0;rw[show ((0:Int):Rat)=0 from rfl]at r0;by_cases c:e=0
 ·have he':kind≠8:=he.resolve_left (fun h=>h c);subst c;clear he;refine fni Tryz.f16 ?_;unfold Tryz.f16;repeat (first|simp only[go_sem]|simp (disch:=first|exact omg|fail) only[AX]|refine wki ?_|refine vfa ?_)
 ·clear he;refine fni Tryz.f16 ?_;unfold Tryz.f16;repeat (first|simp only[go_sem]|simp (disch:=first|exact omg|fail) only[AX]|refine wki ?_|refine vfa ?_)
theorem Exact_yes {b:Bool} (st:Go.Ev.Fn CX 48 [testV 8 (.sl X xs) (.sl Y ys) (.sl tn tc) sm nm dm ss ns ds k n] (.tup [rv s,.sl X' dg,.int .i64 0])) (bt:Go.Ev.Fn CX 63 [.int .i64 n,.int .i64 k,.agg [.bool sm,natV nm,natV dm]] (.tup [rv x,.bool b])) :
  Go.Ev.Fn CX 16 [testV 8 (.sl X xs) (.sl Y ys) (.sl tn tc) sm nm dm ss ns ds k n] (.tup [rv x,.bool b]):=by
 refine fni Tryz.f16 ?_;unfold Tryz.f16;repeat (first|simp only[go_sem]|simp (disch:=first|exact omg|fail) only[AX]|refine wki ?_|refine vfa ?_)
theorem P_bin {b:Bool} (hp:(p<=0/\P=0)\/p=(P:Int)) (hP:P<=200) (zx:szR x 100000) (st:Go.Ev.Fn CX 48 [testV 8 (.sl X xs) (.sl Y ys) (.sl tn tc) sm nm dm ss ns ds k n] (.tup [rv s,.sl X' dg,.int .i64 0])) (ex:Go.Ev.Fn CX 16 [testV 8 (.sl X xs) (.sl Y ys) (.sl tn tc) sm nm dm ss ns ds k n] (.tup [rv x,.bool b])) :
  Go.Ev.Fn CX 14 [testV 8 (.sl X xs) (.sl Y ys) (.sl tn tc) sm nm dm ss ns ds k n,.int .i64 p] (.tup [ballR x x,.int .i64 0]):=by
 have x1:(if (0:Int)>p then (0:Int) else p)=(P:Int):=by split<;>omega
 have x2:(if (200:Int)<(P:Int) then (200:Int) else (P:Int))=(P:Int):=if_neg (by omega);have o:=ball_Of (RatA_rv zx);clear zx hp;refine fni Tryz.f14 ?_;unfold Tryz.f14;repeat (first|simp only[go_sem,x1,x2]|simp (disch:=first|exact omg|fail) only[AX,x1,x2]|refine wki ?_|refine vpd 9 [] ?_|refine vpd 11 [] ?_|refine vpd 14 [] ?_|refine vfa ?_)
theorem refP_bin {b:Bool} (zx:szR x 100000) (st:Go.Ev.Fn CX 55 [testV 8 (.sl X xs) (.sl Y ys) (.sl tn tc) sm nm dm ss ns ds k n] (.tup [rv s,.sl X' dg,.int .i64 0])) (bt:Go.Ev.Fn CX 17 [.int .i64 n,.int .i64 k,.agg [.bool sm,natV nm,natV dm]] (.tup [rv x,.bool b])) :
  Go.Ev.Fn CX 15 [testV 8 (.sl X xs) (.sl Y ys) (.sl tn tc) sm nm dm ss ns ds k n,.int .i64 p] (.tup [ballR x x,.int .i64 0]):=by
 have o:=ref4_Of (RatA_rv zx);clear zx;refine fni Tryz.f15 ?_;unfold Tryz.f15;repeat (first|simp only[go_sem]|simp (disch:=first|exact omg|fail) only[AX]|refine wki ?_|refine vpd 6 [] ?_|refine vpd 11 [] ?_|refine vpd 13 [] ?_|refine vfa ?_)
theorem P_fis (hp:(p<=0/\P=0)\/p=(P:Int)) (hP:P<=200) (st:Go.Ev.Fn CX 48 [testV 5 (.sl X xs) (.sl Y ys) (.sl tn tc) sm nm dm ss ns ds k n] (.tup [rv s,.sl 2 [.int .i64 (d:Int),.int .i64 (f:Int)],.int .i64 0]))
  (f1:Go.Ev.Fn CX 49 [dF (d:Int) (f:Int),rv s,.int .i64 (P:Int)] (.tup [ballR l h,.int .i64 0])) :
  Go.Ev.Fn CX 14 [testV 5 (.sl X xs) (.sl Y ys) (.sl tn tc) sm nm dm ss ns ds k n,.int .i64 p] (.tup [ballR l h,.int .i64 0]):=by
 have x1:(if (0:Int)>p then (0:Int) else p)=(P:Int):=by split<;>omega
 have x2:(if (200:Int)<(P:Int) then (200:Int) else (P:Int))=(P:Int):=if_neg (by omega);clear hp;refine fni Tryz.f14 ?_;unfold Tryz.f14;repeat (first|simp only[go_sem,x1,x2]|simp (disch:=first|exact omg|fail) only[AX,x1,x2]|refine wki ?_|refine vpd 9 [] ?_|refine vpd 11 [] ?_|refine vpd 14 [] ?_|refine vfa ?_)
theorem refP_fis (st:Go.Ev.Fn CX 55 [testV 5 (.sl X xs) (.sl Y ys) (.sl tn tc) sm nm dm ss ns ds k n] (.tup [rv s,.sl 2 [.int .i64 (d:Int),.int .i64 (f:Int)],.int .i64 0]))
  (f1:Go.Ev.Fn CX 61 [dF (d:Int) (f:Int),rv s,.int .i64 p] (.tup [ballR l h,.int .i64 0])) :
  Go.Ev.Fn CX 15 [testV 5 (.sl X xs) (.sl Y ys) (.sl tn tc) sm nm dm ss ns ds k n,.int .i64 p] (.tup [ballR l h,.int .i64 0]):=by
 have c:=ref19_chi 5;rw[decide_eq_false (by omega)]at c;refine fni Tryz.f15 ?_;unfold Tryz.f15;repeat (first|simp only[go_sem]|simp (disch:=first|exact omg|fail) only[AX]|refine wki ?_|refine vpd 6 [] ?_|refine vpd 11 [] ?_|refine vpd 13 [] ?_|refine vfa ?_)
theorem P_chi (hp:(p<=0/\P=0)\/p=(P:Int)) (hP:P<=200) (hk:kind=1\/kind=6\/kind=7) (zs:szR s 200) (st:Go.Ev.Fn CX 48 [testV kind (.sl X xs) (.sl Y ys) (.sl tn tc) sm nm dm ss ns ds k n] (.tup [rv s,.sl 1 [.int .i64 (d:Int)],.int .i64 0]))
  (f1:Go.Ev.Fn CX 51 [.int .i64 (d:Int),rv (s/2),.int .i64 (P:Int)] (.tup [ballR l h,.bool true])) :
  Go.Ev.Fn CX 14 [testV kind (.sl X xs) (.sl Y ys) (.sl tn tc) sm nm dm ss ns ds k n,.int .i64 p] (.tup [ballR l h,.int .i64 0]):=by
 have x1:(if (0:Int)>p then (0:Int) else p)=(P:Int):=by split<;>omega
 have x2:(if (200:Int)<(P:Int) then (200:Int) else (P:Int))=(P:Int):=if_neg (by omega);have c:=test_isChi kind;rw[decide_eq_true hk]at c;have r2:=rat_Int 2;have ov:=test_over (RatA_rv zs) (RatA_rv (int_szR (n:=2)));rw[show ((2:Int):Rat)=2 from rfl]at r2 ov;clear zs hp;generalize s/2=y at *
 generalize (2:Rat)=two at *
 refine fni Tryz.f14 ?_;unfold Tryz.f14;repeat (first|simp only[go_sem,x1,x2]|simp (disch:=first|exact omg|fail) only[AX,x1,x2]|refine wki ?_|refine vpd 9 [] ?_|refine vpd 11 [] ?_|refine vpd 14 [] ?_|refine vfa ?_)
theorem refP_chi (hk:kind=1\/kind=6\/kind=7) (zs:szR s 200) (st:Go.Ev.Fn CX 55 [testV kind (.sl X xs) (.sl Y ys) (.sl tn tc) sm nm dm ss ns ds k n] (.tup [rv s,.sl 1 [.int .i64 (d:Int)],.int .i64 0]))
  (f1:Go.Ev.Fn CX 59 [.int .i64 (d:Int),rv (s/2),.int .i64 p] (.tup [ballR l h,.bool true])) :
  Go.Ev.Fn CX 15 [testV kind (.sl X xs) (.sl Y ys) (.sl tn tc) sm nm dm ss ns ds k n,.int .i64 p] (.tup [ballR l h,.int .i64 0]):=by
 have c:=ref19_chi kind;rw[decide_eq_true hk]at c;have r2:=ref2_Int 2;have ov:=ref19_by (RatA_rv zs) (RatA_rv (int_szR (n:=2)));rw[show ((2:Int):Rat)=2 from rfl]at r2 ov;clear zs;generalize s/2=y at *
 generalize (2:Rat)=two at *
 refine fni Tryz.f15 ?_;unfold Tryz.f15;repeat (first|simp only[go_sem]|simp (disch:=first|exact omg|fail) only[AX]|refine wki ?_|refine vpd 6 [] ?_|refine vpd 11 [] ?_|refine vpd 13 [] ?_|refine vfa ?_)
theorem P_stu (hp:(p<=0/\P=0)\/p=(P:Int)) (hP:P<=200) (hk:kind=2\/kind=3\/kind=4) (hd:d<=256) (zs:szR s 236) (st:Go.Ev.Fn CX 48 [testV kind (.sl X xs) (.sl Y ys) (.sl tn tc) sm nm dm ss ns ds k n] (.tup [rv s,.sl 1 [.int .i64 (d:Int)],.int .i64 0]))
  (f1:Go.Ev.Fn CX 53 [.int .i64 (d:Int),.int .i64 1,rv (stY (d:Int) s),.int .i64 (P:Int)] (.tup [ballR l h,.bool true])) :
  Go.Ev.Fn CX 14 [testV kind (.sl X xs) (.sl Y ys) (.sl tn tc) sm nm dm ss ns ds k n,.int .i64 p] (.tup [ballR l h,.int .i64 0]):=by
 have x1:(if (0:Int)>p then (0:Int) else p)=(P:Int):=by split<;>omega
 have x2:(if (200:Int)<(P:Int) then (200:Int) else (P:Int))=(P:Int):=if_neg (by omega);have c:=test_isChi kind;rw[decide_eq_false (by omega)]at c;have i:=int_szR (n:=(d:Int));have rn:=rat_Int (d:Int);have ad:=rat_Add (RatA_rv i) (RatA_rv zs);have ov:=test_over (RatA_rv i) (RatA_rv (szR_add i zs));unfold stY at f1;clear zs i hp;generalize ((d:Int):Rat)/(((d:Int):Rat)+s)=y at *
 generalize ((d:Int):Rat)+s=y2 at *
 refine fni Tryz.f14 ?_;unfold Tryz.f14;repeat (first|simp only[go_sem,x1,x2]|simp (disch:=first|exact omg|fail) only[AX,x1,x2]|refine wki ?_|refine vpd 9 [] ?_|refine vpd 11 [] ?_|refine vpd 14 [] ?_|refine vfa ?_)
theorem refP_stu (hk:kind=2\/kind=3\/kind=4) (hd:d<=256) (zs:szR s 236) (st:Go.Ev.Fn CX 55 [testV kind (.sl X xs) (.sl Y ys) (.sl tn tc) sm nm dm ss ns ds k n] (.tup [rv s,.sl 1 [.int .i64 (d:Int)],.int .i64 0]))
  (f1:Go.Ev.Fn CX 62 [.int .i64 (d:Int),.int .i64 1,rv (stY (d:Int) s),.int .i64 p] (.tup [ballR l h,.bool true])) :
  Go.Ev.Fn CX 15 [testV kind (.sl X xs) (.sl Y ys) (.sl tn tc) sm nm dm ss ns ds k n,.int .i64 p] (.tup [ballR l h,.int .i64 0]):=by
 have c:=ref19_chi kind;rw[decide_eq_false (by omega)]at c;have i:=int_szR (n:=(d:Int));have rn:=ref2_Int (d:Int);have ad:=ref2_Add (RatA_rv i) (RatA_rv zs);have ov:=ref19_by (RatA_rv i) (RatA_rv (szR_add i zs));unfold stY at f1;clear zs i;generalize ((d:Int):Rat)/(((d:Int):Rat)+s)=y at *
 generalize ((d:Int):Rat)+s=y2 at *
 refine fni Tryz.f15 ?_;unfold Tryz.f15;repeat (first|simp only[go_sem]|simp (disch:=first|exact omg|fail) only[AX]|refine wki ?_|refine vpd 6 [] ?_|refine vpd 11 [] ?_|refine vpd 13 [] ?_|refine vfa ?_)
end
end Go.Proofs.YtfknkoeagjonbaaGreat
namespace Go.Proofs.YtfknkoeagjonbaaGreat
open Go.Ev
theorem ts_test:fieldTs Tryz.prog 41=[3,38,38,39,24,24,3,3]:=by kernel_rfl
theorem len_eight {α:Type} {l:List α} (h:l.length=8) : ∃a b c d e f g i,l=[a,b,c,d,e,f,g,i]:=by
 match l,h with
 | [a,b,c,d,e,f,g,i],_=>exact⟨a,b,c,d,e,f,g,i,rfl⟩
theorem shp_test {n:Nat} {ss:List SV} (h:ShpT Tryz.prog (n+6) 41 ss) : ∃ (kind:Int) (xs ys:List InR) (ts:List (List InR)) (sm:Bool) (nm dm:List Nat) (s:Bool) (ns ds:List Nat) (k m:Int),
  SV.agg ss=testV kind (rowV xs) (rowV ys) (.sl ts.length (ts.map rowV)) sm nm dm s ns ds k m/\(Lit.int .i64 k).wf=true/\(Lit.int .i64 m).wf=true/\xs.length<=maxLen/\ys.length<=maxLen/\ts.length<=maxLen/\(∀p∈xs,p.ok)/\(∀p∈ys,p.ok)/\(∀ps∈ts,ps.length<=maxLen /\ ∀p∈ps,p.ok)/\okL nm/\okL dm/\okL ns/\okL ds:=by
 obtain⟨parts,rfl,hl,hp⟩:=shp_struct ts_test (by simp) h;obtain⟨a,b,c,d,e,f,g,i,rfl⟩:=len_eight hl;obtain⟨kind,rfl,w0⟩:=shp_int (hp 0 _ a rfl rfl);obtain⟨xs,rfl,x1,x2⟩:=shp_rats (n:=n+1) (hp 1 _ b rfl rfl);obtain⟨ys,rfl,y1,y2⟩:=shp_rats (n:=n+1) (hp 2 _ c rfl rfl);obtain⟨ts,rfl,t1,t2⟩:=shp_tabs (n:=n) (hp 3 _ d rfl rfl);obtain⟨sm,nm,dm,rfl,m1,m2,-,-⟩:=shp_rat (n:=n+2) (hp 4 _ e rfl rfl);obtain⟨s,ns,ds,rfl,s1,s2,-,-⟩:=shp_rat (n:=n+2) (hp 5 _ f rfl rfl);obtain⟨k,rfl,w6⟩:=shp_int (hp 6 _ g rfl rfl);obtain⟨m,rfl,w7⟩:=shp_int (hp 7 _ i rfl rfl)
 exact⟨kind,xs,ys,ts,sm,nm,dm,s,ns,ds,k,m,rfl,w6,w7,x1,y1,t1,x2,y2,t2,m1,m2,s1,s2⟩
theorem wf_int64' {n:Int} (h:(Lit.int .i64 n).wf=true) : -9223372036854775808<=n/\n<9223372036854775808:=by
 have h':decide (IntKind.i64.min<=n/\n<=IntKind.i64.max)=true:=by simpa[Lit.wf]using h
 have:=of_decide_eq_true h';simp only[show IntKind.i64.min = -9223372036854775808 from rfl,show IntKind.i64.max=9223372036854775807 from rfl]at this;omega
section
variable {kind k n:Int} {X' Y:Nat} {xs ys cs:List SV} {sm ss:Bool} {nm dm ns ds:List Nat} {T X:List (List Rat)}
end
theorem raw_szd {cs:List SV} {kind k n:Int} {l m:List Rat} {T:List (List Rat)} {mu sg:Rat} (hl : ∀x∈l,szR x 1) (hm : ∀x∈m,szR x 1) (hl12:l.length<=12) (hm12:m.length<=12) (hT:TabC cs T 1) (hn:T.length<=4) (hTl : ∀r∈T,r.length<=4) (hmu:szR mu 1) (hsg:szR sg 1)
  (bk : -9223372036854775808<=k/\k<9223372036854775808):szR (rawR kind l m T mu sg k n).1 1000000/\(rawR kind l m T mu sg k n).2.1.length<=1000:=by
 have h10 : ∀x∈l,szR x 10:=fun x hx=>szR_mono (hl x hx)
 have m10 : ∀x∈m,szR x 10:=fun x hx=>szR_mono (hm x hx)
 have z0:szR 0 1000000:=szR_zero;unfold rawR;split
 ·unfold zR;split
  ·exact⟨z0,by simp⟩
  split
  ·exact⟨z0,by simp⟩
  have zd:=szR_sub (sz_mean (by omega) hl hl12) hmu;exact⟨szR_mono (szR_div (szR_mul (int_szR (n:=(l.length:Int))) (szR_mul zd zd)) (szR_mul hsg hsg)),by simp⟩
 split
 ·exact⟨sz_stu h10 (szR_mono hmu) hl12,deg_stu⟩
 split
 ·split
  ·exact⟨z0,by simp⟩
  ·refine⟨sz_stu (fun x hx => ?_) (szR_zero) (by rw[zG];omega),deg_stu⟩;obtain⟨i,hi,rfl⟩:=zC hx;rw[zO];exact szR_mono (szR_sub (hl _ (yQ _)) (hm _ (yQ _)))
 split
 ·exact⟨sz_pool h10 m10 hl12 hm12,deg_pool⟩
 split
 ·exact⟨sz_fis h10 m10 hl12 hm12,deg_fis⟩
 split
 ·unfold fitR;split
  ·exact⟨z0,by simp⟩
  split
  ·exact⟨z0,by simp⟩
  split
  ·exact⟨z0,by simp⟩
  have zo:=szR_div (sz_sum12 (by omega) hl hl12) (sz_sum12 (by omega) hm hm12);have hwz : ∀x∈wantR l m,szR x 400:=by
   intro x hx;obtain⟨y,hy,rfl⟩:=yv.1 hx;exact szR_mono (szR_mul zo (hm y hy))
  rename_i c1 c2 c3;have hlm:l.length=m.length:=by omega
  exact⟨szR_mono (miss_sz hl hwz hl12 (by rw[want_len];exact hlm)),by simp⟩
 split
 ·unfold tabR;split
  ·exact⟨z0,by simp⟩
  ·rename_i c;have he:(expR T).2=0:=by omega
   obtain⟨g1,g2⟩:=expR_sums he;have fz:=flat_sz (tab_szall (by omega) hT) (expR_sz hT hn hTl) g1 hTl (fun i hi=>(g2 i hi).1);exact⟨szR_mono (sz_sum12 (by omega) fz (by rw[flat_len g1];omega)),by simp⟩
 split
 ·unfold binR;split
  ·exact⟨szR_mono (int_szR),by simp⟩
  ·exact⟨z0,by simp⟩
 exact⟨z0,by simp⟩
end Go.Proofs.YtfknkoeagjonbaaGreat
namespace Go.Proofs.YtfknkoeagjonbaaGreat
open Go.Ev
theorem statR_cases (kind:Int) (r:Res):(∃e:Int,e≠0/\statR kind r=(0,[],e))\/(r.2.2=0/\statR kind r=(r.1,r.2.1,0)/\((kind=1\/kind=6\/kind=7)->r.1<=128)):=by
 unfold statR;by_cases c1:r.2.2≠0
 ·rw[if_pos c1];exact .inl ⟨_,c1,rfl⟩
 rw[if_neg c1];by_cases c2:r.2.1.any (fun d=>decide (256<d))=true
 ·rw[if_pos c2];exact .inl ⟨_,by decide,rfl⟩
 rw[if_neg c2];by_cases c3:(kind=1\/kind=6\/kind=7)/\128<r.1
 ·rw[if_pos c3];exact .inl ⟨_,by decide,rfl⟩
 rw[if_neg c3];exact .inr ⟨by omega,rfl,fun h=>zf.1 fun g=>c3 ⟨h,g⟩⟩
def Says (kind k n:Int) (tv mu:SV) (p:Int) (P D:Nat):Prop:=
 (∃e:Int,e≠0/\Go.Ev.Fn CX 14 [tv,.int .i64 p] (.tup [ballZ,.int .i64 e])/\Go.Ev.Fn CX 15 [tv,.int .i64 (D:Int)] (.tup [ballR 0 0,.int .i64 e])/\Go.Ev.Fn CX 16 [tv] (.tup [rv 0,.bool false])) \/
 (∃x,kind=8/\szR x 100000/\Go.Ev.Fn CX 14 [tv,.int .i64 p] (.tup [ballR x x,.int .i64 0])/\Go.Ev.Fn CX 15 [tv,.int .i64 (D:Int)] (.tup [ballR x x,.int .i64 0])/\Go.Ev.Fn CX 16 [tv] (.tup [rv x,.bool true]) /\
  Go.Ev.Fn CX 17 [.int .i64 n,.int .i64 k,mu] (.tup [rv x,.bool true])) \/
 (∃l h c d,kind≠8/\Go.Ev.Fn CX 14 [tv,.int .i64 p] (.tup [ballR l h,.int .i64 0])/\Go.Ev.Fn CX 15 [tv,.int .i64 (D:Int)] (.tup [ballR c d,.int .i64 0])/\Go.Ev.Fn CX 16 [tv] (.tup [rv 0,.bool false]) /\
  szR l 1202/\szR h 1202/\szR c 1202/\szR d 1202/\Meet P l h c d)
section
variable {kind k n p:Int} {X Y tn P D d:Nat} {xs ys tc:List SV} {sm ss:Bool} {nm dm ns ds:List Nat} {s:Rat}
theorem says_chi (hk:kind=1\/kind=6\/kind=7) (d1:1<=d) (d2:d<=20) (zs:szR s 200) (s0:0<=s) (s1:s<=128) (hp:(p<=0/\P=0)\/p=(P:Int)) (hP:P<=96) (hD:20<=D) (hD2:D<=110)
  (q1:Go.Ev.Fn CX 48 [testV kind (.sl X xs) (.sl Y ys) (.sl tn tc) sm nm dm ss ns ds k n] (.tup [rv s,.sl 1 [.int .i64 (d:Int)],.int .i64 0]))
  (q2:Go.Ev.Fn CX 55 [testV kind (.sl X xs) (.sl Y ys) (.sl tn tc) sm nm dm ss ns ds k n] (.tup [rv s,.sl 1 [.int .i64 (d:Int)],.int .i64 0])) :
  Says kind k n (testV kind (.sl X xs) (.sl Y ys) (.sl tn tc) sm nm dm ss ns ds k n) (ratV sm nm dm) p P D:=by
 have z2:szR (2:Rat) 2:=int_szR (n:=2);have h2:s/2*2=s:=yD (by decide);obtain⟨u,v,c,w,g1,g2,z1,z2,z3,z4,mt⟩:=gam_two (n:=d) (P:=P) (D:=D) (x:=s/2) (szR_mono (szR_div zs z2)) (by grind) (by grind) d1 (by omega) hP hD2;exact .inr (.inr ⟨u,v,c,w,by omega,P_chi hp (by omega) hk zs q1 g1,refP_chi hk zs q2 g2,Exact_no (X':=1) (.inr (by omega)) q1,z1,z2,z3,z4,mt⟩)
theorem says_stu (hk:kind=2\/kind=3\/kind=4) (d1:1<=d) (d2:d<=22) (zs:szR s 236) (s0:0<=s) (hp:(p<=0/\P=0)\/p=(P:Int)) (hP:P<=200) (hD:20<=D) (hD2:D<=110)
  (q1:Go.Ev.Fn CX 48 [testV kind (.sl X xs) (.sl Y ys) (.sl tn tc) sm nm dm ss ns ds k n] (.tup [rv s,.sl 1 [.int .i64 (d:Int)],.int .i64 0]))
  (q2:Go.Ev.Fn CX 55 [testV kind (.sl X xs) (.sl Y ys) (.sl tn tc) sm nm dm ss ns ds k n] (.tup [rv s,.sl 1 [.int .i64 (d:Int)],.int .i64 0])) :
  Says kind k n (testV kind (.sl X xs) (.sl Y ys) (.sl tn tc) sm nm dm ss ns ds k n) (ratV sm nm dm) p P D:=by
 obtain⟨a1,a2,a3,a4⟩:=stY_at (n:=(d:Int)) (s:=s) (by omega) s0;have y1:stY (d:Int) s<=1:=by
  by_cases e:s=0
  ·rw[a3 e];exact xi
  ·exact xX (a4 (by grind))
 obtain⟨u,v,c,w,g1,g2,z1,z2,z3,z4,mt⟩:=beta_two (a:=d) (b:=1) (P:=P) (D:=D) (szR_mono (stY_sz (n:=(d:Int)) (by omega) zs)) d1 d2 (by omega) (by omega) hP hD hD2 a1 y1;exact .inr (.inr ⟨u,v,c,w,by omega,P_stu hp hP hk (by omega) zs q1 g1,refP_stu hk (by omega) zs q2 g2,Exact_no (X':=1) (.inr (by omega)) q1,szR_mono z1,szR_mono z2,szR_mono z3,szR_mono z4,mt⟩)
end
section
variable {kind k n p:Int} {P D:Nat} {xs ys tc:List SV} {sm ss:Bool} {nm dm ns ds:List Nat} {l m:List Rat} {T:List (List Rat)} {mu sg:Rat}
theorem says_any (h:RowC xs l 1) (h2:RowC ys m 1) (hl:l.length<=12) (hm:m.length<=12) (hT:TabC tc T 1) (hn:T.length<=4) (hTl : ∀r∈T,r.length<=4) (hmu:RatA (ratV sm nm dm) mu 1) (hsg:RatA (ratV ss ns ds) sg 1)
  (bn : -9223372036854775808<=n/\n<9223372036854775808) (bk : -9223372036854775808<=k/\k<9223372036854775808) (hp:(p<=0/\P=0)\/p=(P:Int)) (hP:P<=96) (hD:20<=D) (hD2:D<=110) :
  Says kind k n (testV kind (.sl l.length xs) (.sl m.length ys) (.sl T.length tc) sm nm dm ss ns ds k n) (ratV sm nm dm) p P D:=by
 have r1:=test_raw (kind:=kind) (k:=k) (n:=n) h h2 hl hm hT hn hTl hmu hsg bn bk;have r2:=ref19_raw (kind:=kind) (k:=k) (n:=n) h h2 hl hm hT hn hTl hmu hsg bn bk;have zl:=row_sz (by omega) h;have zm:=row_sz (by omega) h2;have zT:=tab_szall (by omega) hT;have zmu:=szR_of hmu;have zsg:=szR_of hsg;obtain⟨zr,dr⟩:=raw_szd (kind:=kind) (k:=k) (n:=n) zl zm hl hm hT hn hTl zmu zsg bk;have q1:=test_Statistic r1 zr dr;have q2:=ref19_Statistic r2 zr dr;rcases statR_cases kind (rawR kind l m T mu sg k n) with⟨e,he,hs⟩|⟨he,hs,h128⟩
 ·rw[hs]at q1 q2;exact .inl ⟨e,he,P_no (X':=0) (dg:=[]) he q1,refP_no (X':=0) (dg:=[]) he q2,Exact_no (X':=0) (dg:=[]) (.inl he) q1⟩
 rw[hs]at q1 q2;clear hs r1 r2 zr dr;by_cases c1:kind=1
 ·subst c1;have er:rawR 1 l m T mu sg k n=zR l mu sg:=by unfold rawR;rw[if_pos rfl]
  rw[er]at q1 q2 he h128;obtain⟨d,d1,d2,ed,zs,s0⟩:=z_facts zl zmu zsg hl he;have g:=h128 (.inl rfl);generalize zR l mu sg=r at *
  obtain⟨s,dg,e⟩:=r;simp only at ed zs s0 g q1 q2;subst ed;exact says_chi (.inl rfl) d1 d2 zs s0 g hp hP hD hD2 q1 q2
 by_cases c2:kind=2
 ·subst c2;have er:rawR 2 l m T mu sg k n=stuR l mu:=by unfold rawR;rw[if_neg (by omega),if_pos rfl]
  rw[er]at q1 q2 he h128;obtain⟨d,d1,d2,ed,zs,s0⟩:=stu_facts (L:=1) (by omega) zl zmu hl he;generalize stuR l mu=r at *
  obtain⟨s,dg,e⟩:=r;simp only at ed zs s0 q1 q2;subst ed;exact says_stu (.inl rfl) d1 (by omega) zs s0 hp (by omega) hD hD2 q1 q2
 by_cases c3:kind=3
 ·subst c3;have er:rawR 3 l m T mu sg k n=(if l.length≠m.length then ((0:Rat),([]:List Int),(1:Int)) else stuR (List.zipWith (fun a b=>a-b) l m) 0):=by unfold rawR;rw[if_neg (by omega),if_neg (by omega),if_pos rfl]
  rw[er]at q1 q2 he h128;by_cases c:l.length≠m.length
  ·rw[if_pos c]at he;cases he
  rw[if_neg c]at q1 q2 he;obtain⟨d,d1,d2,ed,zs,s0⟩:=stu_facts (L:=3) (l:=List.zipWith (fun a b=>a-b) l m) (by omega) (fun x hx=>by
   obtain⟨i,hi,rfl⟩:=zC hx;rw[zO];exact szR_mono (szR_sub (zl _ (yQ _)) (zm _ (yQ _)))) (szR_zero) (by rw[zG];omega) he
  generalize stuR (List.zipWith (fun a b=>a-b) l m) 0=r at *
  obtain⟨s,dg,e⟩:=r;simp only at ed zs s0 q1 q2;subst ed;exact says_stu (.inr (.inl rfl)) d1 (by omega) zs s0 hp (by omega) hD hD2 q1 q2
 by_cases c4:kind=4
 ·subst c4;have er:rawR 4 l m T mu sg k n=poolR l m:=by unfold rawR;rw[if_neg (by omega),if_neg (by omega),if_neg (by omega),if_pos rfl]
  rw[er]at q1 q2 he h128;obtain⟨d,d1,d2,ed,zs,s0⟩:=pool_facts zl zm hl hm he;generalize poolR l m=r at *
  obtain⟨s,dg,e⟩:=r;simp only at ed zs s0 q1 q2;subst ed;exact says_stu (.inr (.inr rfl)) d1 (by omega) zs s0 hp (by omega) hD hD2 q1 q2
 by_cases c5:kind=5
 ·subst c5;have er:rawR 5 l m T mu sg k n=fisR l m:=by unfold rawR;rw[if_neg (by omega),if_neg (by omega),if_neg (by omega),if_neg (by omega),if_pos rfl]
  rw[er]at q1 q2 he h128;obtain⟨d,f,d1,d2,f1,f2,ed,zs,s0⟩:=fis_facts zl zm hl hm he;generalize fisR l m=r at *
  obtain⟨s,dg,e⟩:=r;simp only at ed zs s0 q1 q2;subst ed;obtain⟨u,v,c,w,g1,g2,z1,z2,z3,z4,mt⟩:=fis_two (P:=P) (D:=D) zs s0 ⟨d1,by omega⟩ ⟨f1,by omega⟩ (by omega) hD hD2;exact .inr (.inr ⟨u,v,c,w,by omega,P_fis hp (by omega) q1 g1,refP_fis q2 g2,Exact_no (X':=2) (.inr (by omega)) q1,z1,z2,z3,z4,mt⟩)
 by_cases c6:kind=6
 ·subst c6;have er:rawR 6 l m T mu sg k n=fitR l m:=by unfold rawR;rw[if_neg (by omega),if_neg (by omega),if_neg (by omega),if_neg (by omega),if_neg (by omega),if_pos rfl]
  rw[er]at q1 q2 he h128;obtain⟨d,d1,d2,ed,zs,s0⟩:=fit_facts zl zm hl hm he;have g:=h128 (.inr (.inl rfl));generalize fitR l m=r at *
  obtain⟨s,dg,e⟩:=r;simp only at ed zs s0 g q1 q2;subst ed;exact says_chi (.inr (.inl rfl)) d1 d2 zs s0 g hp hP hD hD2 q1 q2
 by_cases c7:kind=7
 ·subst c7;have er:rawR 7 l m T mu sg k n=tabR T:=by unfold rawR;rw[if_neg (by omega),if_neg (by omega),if_neg (by omega),if_neg (by omega),if_neg (by omega),if_neg (by omega),if_pos rfl]
  rw[er]at q1 q2 he h128;obtain⟨d,d1,d2,ed,zs,s0⟩:=tab_facts zT hn hTl he;have g:=h128 (.inr (.inr rfl));generalize tabR T=r at *
  obtain⟨s,dg,e⟩:=r;simp only at ed zs s0 g q1 q2;subst ed;exact says_chi (.inr (.inr rfl)) d1 d2 zs s0 g hp hP hD hD2 q1 q2
 by_cases c8:kind=8
 ·subst c8;have er:rawR 8 l m T mu sg k n=binR n k mu:=by unfold rawR;rw[if_neg (by omega),if_neg (by omega),if_neg (by omega),if_neg (by omega),if_neg (by omega),if_neg (by omega),if_neg (by omega),if_pos rfl]
  rw[er]at q1 q2 he;have b1:=disc_BinomTwoE (n:=n) (k:=k) hmu (by omega) (by omega) bn bk;have b2:=ref13_BinomTwoE (n:=n) (k:=k) hmu (by omega) (by omega) bn bk;have zb:=binT_sz (n:=n) (k:=k) zmu;unfold binR at q1 q2 he;by_cases c:twoD n k mu=true
  ·rw[if_pos c]at q1 q2;rw[c]at b1 b2;have ex:=Exact_yes (X':=1) q1 b1;exact .inr (.inl ⟨_,rfl,zb,P_bin (X':=1) hp (by omega) zb q1 ex,refP_bin (X':=1) zb q2 b2,ex,b2⟩)
  ·rw[if_neg c]at he;cases he
 ·have er:rawR kind l m T mu sg k n=(0,[],1):=by unfold rawR;rw[if_neg c1,if_neg c2,if_neg c3,if_neg c4,if_neg c5,if_neg c6,if_neg c7,if_neg c8]
  rw[er]at he;cases he
end
set_option maxRecDepth 100000 in
theorem says_all (ss0:List SV) (sh0:ShpT Tryz.prog 8 41 ss0) : ∃ (kind k n:Int) (X Y tn:Nat) (xs ys tc:List SV) (sm ss:Bool) (nm dm ns ds:List Nat),
  SV.agg ss0=testV kind (.sl X xs) (.sl Y ys) (.sl tn tc) sm nm dm ss ns ds k n/\(Go.Ev.Fn CX 13 [testV kind (.sl X xs) (.sl Y ys) (.sl tn tc) sm nm dm ss ns ds k n] (.bool true)\/(Go.Ev.Fn CX 13 [testV kind (.sl X xs) (.sl Y ys) (.sl tn tc) sm nm dm ss ns ds k n] (.bool false) /\
   ∀ (p:Int) (P D:Nat),((p<=0/\P=0)\/p=(P:Int))->P<=96->20<=D->D<=110->Says kind k n (testV kind (.sl X xs) (.sl Y ys) (.sl tn tc) sm nm dm ss ns ds k n) (.agg [.bool sm,natV nm,natV dm]) p P D)):=by
 obtain⟨kind,xs,ys,ts,sm,nm,dm,s,ns,ds,k,n,e,w6,w7,x1,y1,t1,x2,y2,t2,m1,m2,s1,s2⟩:=shp_test (n:=2) sh0;have bk:=wf_int64' w6;have bn:=wf_int64' w7;have hL:=law19_large (kind:=kind) (k:=k) (sm:=sm) (nm:=nm) (dm:=dm) (ss:=s) (ns:=ns) (ds:=ds) x1 y1 t1 (fun ps hp=>(t2 ps hp).1) bn;refine⟨kind,k,n,_,_,_,_,_,_,sm,s,nm,dm,ns,ds,e,?_⟩;cases hb:bigT xs ys (sm,nm,dm) (s,ns,ds) ts n;rotate_left
 ·rw[hb]at hL;exact .inl hL
 rw[hb]at hL;refine .inr ⟨hL,fun p P D hp hP hD hD2 => ?_⟩;obtain⟨b1,b2,b3,b4,-,b6⟩:=bigT_small hb;obtain⟨hX,hXl⟩:=bigR_row b1 x2;obtain⟨hY,hYl⟩:=bigR_row b2 y2;have b3s:=(bigR_small b3).2;have hM:RatA (ratV sm nm dm) (InR.q (sm,nm,dm)) 1:=⟨_,_,_,rfl,m1,m2,(b3s (sm,nm,dm) (by simp)).1,(b3s (sm,nm,dm) (by simp)).2,rfl⟩
 have hS:RatA (ratV s ns ds) (InR.q (s,ns,ds)) 1:=⟨_,_,_,rfl,s1,s2,(b3s (s,ns,ds) (by simp)).1,(b3s (s,ns,ds) (by simp)).2,rfl⟩
 obtain⟨hT,hTl⟩:=tabQ_small (fun ps hp=>(t2 ps hp).2) b6;have hTn:(tabQ ts).length<=4:=by rw[tabQ_len];exact b4
 have lx:(xs.map InR.q).length=xs.length:=xd _;have ly:(ys.map InR.q).length=ys.length:=xd _;have lt:=tabQ_len ts;have r:=says_any (kind:=kind) (k:=k) (n:=n) (p:=p) (P:=P) (D:=D) hX hY (by omega) (by omega) hT hTn hTl hM hS bn bk hp hP hD hD2;rw[lx,ly,lt]at r;exact r
end Go.Proofs.YtfknkoeagjonbaaGreat
namespace Go.Proofs.YtfknkoeagjonbaaGreat
open Go.Ev
def sideR (l h q:Rat):Int:=if h<q then -1 else if q<l then 1 else 0
theorem q_Side {l h q:Rat} {L M:Nat} (z1:szR l L) (z2:szR h L) (z3:szR q M) (hL:1<=L:=by omega) (hM:1<=M:=by omega) (hLM:L+M<=400000:=by omega):Go.Ev.Fn CX 71 [ballR l h,ballR q q] (.int .i64 (sideR l h q)):=by
 have c1:=rat_Cmp (RatA_rv z2) (RatA_rv z3) hL hM;have c2:=rat_Cmp (RatA_rv z1) (RatA_rv z3) hL hM;have e1:=cmpR_lt (q:=h) (r:=q);have e2:=cmpR_gt (q:=l) (r:=q);unfold sideR;by_cases h1:h<q
 ·rw[if_pos h1];rw[decide_eq_true h1]at e1;refine fni Tryz.f71 ?_;unfold Tryz.f71;repeat (first|simp only[go_sem,e1]|simp (disch:=first|exact omg|fail) only[AX,e1]|refine wki ?_|refine vfa ?_)
 ·rw[if_neg h1];rw[decide_eq_false h1]at e1;by_cases h2:q<l
  ·rw[if_pos h2];rw[decide_eq_true h2]at e2;refine fni Tryz.f71 ?_;unfold Tryz.f71;repeat (first|simp only[go_sem,e1,e2]|simp (disch:=first|exact omg|fail) only[AX,e1,e2]|refine wki ?_|refine vfa ?_)
  ·rw[if_neg h2];rw[decide_eq_false h2]at e2;refine fni Tryz.f71 ?_;unfold Tryz.f71;repeat (first|simp only[go_sem,e1,e2]|simp (disch:=first|exact omg|fail) only[AX,e1,e2]|refine wki ?_|refine vfa ?_)
end Go.Proofs.YtfknkoeagjonbaaGreat
namespace Go.Proofs.YtfknkoeagjonbaaGreat
open Go.Ev
section
variable {kind k n p e:Int} {X Y tn P:Nat} {xs ys tc:List SV} {sm ss sa:Bool} {nm dm ns ds na da:List Nat} {x l h c d al:Rat}
theorem decides_out (hp : -9223372036854775808<=p/\p<9223372036854775808) (ln:na.length<=9223372036854775807) (ld:da.length<=9223372036854775807) {b:Bool} (hL:Go.Ev.Fn CX 13 [testV kind (.sl X xs) (.sl Y ys) (.sl tn tc) sm nm dm ss ns ds k n] (.bool b)) (ho:b=true\/1<na.length\/1<da.length\/50<p) :
  Go.Ev.Fn CX 5 [testV kind (.sl X xs) (.sl Y ys) (.sl tn tc) sm nm dm ss ns ds k n,ratV sa na da,.int .i64 p] (.bool true):=by
 cases b
 ·by_cases c1:1<na.length
  ·clear ho;refine fni Tryz.f5 ?_;unfold Tryz.f5;repeat (first|simp only[go_sem]|simp (disch:=first|exact omg|fail) only[AX]|refine wki ?_|refine vpd 4 [] ?_|refine vpd 18 [] ?_|refine vfa ?_)
  by_cases c2:1<da.length
  ·clear ho;refine fni Tryz.f5 ?_;unfold Tryz.f5;repeat (first|simp only[go_sem]|simp (disch:=first|exact omg|fail) only[AX]|refine wki ?_|refine vpd 4 [] ?_|refine vpd 18 [] ?_|refine vfa ?_)
  ·have c3:50<p:=by rcases ho with h|h|h|h;(cases h);omega;omega;omega
   clear ho;refine fni Tryz.f5 ?_;unfold Tryz.f5;repeat (first|simp only[go_sem]|simp (disch:=first|exact omg|fail) only[AX]|refine wki ?_|refine vpd 4 [] ?_|refine vpd 18 [] ?_|refine vfa ?_)
 ·clear ho;refine fni Tryz.f5 ?_;unfold Tryz.f5;repeat (first|simp only[go_sem]|simp (disch:=first|exact omg|fail) only[AX]|refine wki ?_|refine vpd 4 [] ?_|refine vpd 18 [] ?_|refine vfa ?_)
theorem decide_bad (ha:RatA (ratV sa na da) al 1) (hb:al<=0\/1<=al):Go.Ev.Fn CX 20 [testV kind (.sl X xs) (.sl Y ys) (.sl tn tc) sm nm dm ss ns ds k n,ratV sa na da,.int .i64 p] (.tup [.int .i64 0,.int .i64 4]):=by
 have i0:=rat_Int 0;have i1:=rat_Int 1;have c0:=rat_Cmp ha (RatA_rv (int_szR (n:=0)));have c1:=rat_Cmp ha (RatA_rv (int_szR (n:=1)));have e0:=cmpR_le (q:=al) (r:=((0:Int):Rat));have e1:=cmpR_ge (q:=al) (r:=((1:Int):Rat));have k0:((0:Int):Rat)=0:=rfl;have k1:((1:Int):Rat)=1:=rfl;rw[k0]at i0 c0 e0;rw[k1]at i1 c1 e1;clear ha k0 k1;generalize cmpR al 0=y0 at *
 generalize cmpR al 1=y1 at *
 by_cases h0:al<=0
 ·rw[decide_eq_true h0]at e0;clear hb h0;refine fni Tryz.f20 ?_;unfold Tryz.f20;repeat (first|simp only[go_sem,e0]|simp (disch:=first|exact omg|fail) only[AX,e0]|refine wki ?_|refine vpd 1 [] ?_|refine vpd 10 [] ?_|refine vfa ?_)
 ·rw[decide_eq_false h0]at e0;rw[decide_eq_true (hb.resolve_left h0)]at e1;clear hb h0;refine fni Tryz.f20 ?_;unfold Tryz.f20;repeat (first|simp only[go_sem,e0,e1]|simp (disch:=first|exact omg|fail) only[AX,e0,e1]|refine wki ?_|refine vpd 1 [] ?_|refine vpd 10 [] ?_|refine vfa ?_)
theorem alpha_in (ha:RatA (ratV sa na da) al 1) (h0:0<al) (h1:al<1) : ∃y0 y1:Int,decide (y0<=0)=false/\decide (y1>=0)=false /\
  Go.Ev.Fn CX 28 [ratV sa na da,rv 0] (.int .i64 y0)/\Go.Ev.Fn CX 28 [ratV sa na da,rv 1] (.int .i64 y1)/\Go.Ev.Fn CX 21 [ratV sa na da,rv 0] (.int .i64 y0)/\Go.Ev.Fn CX 21 [ratV sa na da,rv 1] (.int .i64 y1):=by
 have c0:=rat_Cmp ha (RatA_rv (int_szR (n:=0)));have c1:=rat_Cmp ha (RatA_rv (int_szR (n:=1)));have d0:=ref2_Cmp ha (RatA_rv (int_szR (n:=0)));have d1:=ref2_Cmp ha (RatA_rv (int_szR (n:=1)));have e0:=cmpR_le (q:=al) (r:=((0:Int):Rat));have e1:=cmpR_ge (q:=al) (r:=((1:Int):Rat));have k0:((0:Int):Rat)=0:=rfl;have k1:((1:Int):Rat)=1:=rfl;rw[k0]at c0 d0 e0;rw[k1]at c1 d1 e1;rw[decide_eq_false (Rat.not_le.2 h0)]at e0;rw[decide_eq_false (Rat.not_le.2 h1)]at e1;exact⟨_,_,e0,e1,c0,c1,d0,d1⟩
theorem zeroI:Go.Ev.Fn CX 29 [.int .i64 0] (rv 0)/\Go.Ev.Fn CX 29 [.int .i64 1] (rv 1)/\Go.Ev.Fn CX 22 [.int .i64 0] (rv 0)/\Go.Ev.Fn CX 22 [.int .i64 1] (rv 1):=by
 have i0:=rat_Int 0;have i1:=rat_Int 1;have j0:=ref2_Int 0;have j1:=ref2_Int 1;have k0:((0:Int):Rat)=0:=rfl;have k1:((1:Int):Rat)=1:=rfl;rw[k0]at i0 j0;rw[k1]at i1 j1;exact⟨i0,i1,j0,j1⟩
theorem decides_bad (hp : -9223372036854775808<=p/\p<=50) (ln:na.length<=1) (ld:da.length<=1) (ha:RatA (ratV sa na da) al 1) (hb:al<=0\/1<=al) (hL:Go.Ev.Fn CX 13 [testV kind (.sl X xs) (.sl Y ys) (.sl tn tc) sm nm dm ss ns ds k n] (.bool false)):Go.Ev.Fn CX 5 [testV kind (.sl X xs) (.sl Y ys) (.sl tn tc) sm nm dm ss ns ds k n,ratV sa na da,.int .i64 p] (.bool true):=by
 have dc:=decide_bad (kind:=kind) (X:=X) (Y:=Y) (tn:=tn) (xs:=xs) (ys:=ys) (tc:=tc) (sm:=sm) (nm:=nm) (dm:=dm) (ss:=ss) (ns:=ns) (ds:=ds) (k:=k) (n:=n) (p:=p) ha hb;obtain⟨-,-,i0,i1⟩:=zeroI;have c0:=ref2_Cmp ha (RatA_rv (int_szR (n:=0)));have c1:=ref2_Cmp ha (RatA_rv (int_szR (n:=1)));have e0:=cmpR_le (q:=al) (r:=((0:Int):Rat));have e1:=cmpR_ge (q:=al) (r:=((1:Int):Rat));have k0:((0:Int):Rat)=0:=rfl;have k1:((1:Int):Rat)=1:=rfl;rw[k0]at c0 e0;rw[k1]at c1 e1;clear ha k0 k1;generalize cmpR al 0=y0 at *
 generalize cmpR al 1=y1 at *
 by_cases h0:al<=0
 ·rw[decide_eq_true h0]at e0;clear hb h0;refine fni Tryz.f5 ?_;unfold Tryz.f5;repeat (first|simp only[go_sem,e0]|simp (disch:=first|exact omg|fail) only[AX,e0]|refine wki ?_|refine vpd 4 [] ?_|refine vpd 18 [] ?_|refine vf_of (by first|exact hL|exact dc|exact i0|exact c0|exact law19_known) ?_)
 ·rw[decide_eq_false h0]at e0;rw[decide_eq_true (hb.resolve_left h0)]at e1;clear hb h0;refine fni Tryz.f5 ?_;unfold Tryz.f5;repeat (first|simp only[go_sem,e0,e1]|simp (disch:=first|exact omg|fail) only[AX,e0,e1]|refine wki ?_|refine vpd 4 [] ?_|refine vpd 18 [] ?_|refine vf_of (by first|exact hL|exact dc|exact i0|exact c0|exact i1|exact c1|exact law19_known) ?_)
theorem decide_err (he:e≠0) (hP:P<=50) (x1:(if (0:Int)>p then (0:Int) else p)=(P:Int)) (ha:RatA (ratV sa na da) al 1) (h0:0<al) (h1:al<1) (f1:Go.Ev.Fn CX 14 [testV kind (.sl X xs) (.sl Y ys) (.sl tn tc) sm nm dm ss ns ds k n,.int .i64 ((P:Int)+2)] (.tup [ballZ,.int .i64 e])):Go.Ev.Fn CX 20 [testV kind (.sl X xs) (.sl Y ys) (.sl tn tc) sm nm dm ss ns ds k n,ratV sa na da,.int .i64 p] (.tup [.int .i64 0,.int .i64 e]):=by
 obtain⟨y0,y1,e0,e1,c0,c1,-,-⟩:=alpha_in ha h0 h1;obtain⟨i0,i1,-,-⟩:=zeroI;have x2:(if (100:Int)<(P:Int) then (100:Int) else (P:Int))=(P:Int):=if_neg (by omega);clear ha h0 h1;refine fni Tryz.f20 ?_;unfold Tryz.f20;repeat (first|simp only[go_sem,e0,e1,x1,x2]|simp (disch:=first|exact omg|fail) only[AX,e0,e1,x1,x2]|refine wki ?_|refine vpd 1 [] ?_|refine vpd 10 [] ?_|refine vfa ?_)
theorem decides_err (he:e≠0) (hP:P<=50) (hp : -9223372036854775808<=p/\p<=50) (x1:(if (0:Int)>p then (0:Int) else p)=(P:Int)) (ln:na.length<=1) (ld:da.length<=1) (ha:RatA (ratV sa na da) al 1) (h0:0<al) (h1:al<1) (hL:Go.Ev.Fn CX 13 [testV kind (.sl X xs) (.sl Y ys) (.sl tn tc) sm nm dm ss ns ds k n] (.bool false))
  (f1:Go.Ev.Fn CX 14 [testV kind (.sl X xs) (.sl Y ys) (.sl tn tc) sm nm dm ss ns ds k n,.int .i64 ((P:Int)+2)] (.tup [ballZ,.int .i64 e])) (f2:Go.Ev.Fn CX 15 [testV kind (.sl X xs) (.sl Y ys) (.sl tn tc) sm nm dm ss ns ds k n,.int .i64 ((P:Int)+40)] (.tup [ballR 0 0,.int .i64 e])):Go.Ev.Fn CX 5 [testV kind (.sl X xs) (.sl Y ys) (.sl tn tc) sm nm dm ss ns ds k n,ratV sa na da,.int .i64 p] (.bool true):=by
 have dc:=decide_err he hP x1 ha h0 h1 f1;obtain⟨y0,y1,e0,e1,-,-,c0,c1⟩:=alpha_in ha h0 h1;obtain⟨-,-,i0,i1⟩:=zeroI;clear ha h0 h1 f1;refine fni Tryz.f5 ?_;unfold Tryz.f5;repeat (first|simp only[go_sem,e0,e1,x1]|simp (disch:=first|exact omg|fail) only[AX,e0,e1,x1]|refine wki ?_|refine vpd 4 [] ?_|refine vpd 18 [] ?_|refine vf_of (by first|exact hL|exact dc|exact i0|exact c0|exact i1|exact c1|exact f2|exact law19_known) ?_)
set_option maxHeartbeats 1000000 in
theorem decide_bin (hP:P<=50) (x1:(if (0:Int)>p then (0:Int) else p)=(P:Int)) (ha:RatA (ratV sa na da) al 1) (h0:0<al) (h1:al<1) (zx:szR x 100000) (hk:kind=8) (f1:Go.Ev.Fn CX 14 [testV kind (.sl X xs) (.sl Y ys) (.sl tn tc) sm nm dm ss ns ds k n,.int .i64 ((P:Int)+2)] (.tup [ballR x x,.int .i64 0])) :
  Go.Ev.Fn CX 20 [testV kind (.sl X xs) (.sl Y ys) (.sl tn tc) sm nm dm ss ns ds k n,ratV sa na da,.int .i64 p] (.tup [.int .i64 (if x<=al then 1 else 2),.int .i64 0]):=by
 obtain⟨y0,y1,e0,e1,c0,c1,-,-⟩:=alpha_in ha h0 h1;obtain⟨i0,i1,-,-⟩:=zeroI;have x2:(if (100:Int)<(P:Int) then (100:Int) else (P:Int))=(P:Int):=if_neg (by omega);have c2:=rat_Cmp (RatA_rv zx) ha;have e2:=cmpR_le (q:=x) (r:=al);generalize cmpR x al=y2 at *
 clear ha h0 h1 zx;subst hk;by_cases g:x<=al
 ·rw[if_pos g];rw[decide_eq_true g]at e2;clear g;refine fni Tryz.f20 ?_;unfold Tryz.f20;repeat (first|simp only[go_sem,e0,e1,e2,x1,x2]|simp (disch:=first|exact omg|fail) only[AX,e0,e1,e2,x1,x2]|refine wki ?_|refine vpd 1 [] ?_|refine vpd 10 [] ?_|refine vfa ?_)
 ·rw[if_neg g];rw[decide_eq_false g]at e2;clear g;refine fni Tryz.f20 ?_;unfold Tryz.f20;repeat (first|simp only[go_sem,e0,e1,e2,x1,x2]|simp (disch:=first|exact omg|fail) only[AX,e0,e1,e2,x1,x2]|refine wki ?_|refine vpd 1 [] ?_|refine vpd 10 [] ?_|refine vfa ?_)
set_option maxHeartbeats 1000000 in
theorem decides_bin (hP:P<=50) (hp : -9223372036854775808<=p/\p<=50) (x1:(if (0:Int)>p then (0:Int) else p)=(P:Int)) (ln:na.length<=1) (ld:da.length<=1) (ha:RatA (ratV sa na da) al 1) (h0:0<al) (h1:al<1) (hL:Go.Ev.Fn CX 13 [testV kind (.sl X xs) (.sl Y ys) (.sl tn tc) sm nm dm ss ns ds k n] (.bool false)) (zx:szR x 100000) (hk:kind=8)
  (f1:Go.Ev.Fn CX 14 [testV kind (.sl X xs) (.sl Y ys) (.sl tn tc) sm nm dm ss ns ds k n,.int .i64 ((P:Int)+2)] (.tup [ballR x x,.int .i64 0])) (f2:Go.Ev.Fn CX 15 [testV kind (.sl X xs) (.sl Y ys) (.sl tn tc) sm nm dm ss ns ds k n,.int .i64 ((P:Int)+40)] (.tup [ballR x x,.int .i64 0])):Go.Ev.Fn CX 5 [testV kind (.sl X xs) (.sl Y ys) (.sl tn tc) sm nm dm ss ns ds k n,ratV sa na da,.int .i64 p] (.bool true):=by
 have dc:=decide_bin hP x1 ha h0 h1 zx hk f1;obtain⟨y0,y1,e0,e1,-,-,c0,c1⟩:=alpha_in ha h0 h1;obtain⟨-,-,i0,i1⟩:=zeroI;have bt:=ref4_Bit (p:=P);have c2:=ref2_Cmp (RatA_rv zx) ha;have e2:=cmpR_lt (q:=x) (r:=al);have e3:=cmpR_gt (q:=x) (r:=al);have sm':=ref2_Same (RatA_rv zx) ha;generalize cmpR x al=y2 at *
 generalize mkRat 1 (2^P)=u at *
 clear ha h0 h1 zx f1;subst hk;by_cases g:x<al
 ·rw[if_pos (xX g)]at dc;rw[decide_eq_true g]at e2;clear g e3 sm';refine fni Tryz.f5 ?_;unfold Tryz.f5;repeat (first|simp only[go_sem,e0,e1,e2,x1]|simp (disch:=first|exact omg|fail) only[AX,e0,e1,e2,x1]|refine wki ?_|refine vpd 4 [] ?_|refine vpd 18 [] ?_|refine vf_of (by first|exact hL|exact dc|exact i0|exact c0|exact i1|exact c1|exact f2|exact bt|exact c2|exact law19_known) ?_)
 rw[decide_eq_false g]at e2;by_cases g2:x=al
 ·rw[if_pos (by rw[g2];exact xi)]at dc;rw[decide_eq_true g2]at sm';clear g g2 e3;refine fni Tryz.f5 ?_;unfold Tryz.f5;repeat (first|simp only[go_sem,e0,e1,e2,x1]|simp (disch:=first|exact omg|fail) only[AX,e0,e1,e2,x1]|refine wki ?_|refine vpd 4 [] ?_|refine vpd 18 [] ?_|refine vf_of (by first|exact hL|exact dc|exact i0|exact c0|exact i1|exact c1|exact f2|exact bt|exact c2|exact sm'|exact law19_known) ?_)
 ·rw[if_neg (by grind)]at dc;rw[decide_eq_true (show al<x by grind)]at e3;clear g g2 e2 sm';refine fni Tryz.f5 ?_;unfold Tryz.f5;repeat (first|simp only[go_sem,e0,e1,e3,x1]|simp (disch:=first|exact omg|fail) only[AX,e0,e1,e3,x1]|refine wki ?_|refine vpd 4 [] ?_|refine vpd 18 [] ?_|refine vf_of (by first|exact hL|exact dc|exact i0|exact c0|exact i1|exact c1|exact f2|exact bt|exact c2|exact law19_known) ?_)
def thinks (t:Int):Int:=if t = -1 then 1 else if t=1 then 2 else 3
theorem decide_ball {t:Int} (ht:t = -1\/t=0\/t=1) (hP:P<=50) (x1:(if (0:Int)>p then (0:Int) else p)=(P:Int)) (ha:RatA (ratV sa na da) al 1) (h0:0<al) (h1:al<1) (k8:kind≠8) (f1:Go.Ev.Fn CX 14 [testV kind (.sl X xs) (.sl Y ys) (.sl tn tc) sm nm dm ss ns ds k n,.int .i64 ((P:Int)+2)] (.tup [ballR l h,.int .i64 0]))
  (sd:Go.Ev.Fn CX 71 [ballR l h,ballR al al] (.int .i64 t)):Go.Ev.Fn CX 20 [testV kind (.sl X xs) (.sl Y ys) (.sl tn tc) sm nm dm ss ns ds k n,ratV sa na da,.int .i64 p] (.tup [.int .i64 (thinks t),.int .i64 0]):=by
 obtain⟨y0,y1,e0,e1,c0,c1,-,-⟩:=alpha_in ha h0 h1;obtain⟨i0,i1,-,-⟩:=zeroI;have x2:(if (100:Int)<(P:Int) then (100:Int) else (P:Int))=(P:Int):=if_neg (by omega);have o:=ball_Of ha;clear ha h0 h1;rcases ht with rfl|rfl|rfl
 ·rw[show thinks (-1)=1 from rfl];refine fni Tryz.f20 ?_;unfold Tryz.f20;repeat (first|simp only[go_sem,e0,e1,x1,x2]|simp (disch:=first|exact omg|fail) only[AX,e0,e1,x1,x2]|refine wki ?_|refine vpd 1 [] ?_|refine vpd 10 [] ?_|refine vfa ?_)
 ·rw[show thinks 0=3 from rfl];refine fni Tryz.f20 ?_;unfold Tryz.f20;repeat (first|simp only[go_sem,e0,e1,x1,x2]|simp (disch:=first|exact omg|fail) only[AX,e0,e1,x1,x2]|refine wki ?_|refine vpd 1 [] ?_|refine vpd 10 [] ?_|refine vfa ?_)
 ·rw[show thinks 1=2 from rfl];refine fni Tryz.f20 ?_;unfold Tryz.f20;repeat (first|simp only[go_sem,e0,e1,x1,x2]|simp (disch:=first|exact omg|fail) only[AX,e0,e1,x1,x2]|refine wki ?_|refine vpd 1 [] ?_|refine vpd 10 [] ?_|refine vfa ?_)
set_option maxHeartbeats 1000000 in
theorem decides_ball (hP:P<=50) (hp : -9223372036854775808<=p/\p<=50) (x1:(if (0:Int)>p then (0:Int) else p)=(P:Int)) (ln:na.length<=1) (ld:da.length<=1) (ha:RatA (ratV sa na da) al 1) (h0:0<al) (h1:al<1) (k8:kind≠8) (hL:Go.Ev.Fn CX 13 [testV kind (.sl X xs) (.sl Y ys) (.sl tn tc) sm nm dm ss ns ds k n] (.bool false))
  (z1:szR l 1202) (z2:szR h 1202) (z3:szR c 1202) (z4:szR d 1202) (mt:Meet (P+2) l h c d)
  (f1:Go.Ev.Fn CX 14 [testV kind (.sl X xs) (.sl Y ys) (.sl tn tc) sm nm dm ss ns ds k n,.int .i64 ((P:Int)+2)] (.tup [ballR l h,.int .i64 0])) (f2:Go.Ev.Fn CX 15 [testV kind (.sl X xs) (.sl Y ys) (.sl tn tc) sm nm dm ss ns ds k n,.int .i64 ((P:Int)+40)] (.tup [ballR c d,.int .i64 0])):Go.Ev.Fn CX 5 [testV kind (.sl X xs) (.sl Y ys) (.sl tn tc) sm nm dm ss ns ds k n,ratV sa na da,.int .i64 p] (.bool true):=by
 have za:=szR_of ha;have sd:=q_Side z1 z2 za;have ht:sideR l h al = -1\/sideR l h al=0\/sideR l h al=1:=by unfold sideR;split;(exact .inl rfl);split;(exact .inr (.inr rfl));exact .inr (.inl rfl)
 have dc:=decide_ball ht hP x1 ha h0 h1 k8 f1 sd;obtain⟨m1,m2,m3,m4⟩:=mt;obtain⟨y0,y1,e0,e1,-,-,c0,c1⟩:=alpha_in ha h0 h1;obtain⟨-,-,i0,i1⟩:=zeroI;have bt:=ref4_Bit (p:=P);have zu:szR (mkRat 1 (2^P)) 20:=by
  have l:=lim_len_shl (a:=1) (n:=P);have l1:=lim_len1;rw[xe]at l;exact szR_mk (s:=false) (n:=1) (d:=2^P)
 have thin:h-l<=mkRat 1 (2^P):=by
  have u1:mkRat 1 (2^P)*p2 P=1:=mk_mulP 1 (xM (by omega));have e4:p2 (P+2)=p2 P*4:=by rw[p2_plus];rfl
  rw[e4]at m4;have PP:=p2_pos P;refine le_by PP ?_;rw[u1];have:=xL (show 0<=h-l by grind) (xX PP);grind
 have cl:=ref2_Cmp (RatA_rv z3) ha;have ch:=ref2_Cmp (RatA_rv z4) ha;have el:=cmpR_lt (q:=c) (r:=al);have eh:=cmpR_gt (q:=d) (r:=al);have ad:=ref2_Add ha (RatA_rv zu);have sb:=ref2_Sub ha (RatA_rv zu);have cl2:=ref2_Cmp (RatA_rv z3) (RatA_rv (szR_add za zu));have ch2:=ref2_Cmp (RatA_rv z4) (RatA_rv (szR_sub za zu));have el2:=cmpR_le (q:=c) (r:=al+mkRat 1 (2^P));have eh2:=cmpR_ge (q:=d) (r:=al-mkRat 1 (2^P));clear ha h0 h1 z1 z2 z3 z4 f1 za zu sd ht m4;generalize mkRat 1 (2^P)=u at *
 unfold sideR at dc;by_cases g1:h<al
 ·rw[if_pos g1,show thinks (-1)=1 from rfl]at dc;rw[decide_eq_true (show c<al by grind)]at el;clear g1 thin m1 m2 m3 ad sb cl2 ch2 el2 eh2 ch eh;generalize cmpR c al=y2 at *
  refine fni Tryz.f5 ?_;unfold Tryz.f5;repeat (first|simp only[go_sem,e0,e1,el,x1]|simp (disch:=first|exact omg|fail) only[AX,e0,e1,el,x1]|refine wki ?_|refine vpd 4 [] ?_|refine vpd 18 [] ?_|refine vf_of (by first|exact hL|exact dc|exact i0|exact c0|exact i1|exact c1|exact f2|exact bt|exact cl|exact law19_known) ?_)
 rw[if_neg g1]at dc;by_cases g2:al<l
 ·rw[if_pos g2,show thinks 1=2 from rfl]at dc;rw[decide_eq_true (show al<d by grind)]at eh;clear g1 g2 thin m1 m2 m3 ad sb cl2 ch2 el2 eh2 cl el;generalize cmpR d al=y2 at *
  refine fni Tryz.f5 ?_;unfold Tryz.f5;repeat (first|simp only[go_sem,e0,e1,eh,x1]|simp (disch:=first|exact omg|fail) only[AX,e0,e1,eh,x1]|refine wki ?_|refine vpd 4 [] ?_|refine vpd 18 [] ?_|refine vf_of (by first|exact hL|exact dc|exact i0|exact c0|exact i1|exact c1|exact f2|exact bt|exact ch|exact law19_known) ?_)
 ·rw[if_neg g2,show thinks 0=3 from rfl]at dc;rw[decide_eq_true (show c<=al+u by grind)]at el2;rw[decide_eq_true (show al-u<=d by grind)]at eh2;clear g1 g2 thin m1 m2 m3 cl el ch eh;generalize cmpR c (al+u)=y2 at *
  generalize cmpR d (al-u)=y3 at *
  generalize al+u=a1 at *
  generalize al-u=a2 at *
  refine fni Tryz.f5 ?_;unfold Tryz.f5;repeat (first|simp only[go_sem,e0,e1,el2,eh2,x1]|simp (disch:=first|exact omg|fail) only[AX,e0,e1,el2,eh2,x1]|refine wki ?_|refine vpd 4 [] ?_|refine vpd 18 [] ?_|refine vf_of (by first|exact hL|exact dc|exact i0|exact c0|exact i1|exact c1|exact f2|exact bt|exact ad|exact cl2|exact sb|exact ch2|exact law19_known) ?_)
end
theorem decides_law (ss0:List SV) (sh0:ShpT Tryz.prog 8 41 ss0) (ss1:List SV) (sh1:ShpT Tryz.prog 6 24 ss1) (p:Int) (w2:(Lit.int .i64 p).wf=true):Go.Ev.Fn CX 5 [.agg ss0,.agg ss1,.int .i64 p] (.bool true):=by
 obtain⟨kind,k,n,X,Y,tn,xs,ys,tc,sm,ss,nm,dm,ns,ds,e,h⟩:=says_all ss0 sh0;obtain⟨sa,na,da,rfl,hn,hd,ln,ld⟩:=shp_rat (n:=3) sh1;rw[e];have b:=wf_int64' w2;have mx:maxLen<=9223372036854775807:=by decide
 have l1:=xG ln mx;have l2:=xG ld mx;rcases h with h|⟨h,sy⟩
 ·exact decides_out b l1 l2 h (.inl rfl)
 by_cases o:1<na.length\/1<da.length\/50<p
 ·exact decides_out b l1 l2 h (.inr o)
 have a1:na.length<=1:=by omega
 have a2:da.length<=1:=by omega
 obtain⟨al,ha⟩ : ∃al:Rat,RatA (ratV sa na da) al 1:=⟨_,sa,na,da,rfl,hn,hd,a1,a2,rfl⟩
 by_cases g:al<=0\/1<=al
 ·exact decides_bad ⟨b.1,by omega⟩ a1 a2 ha g h
 have g0:0<al:=Rat.not_le.1 fun q=>g (.inl q)
 have g1:al<1:=Rat.not_le.1 fun q=>g (.inr q)
 obtain⟨P,hP,x1⟩ : ∃P:Nat,P<=50/\(if (0:Int)>p then (0:Int) else p)=(P:Int):=⟨p.toNat,by omega,by split<;>omega⟩
 have bp : -9223372036854775808<=p/\p<=50:=⟨b.1,by omega⟩
 have s:=sy ((P:Int)+2) (P+2) (P+40) (.inr rfl) (by omega) (by omega) (by omega);unfold Says at s;rw[show ((P+40:Nat):Int)=(P:Int)+40 from rfl]at s;rcases s with⟨e,he,f1,f2,f3⟩|⟨x,hk,zx,f1,f2,f3,f4⟩|⟨l,h',c,d,k8,f1,f2,f3,z1,z2,z3,z4,mt⟩
 ·exact decides_err he hP bp x1 a1 a2 ha g0 g1 h f1 f2
 ·exact decides_bin hP bp x1 a1 a2 ha g0 g1 h zx hk f1 f2
 ·exact decides_ball hP bp x1 a1 a2 ha g0 g1 k8 h z1 z2 z3 z4 mt f1 f2
end Go.Proofs.YtfknkoeagjonbaaGreat
