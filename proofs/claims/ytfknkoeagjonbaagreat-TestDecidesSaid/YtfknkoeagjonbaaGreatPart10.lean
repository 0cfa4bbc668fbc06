/- Part 10 of the proof: the evaluator, contracts of functions and their plain laws (joined by program). No condition. -/
import Derived.Test.YtfknkoeagjonbaaGreatPart9
set_option linter.unusedVariables false
set_option linter.unusedSimpArgs false
set_option maxRecDepth 100000
namespace Go.Proofs.YtfknkoeagjonbaaGreat
open Go.Ev
section
variable {kind k n:Int} {tn Y:Nat} {xs ys tc:List SV} {sm ss:Bool} {nm dm ns ds:List Nat} {l:List Rat} {mu sg:Rat} {M:Nat}
theorem test_z (h:RowC xs l 1) (hl:l.length<=12) (hm:RatA (ratV sm nm dm) mu M) (hs:RatA (ratV ss ns ds) sg M) (hM:1<=M:=by omega) (hM2:M<=100:=by omega) :
  Go.Ev.Fn CX 153 [testV kind (.sl l.length xs) (.sl Y ys) (.sl tn tc) sm nm dm ss ns ds k n] (resV (zR l mu sg)):=by
 have r0:=rat_Int 0;have c0:=rat_Cmp hs (RatA_rv (int_szR (n:=0))) hM;have e0:decide (cmpR sg ((0:Int):Rat)<=0)=decide (sg<=0):=cmpR_le;unfold zR;by_cases c1:sg<=0
 ·rw[if_pos c1];rw[decide_eq_true c1]at e0;clear h hm hs c1;refine fni Tryz.f153 ?_;unfold Tryz.f153;repeat (first|simp only[go_sem,e0]|simp (disch:=first|exact omg|fail) only[AX,e0]|refine wki ?_|refine vpd 1 [] ?_|refine vpd 6 [] ?_|refine vpd 7 [] ?_|refine vfa ?_)
  rfl
 rw[if_neg c1];rw[decide_eq_false c1]at e0;have m1:=stat_Mean h (by omega) (by omega) hl;by_cases c2:l.length=0
 ·rw[if_pos c2]at m1 ⊢;clear h hm hs c1;refine fni Tryz.f153 ?_;unfold Tryz.f153;repeat (first|simp only[go_sem,e0]|simp (disch:=first|exact omg|fail) only[AX,e0]|refine wki ?_|refine vpd 1 [] ?_|refine vpd 6 [] ?_|refine vpd 7 [] ?_|refine vfa ?_)
  rfl
 rw[if_neg c2]at m1 ⊢;have zm:=sz_mean (by omega) (row_sz (by omega) h) hl;have d1:=rat_Sub (RatA_rv zm) hm;have zd:=szR_sub zm (szR_of hm hM);have o1:=test_over (RatA_rv zd) hs;have zo:=szR_div zd (szR_of hs hM);have s1:=test_square (RatA_rv zo);have i1:=rat_Int (l.length:Int);have p1:=rat_Mul (RatA_rv (int_szR (n:=(l.length:Int)))) (RatA_rv (szR_mul zo zo));rw[zR_alt]at p1;clear h hm hs c1 zm zd zo;generalize meanR l=x at *
 generalize (x-mu)/sg=y at *
 generalize ((l.length:Int):Rat)*((x-mu)*(x-mu))/(sg*sg)=w at *
 show Go.Ev.Fn CX 153 _ (resV (w,[1],0));refine fni Tryz.f153 ?_;unfold Tryz.f153;repeat (first|simp only[go_sem,e0]|simp (disch:=first|exact omg|fail) only[AX,e0]|refine wki ?_|refine vpd 1 [] ?_|refine vpd 6 [] ?_|refine vpd 7 [] ?_|refine vfa ?_)
theorem ref19_z (h:RowC xs l 1) (hl:l.length<=12) (hm:RatA (ratV sm nm dm) mu M) (hs:RatA (ratV ss ns ds) sg M) (hM:1<=M:=by omega) (hM2:M<=100:=by omega) :
  Go.Ev.Fn CX 178 [testV kind (.sl l.length xs) (.sl Y ys) (.sl tn tc) sm nm dm ss ns ds k n] (resV (zR l mu sg)):=by
 have r0:=ref19_zero;have c0:=ref2_Cmp hs (RatA_rv (szR_zero (L:=1))) hM;have e0:decide (cmpR sg 0<=0)=decide (sg<=0):=cmpR_le;unfold zR;by_cases c1:sg<=0
 ·rw[if_pos c1];rw[decide_eq_true c1]at e0;clear h hm hs c1;refine fni Tryz.f178 ?_;unfold Tryz.f178;repeat (first|simp only[go_sem,e0]|simp (disch:=first|exact omg|fail) only[AX,e0]|refine wki ?_|refine vpd 1 [] ?_|refine vpd 7 [] ?_|refine vfa ?_)
 rw[if_neg c1];rw[decide_eq_false c1]at e0;have m1:=ref17_Mean h (by omega) (by omega) hl;by_cases c2:l.length=0
 ·rw[if_pos c2]at m1 ⊢;clear h hm hs c1;refine fni Tryz.f178 ?_;unfold Tryz.f178;repeat (first|simp only[go_sem,e0]|simp (disch:=first|exact omg|fail) only[AX,e0]|refine wki ?_|refine vpd 1 [] ?_|refine vpd 7 [] ?_|refine vfa ?_)
 rw[if_neg c2]at m1 ⊢;have zm:=sz_mean (by omega) (row_sz (by omega) h) hl;have d1:=ref2_Sub (RatA_rv zm) hm;have zd:=szR_sub zm (szR_of hm hM);have s1:=ref19_square (RatA_rv zd);have zs:=szR_mul zd zd;have i1:=ref2_Int (l.length:Int);have zi:=int_szR (n:=(l.length:Int));have p1:=ref2_Mul (RatA_rv zi) (RatA_rv zs);have s2:=ref19_square hs hM;have zg:=szR_of hs hM;have o1:=ref19_by (RatA_rv (szR_mul zi zs)) (RatA_rv (szR_mul zg zg));clear h hm hs c1 zm zd zi zs zg;generalize meanR l=x at *
 generalize ((l.length:Int):Rat)*((x-mu)*(x-mu))/(sg*sg)=w at *
 show Go.Ev.Fn CX 178 _ (resV (w,[1],0));refine fni Tryz.f178 ?_;unfold Tryz.f178;repeat (first|simp only[go_sem,e0]|simp (disch:=first|exact omg|fail) only[AX,e0]|refine wki ?_|refine vpd 1 [] ?_|refine vpd 7 [] ?_|refine vfa ?_)
end
def missL (l m:List Rat):List Rat:=List.zipWith (fun x y=>(x-y)*(x-y)/y) l m
def missR (l m:List Rat):Rat:=sumR (missL l m)
theorem missL_len {l m:List Rat} (h:l.length=m.length:=by omega):(missL l m).length=l.length:=by unfold missL;rw[zG];omega
theorem missL_at {l m:List Rat} (h:l.length=m.length) {i:Nat} (hi:i<l.length:=by omega):(missL l m).getD i 0=(l.getD i 0-m.getD i 0)*(l.getD i 0-m.getD i 0)/m.getD i 0:=by
 unfold missL;rw[xC,xC,xC,xD (by rw[zG];omega),xD hi,xD (by omega),zO];rfl
theorem missL_sz {l m:List Rat} {L M:Nat} (hl : ∀x∈l,szR x L) (hm : ∀x∈m,szR x M) (hL:1<=L:=by omega) (hM:1<=M:=by omega) : ∀x∈missL l m,szR x (2*L+3*M+2):=by
 intro x hx;unfold missL at hx;obtain⟨i,hi,rfl⟩:=zC hx;rw[zO];have a:=hl _ (yQ (l:=l) (n:=i) (by rw[zG]at hi;omega));have b:=hm _ (yQ (l:=m) (n:=i) (by rw[zG]at hi;omega));have d:=szR_sub a b hL;exact szR_mono (szR_div (szR_mul d d) b (by omega) hM)
theorem test_misses {cs ds:List SV} {l m:List Rat} {L M:Nat} (h:RowC cs l L) (h2:RowC ds m M) (hL:1<=L) (hL2:L<=1000) (hM:1<=M) (hM2:M<=1000) (hl:l.length<=12) (hlm:l.length=m.length:=by omega) :
  Go.Ev.Fn CX 229 [.sl l.length cs,.sl m.length ds] (rv (missR l m)):=by
 have r0:=rat_Int 0;have hlen:=row_len h;have hlen2:=row_len h2;have hml:=missL_len hlm;have hmz:=missL_sz (row_sz hL h) (row_sz hM h2) hL hM;refine fni Tryz.f229 ?_;unfold Tryz.f229;repeat (first|simp only[go_sem]|simp (disch:=first|exact omg|fail) only[AX]|refine wki ?_|refine vpd 5 [] ?_|refine vfa ?_)
 refine vp_loop_inv (fun s=>s.tmp 9 = .sv (.sl l.length cs)/\s.tmp 1 = .sv (.sl m.length ds)/\s.tmp 10 = .sv (.int .i64 (l.length:Int))/\s.tmp 4 = .ptr 4 0 0/\s.obj 4 0=some [.bool false,.sl 0 [],.sl 0 []]/\s.tmp 5 = .ptr 5 0 0 /\
   ∃i:Nat,s.tmp 11 = .sv (.int .i64 (i:Int))/\i<=l.length/\s.obj 5 0=some (rvC (sumR ((missL l m).take i))))
  (fun s=>match s.tmp 11 with | .sv (.int _ i)=>l.length-i.toNat|_=>0) ⟨rfl,rfl,rfl,rfl,rfl,rfl,0,rfl,by omega,rfl⟩ ?_
 rintro s2 ⟨i9,i1,i10,i4,iO,i5,i,i11,hi,iP⟩
 by_cases hend:i=l.length
 ·subst hend;rw[xH (by omega)]at iP;have iP:s2.obj 5 0=some (rvC (missR l m)):=iP;repeat (first|simp only[go_sem,i9,i1,i10,i4,iO,i5,i11,iP,rvC]|simp (disch:=first|exact omg|fail) only[AX,i9,i1,i10,i4,iO,i5,i11,iP,rvC]|refine wki ?_|refine vpd 5 [] ?_)
 ·obtain⟨s,n,d,rest,g1,hA⟩:=row_at (i:=i) h (by omega);obtain⟨s',n',d',rest',g2,hB⟩:=row_at (i:=i) h2 (by omega);have hS:=sumR_take (missL l m) (i:=i);rw[missL_at hlm]at hS;have sb:=rat_Sub hA hB hL hM;have zs:=szR_sub (szR_of hA hL) (szR_of hB hM) hL;have sq:=test_square (RatA_rv zs);have ov:=test_over (RatA_rv (szR_mul zs zs)) hB (by omega) hM;have zo:=szR_div (szR_mul zs zs) (szR_of hB hM) (by omega) hM;have a:=rat_Add (RatA_rv (sz_take12 (by omega) hmz (by omega) i)) (RatA_rv zo);rw[<- hS]at a;clear h h2 hA hB hmz zs zo hS;generalize l.getD i 0-m.getD i 0=x at *
  generalize x*x/m.getD i 0=y at *
  repeat (first|simp only[go_sem,i9,i1,i10,i4,iO,i5,i11,iP,rvC,g1,g2,hlen,hlen2]|simp (disch:=first|exact omg|fail) only[AX,i9,i1,i10,i4,iO,i5,i11,iP,rvC,g1,g2,hlen,hlen2]|refine wki ?_|refine vpd 5 [] ?_|refine vfa ?_)
  exact⟨⟨i+1,rfl,by omega,rfl⟩,by omega⟩
end Go.Proofs.YtfknkoeagjonbaaGreat
namespace Go.Proofs.YtfknkoeagjonbaaGreat
open Go.Ev
def badF (l m:List Rat) (i:Nat):Bool:=decide (l.getD i 0<0)||decide (m.getD i 0<=0)
def wantR (l m:List Rat):List Rat:=m.map fun y=>sumR l/sumR m*y
def fitR (l m:List Rat):Res:=
 if l.length≠m.length then (0,[],1) else if (List.range l.length).any (badF l m)=true then (0,[],4) else if l.length<2\/sumR l=0 then (0,[],5) else
 (missR l (wantR l m),[(l.length:Int)-1],0)
theorem le_split {x:Rat}:decide (x<=0)=(decide (x<0)||decide (x=0)):=by
 by_cases h:x<0
 ·rw[decide_eq_true h,decide_eq_true (by grind),Bool.true_or]
 ·by_cases h2:x=0
  ·rw[decide_eq_true h2,decide_eq_true (by grind),Bool.or_true]
  ·rw[decide_eq_false h,decide_eq_false h2,decide_eq_false (by grind)];rfl
theorem want_len (l m:List Rat):(wantR l m).length=m.length:=xd _
theorem want_at (l m:List Rat) {i:Nat} (h:i<m.length):(wantR l m).getD i 0=sumR l/sumR m*m.getD i 0:=getD_map m _ h
section
variable {kind k n:Int} {tn:Nat} {xs ys tc:List SV} {sm ss:Bool} {nm dm ns ds:List Nat} {l m:List Rat}
set_option maxHeartbeats 1000000 in
theorem test_fit (h:RowC xs l 1) (h2:RowC ys m 1) (hl:l.length<=12) (hm:m.length<=12) :
  Go.Ev.Fn CX 158 [.sl l.length xs,.sl m.length ys] (resV (fitR l m)):=by
 have r0:=rat_Int 0;have hlen:=row_len h;have hlen2:=row_len h2;unfold fitR;by_cases hlm:l.length=m.length;rotate_left
 ·rw[if_pos hlm];clear h h2;refine fni Tryz.f158 ?_;unfold Tryz.f158;repeat (first|simp only[go_sem]|simp (disch:=first|exact omg|fail) only[AX]|refine wki ?_|refine vpd 12 [1] ?_|refine vfa ?_)
  rfl
 rw[if_neg (not_not_intro hlm)];by_cases hbad:(List.range l.length).any (badF l m)=true
 ·rw[if_pos hbad];obtain⟨j,hj,hbj⟩:=wG.1 hbad;rw[zW]at hj;clear hbad;refine fni Tryz.f158 ?_;unfold Tryz.f158;repeat (first|simp only[go_sem]|simp (disch:=first|exact omg|fail) only[AX]|refine wki ?_|refine vpd 12 [1] ?_)
  refine vp_loop_inv (fun s=>s.tmp 4 = .ptr 4 0 0/\s.obj 4 0=some [.bool false,.sl 0 [],.sl 0 []]/\s.tmp 1 = .sv (.sl m.length ys)/\s.tmp 20 = .sv (.sl l.length xs)/\s.tmp 21 = .sv (.int .i64 (l.length:Int)) /\
    ∃i:Nat,s.tmp 22 = .sv (.int .i64 (i:Int))/\i<=l.length/\i<=j)
   (fun s=>match s.tmp 22 with | .sv (.int _ i)=>l.length-i.toNat|_=>0) ⟨rfl,rfl,rfl,rfl,rfl,0,rfl,by omega,by omega⟩ ?_
  rintro s2 ⟨i4,o4,i1,i20,i21,i,i22,hi,hij⟩
  have hil:i<l.length:=by omega
  obtain⟨s,n',d,rest,g1,hA⟩:=row_at (i:=i) h (by omega);obtain⟨s',n'',d',rest',g2,hB⟩:=row_at (i:=i) h2 (by omega);have b1:=test_isBelow hA;have b2:=test_isBelow hB;have b3:=rat_Zero hB;have hbi:i=j->(decide (l.getD i 0<0)||(decide (m.getD i 0<0)||decide (m.getD i 0=0)))=true:=by
   rintro rfl
   rw[<- le_split];exact hbj
  generalize l.getD i 0=x at *
  generalize m.getD i 0=y at *
  clear h h2 hA hB hbj;by_cases cx:x<0
  ·rw[decide_eq_true cx]at b1;clear hbi;repeat (first|simp only[go_sem,i4,o4,i1,i20,i21,i22,g1,g2,hlen,hlen2]|simp (disch:=first|exact omg|fail) only[AX,i4,o4,i1,i20,i21,i22,g1,g2,hlen,hlen2]|refine wki ?_|refine vpd 12 [1] ?_|refine vfa ?_)
   rfl
  rw[decide_eq_false cx]at b1 hbi;by_cases cy:y<0
  ·rw[decide_eq_true cy]at b2;clear hbi;repeat (first|simp only[go_sem,i4,o4,i1,i20,i21,i22,g1,g2,hlen,hlen2]|simp (disch:=first|exact omg|fail) only[AX,i4,o4,i1,i20,i21,i22,g1,g2,hlen,hlen2]|refine wki ?_|refine vpd 12 [1] ?_|refine vfa ?_)
   rfl
  rw[decide_eq_false cy]at b2 hbi;by_cases cz:y=0
  ·rw[decide_eq_true cz]at b3;clear hbi;repeat (first|simp only[go_sem,i4,o4,i1,i20,i21,i22,g1,g2,hlen,hlen2]|simp (disch:=first|exact omg|fail) only[AX,i4,o4,i1,i20,i21,i22,g1,g2,hlen,hlen2]|refine wki ?_|refine vpd 12 [1] ?_|refine vfa ?_)
   rfl
  rw[decide_eq_false cz]at b3 hbi;have hne:i≠j:=fun e=>by have:=hbi e;cases this
  clear hbi cx cy cz;repeat (first|simp only[go_sem,i4,o4,i1,i20,i21,i22,g1,g2,hlen,hlen2]|simp (disch:=first|exact omg|fail) only[AX,i4,o4,i1,i20,i21,i22,g1,g2,hlen,hlen2]|refine wki ?_|refine vpd 12 [1] ?_|refine vfa ?_)
  exact⟨⟨i+1,rfl,by omega,by omega⟩,by omega⟩
 rw[if_neg hbad];have hgood : ∀i,i<l.length->(decide (l.getD i 0<0)||(decide (m.getD i 0<0)||decide (m.getD i 0=0)))=false:=by
  intro i hi;rw[<- le_split];have:=fun e=>hbad (wG.2 ⟨i,zW.2 hi,e⟩)
  exact Bool.eq_false_iff.2 this
 clear hbad;have s1:=stat_Sum h (by omega) (by omega) hl;have s2:=stat_Sum h2 (by omega) (by omega) hm;have zl:=sz_sum12 (by omega) (row_sz (by omega) h) hl;have zm:=sz_sum12 (by omega) (row_sz (by omega) h2) hm;have zz:=rat_Zero (RatA_rv zl);have ov:=test_over (RatA_rv zl) (RatA_rv zm);have zo:=szR_div zl zm;have hwz : ∀x∈wantR l m,szR x 51:=by
  intro x hx;obtain⟨y,hy,rfl⟩:=yv.1 hx;exact szR_mono (szR_mul zo (row_sz (by omega) h2 y hy))
 have hwl:=want_len l m;have ms:=test_misses h (rvsC_row _ hwz) (by omega) (by omega) (by omega) (by omega) hl;have hwa:=fun {i:Nat} (hi:i<m.length)=>want_at l m hi
 refine fni Tryz.f158 ?_;unfold Tryz.f158;repeat (first|simp only[go_sem]|simp (disch:=first|exact omg|fail) only[AX]|refine wki ?_|refine vpd 12 [1] ?_)
 refine vp_loop_inv (fun s=>s.tmp 0 = .sv (.sl l.length xs)/\s.tmp 4 = .ptr 4 0 0/\s.obj 4 0=some [.bool false,.sl 0 [],.sl 0 []]/\s.tmp 1 = .sv (.sl m.length ys)/\s.tmp 20 = .sv (.sl l.length xs)/\s.tmp 21 = .sv (.int .i64 (l.length:Int))/\s.gen 70=0 /\
   ∃i:Nat,s.tmp 22 = .sv (.int .i64 (i:Int))/\i<=l.length)
  (fun s=>match s.tmp 22 with | .sv (.int _ i)=>l.length-i.toNat|_=>0) ⟨rfl,rfl,rfl,rfl,rfl,rfl,rfl,0,rfl,by omega⟩ ?_
 rintro s3 ⟨i0,i4,o4,i1,i20,i21,ig,i,i22,hi⟩
 by_cases hend:i=l.length;rotate_left
 ·obtain⟨s,n',d,rest,g1,hA⟩:=row_at (i:=i) h (by omega);obtain⟨s',n'',d',rest',g2,hB⟩:=row_at (i:=i) h2 (by omega);have b1:=test_isBelow hA;have b2:=test_isBelow hB;have b3:=rat_Zero hB;have hgi:=hgood i (by omega);simp only[wY]at hgi;rw[hgi.1]at b1;rw[hgi.2.1]at b2;rw[hgi.2.2]at b3;clear h h2 hA hB hgood hgi s1 s2 zl zm zz ov zo hwz ms hwa;repeat (first|simp only[go_sem,i0,i4,o4,i1,i20,i21,ig,i22,g1,g2,hlen,hlen2]|simp (disch:=first|exact omg|fail) only[AX,i0,i4,o4,i1,i20,i21,ig,i22,g1,g2,hlen,hlen2]|refine wki ?_|refine vpd 12 [1] ?_|refine vfa ?_)
  exact⟨⟨i+1,rfl,by omega⟩,by omega⟩
 subst hend;clear hgood;repeat (first|simp only[go_sem,i0,i4,o4,i1,i20,i21,ig,i22]|simp (disch:=first|exact omg|fail) only[AX,i0,i4,o4,i1,i20,i21,ig,i22]|refine wki ?_|refine vpd 12 [1] ?_|refine vfa ?_)
 by_cases c5:l.length<2
 ·rw[if_pos (.inl c5)];clear h h2 zl zm zo hwz hwa;repeat (first|simp only[go_sem,i0,i4,o4,i1,i20,i21,ig,i22]|simp (disch:=first|exact omg|fail) only[AX,i0,i4,o4,i1,i20,i21,ig,i22]|refine wki ?_|refine vpd 12 [1] ?_|refine vfa ?_)
  rfl
 by_cases c6:sumR l=0
 ·rw[if_pos (.inr c6)];rw[decide_eq_true c6]at zz;clear h h2 zl zm zo hwz hwa c6;repeat (first|simp only[go_sem,i0,i4,o4,i1,i20,i21,ig,i22]|simp (disch:=first|exact omg|fail) only[AX,i0,i4,o4,i1,i20,i21,ig,i22]|refine wki ?_|refine vpd 12 [1] ?_|refine vfa ?_)
  rfl
 rw[if_neg (fun h=>h.elim c5 c6)];rw[decide_eq_false c6]at zz;clear c6;have hra:=fun {i:Nat} (hi:i<m.length)=>row_at (i:=i) h2 hi
 generalize hE:sumR l/sumR m=e at *
 have mul:=fun {y:Rat} {s:Bool} {n d:List Nat} (hy:RatA (ratV s n d) y 1)=>rat_Mul (RatA_rv zo) hy
 generalize hW:wantR l m=w at *
 generalize missR l w=q at *
 clear h h2 zl zm hwz hE hW;repeat (first|simp only[go_sem,i0,i4,o4,i1,i20,i21,ig,i22]|simp (disch:=first|exact omg|fail) only[AX,i0,i4,o4,i1,i20,i21,ig,i22]|refine wki ?_|refine vpd 12 [1] ?_|refine vfa ?_)
 refine vp_loop_inv (fun s=>s.tmp 0 = .sv (.sl l.length xs)/\s.tmp 4 = .ptr 4 0 0/\s.obj 4 0=some [.bool false,.sl 0 [],.sl 0 []]/\s.tmp 10 = .ptr 10 (s3.gen 10) 0/\s.obj 10 (s3.gen 10)=some (rvC e)/\s.tmp 59 = .sv (.sl m.length ys)/\s.tmp 60 = .sv (.int .i64 (m.length:Int)) /\
   ∃i:Nat,s.tmp 61 = .sv (.int .i64 (i:Int))/\i<=m.length/\((i=0/\s.tmp 11 = .nil/\s.gen 70=0)\/(0<i/\s.tmp 11 = .ref 70 0 3 0 i/\s.obj 70 0=some (rvsC (w.take i)))))
  (fun s=>match s.tmp 61 with | .sv (.int _ i)=>m.length-i.toNat|_=>0) ⟨i0,i4,?_,rfl,?_,rfl,rfl,0,rfl,by omega,.inl ⟨rfl,rfl,?_⟩⟩ ?_
 ·simp only[go_sem,o4]
 ·simp only[go_sem,rvC]
 ·simp only[go_sem,ig]
 rintro s4 ⟨j0,j4,p4,j10,p10,j59,j60,i,j61,hi,hc⟩
 by_cases hend:i=m.length
 ·subst hend;rcases hc with⟨h00,_⟩|⟨_,j11,iP⟩
  ·omega
  ·rw[xH (by omega)]at iP;have hrl:=rvsC_len w;have htk:(rvsC w).take (m.length*3)=rvsC w:=xH (by omega);rw[hwl]at ms;repeat (first|simp only[go_sem,j0,j4,p4,j10,p10,j59,j60,j61,j11,iP,htk,xf,N0]|simp (disch:=first|exact omg|fail) only[AX,j0,j4,p4,j10,p10,j59,j60,j61,j11,iP,htk,xf,N0]|refine wki ?_|refine vpd 12 [1] ?_|refine vfa ?_)
   refine ro_ref (cs:=[.int .i64 ((l.length-1:Nat):Int)]) (by decide) ?_ ?_
   ·simp only[go_sem]
   ·rfl
 ·obtain⟨s,n',d,rest,g1,hA⟩:=hra (i:=i) (by omega);have mu:=mul hA;have hg:=hwa (i:=i) (by omega);have hsn:=rvs_snoc (l:=w) (i:=i);rw[hg]at hsn;have hrl:=rvsC_len (w.take i);rw[xo,hwl,yO (by omega)]at hrl;generalize e*m.getD i 0=z at *
  clear hra mul hwa hA ms s1 s2 zz ov zo;rcases hc with⟨h00,j11,jg⟩|⟨h00,j11,jP⟩
  ·subst h00;rw[yz,rvsC_nil,ze]at hsn;rw[zM,xf]at g1;subst g1;repeat (first|simp only[go_sem,j0,j4,p4,j10,p10,j59,j60,j61,j11,jg,rvC,N0]|simp (disch:=first|exact omg|fail) only[AX,j0,j4,p4,j10,p10,j59,j60,j61,j11,jg,rvC,N0]|refine wki ?_|refine vpd 12 [1] ?_|refine vfa ?_)
   exact⟨⟨1,rfl,by omega,.inr ⟨by omega,rfl,by first|exact hsn|exact congrArg some hsn⟩⟩,by omega⟩
  ·unfold rvC at hsn;repeat (first|simp only[go_sem,j0,j4,p4,j10,p10,j59,j60,j61,j11,jP,g1,hlen2,rvC,N0,hrl]|simp (disch:=first|exact omg|fail) only[AX,j0,j4,p4,j10,p10,j59,j60,j61,j11,jP,g1,hlen2,rvC,N0,hrl]|refine wki ?_|refine vpd 12 [1] ?_|refine vfa ?_)
   exact⟨⟨i+1,rfl,by omega,.inr ⟨by omega,rfl,by first|exact hsn|exact congrArg some hsn⟩⟩,by omega⟩
set_option maxHeartbeats 1000000 in
theorem ref19_fit (h:RowC xs l 1) (h2:RowC ys m 1) (hl:l.length<=12) (hm:m.length<=12) :
  Go.Ev.Fn CX 183 [testV kind (.sl l.length xs) (.sl m.length ys) (.sl tn tc) sm nm dm ss ns ds k n] (resV (fitR l m)):=by
 have r0:=ref19_zero;have hlen:=row_len h;have hlen2:=row_len h2;unfold fitR;by_cases hlm:l.length=m.length;rotate_left
 ·rw[if_pos hlm];clear h h2;refine fni Tryz.f183 ?_;unfold Tryz.f183;repeat (first|simp only[go_sem]|simp (disch:=first|exact omg|fail) only[AX]|refine wki ?_|refine vpd 6 [] ?_|refine vpd 11 [58] ?_|refine vpd 16 [] ?_|refine vpd 17 [] ?_|refine vfa ?_)
 rw[if_neg (not_not_intro hlm)];by_cases hbad:(List.range l.length).any (badF l m)=true
 ·rw[if_pos hbad];obtain⟨j,hj,hbj⟩:=wG.1 hbad;rw[zW]at hj;clear hbad;refine fni Tryz.f183 ?_;unfold Tryz.f183;repeat (first|simp only[go_sem]|simp (disch:=first|exact omg|fail) only[AX]|refine wki ?_|refine vpd 6 [] ?_|refine vpd 11 [58] ?_|refine vpd 16 [] ?_|refine vpd 17 [] ?_)
  refine vp_loop_inv (fun s=>s.tmp 1 = .ptr 1 0 0/\s.obj 1 0=some [.int .i64 kind,.sl l.length xs,.sl m.length ys,.sl tn tc,.bool sm,natV nm,natV dm,.bool ss,natV ns,natV ds,.int .i64 k,.int .i64 n]/\s.tmp 2 = .ptr 2 0 0/\s.obj 2 0=some [.bool false,.sl 0 [],.sl 0 []] /\
    ∃i:Nat,s.tmp 5 = .sv (.int .i64 (i:Int))/\i<=l.length/\i<=j)
   (fun s=>match s.tmp 5 with | .sv (.int _ i)=>l.length-i.toNat|_=>0) ⟨rfl,rfl,rfl,rfl,0,rfl,by omega,by omega⟩ ?_
  rintro s2 ⟨i1,o1,i2,o2,i,i5,hi,hij⟩
  have hil:i<l.length:=by omega
  obtain⟨s,n',d,rest,g1,hA⟩:=row_at (i:=i) h (by omega);obtain⟨s',n'',d',rest',g2,hB⟩:=row_at (i:=i) h2 (by omega);have b1:=ref2_Cmp hA (RatA_rv (szR_zero (L:=1)));have b2:=ref2_Cmp hB (RatA_rv (szR_zero (L:=1)));have hbi:i=j->(decide (l.getD i 0<0)||decide (m.getD i 0<=0))=true:=by
   rintro rfl
   exact hbj
  generalize l.getD i 0=x at *
  generalize m.getD i 0=y at *
  have e1:decide (cmpR x 0<0)=decide (x<0):=cmpR_lt;have e2:decide (cmpR y 0<=0)=decide (y<=0):=cmpR_le;clear h h2 hA hB hbj;by_cases cx:x<0
  ·rw[decide_eq_true cx]at e1;clear hbi cx;repeat (first|simp only[go_sem,i1,o1,i2,o2,i5,g1,g2,hlen,hlen2,e1]|simp (disch:=first|exact omg|fail) only[AX,i1,o1,i2,o2,i5,g1,g2,hlen,hlen2,e1]|refine wki ?_|refine vpd 6 [] ?_|refine vpd 11 [58] ?_|refine vpd 16 [] ?_|refine vpd 17 [] ?_|refine vfa ?_)
  rw[decide_eq_false cx]at e1 hbi;by_cases cy:y<=0
  ·rw[decide_eq_true cy]at e2;clear hbi cx cy;repeat (first|simp only[go_sem,i1,o1,i2,o2,i5,g1,g2,hlen,hlen2,e1,e2]|simp (disch:=first|exact omg|fail) only[AX,i1,o1,i2,o2,i5,g1,g2,hlen,hlen2,e1,e2]|refine wki ?_|refine vpd 6 [] ?_|refine vpd 11 [58] ?_|refine vpd 16 [] ?_|refine vpd 17 [] ?_|refine vfa ?_)
  rw[decide_eq_false cy]at e2 hbi;have hne:i≠j:=fun e=>by have:=hbi e;cases this
  clear hbi cx cy;repeat (first|simp only[go_sem,i1,o1,i2,o2,i5,g1,g2,hlen,hlen2,e1,e2]|simp (disch:=first|exact omg|fail) only[AX,i1,o1,i2,o2,i5,g1,g2,hlen,hlen2,e1,e2]|refine wki ?_|refine vpd 6 [] ?_|refine vpd 11 [58] ?_|refine vpd 16 [] ?_|refine vpd 17 [] ?_|refine vfa ?_)
  exact⟨⟨i+1,rfl,by omega,by omega⟩,by omega⟩
 rw[if_neg hbad];have hgood : ∀i,i<l.length->(decide (l.getD i 0<0)||decide (m.getD i 0<=0))=false:=by
  intro i hi;have:=fun e=>hbad (wG.2 ⟨i,zW.2 hi,e⟩)
  exact Bool.eq_false_iff.2 this
 clear hbad;have s1:=ref17_Sum h (by omega) (by omega) hl;have s2:=ref17_Sum h2 (by omega) (by omega) hm;have zl:=sz_sum12 (by omega) (row_sz (by omega) h) hl;have zm:=sz_sum12 (by omega) (row_sz (by omega) h2) hm;have zz:=ref2_Zero (RatA_rv zl);have ov:=ref19_by (RatA_rv zl) (RatA_rv zm);have zo:=szR_div zl zm;have hwz : ∀x∈wantR l m,szR x 51:=by
  intro x hx;obtain⟨y,hy,rfl⟩:=yv.1 hx;exact szR_mono (szR_mul zo (row_sz (by omega) h2 y hy))
 have hwl:=want_len l m;have hwa:=fun {i:Nat} (hi:i<m.length)=>want_at l m hi
 have hml:=missL_len (l:=l) (m:=wantR l m);have hmz:=missL_sz (row_sz (by omega) h) hwz;have hma:=fun {i:Nat} (hi:i<l.length)=>missL_at (l:=l) (m:=wantR l m) (by omega) hi
 have hst:=fun {i:Nat} (hi:i<l.length)=>sumR_take (missL l (wantR l m)) (i:=i)
 have zt:=fun i=>sz_take12 (by omega) hmz (by omega) i
 refine fni Tryz.f183 ?_;unfold Tryz.f183;repeat (first|simp only[go_sem]|simp (disch:=first|exact omg|fail) only[AX]|refine wki ?_|refine vpd 6 [] ?_|refine vpd 11 [58] ?_|refine vpd 16 [] ?_|refine vpd 17 [] ?_)
 refine vp_loop_inv (fun s=>s.tmp 1 = .ptr 1 0 0/\s.obj 1 0=some [.int .i64 kind,.sl l.length xs,.sl m.length ys,.sl tn tc,.bool sm,natV nm,natV dm,.bool ss,natV ns,natV ds,.int .i64 k,.int .i64 n]/\s.tmp 2 = .ptr 2 0 0/\s.obj 2 0=some [.bool false,.sl 0 [],.sl 0 []]/\s.tmp 58 = .undef /\
   ∃i:Nat,s.tmp 5 = .sv (.int .i64 (i:Int))/\i<=l.length)
  (fun s=>match s.tmp 5 with | .sv (.int _ i)=>l.length-i.toNat|_=>0) ⟨rfl,rfl,rfl,rfl,rfl,0,rfl,by omega⟩ ?_
 rintro s3 ⟨i1,o1,i2,o2,i58,i,i5,hi⟩
 by_cases hend:i=l.length;rotate_left
 ·obtain⟨s,n',d,rest,g1,hA⟩:=row_at (i:=i) h (by omega);obtain⟨s',n'',d',rest',g2,hB⟩:=row_at (i:=i) h2 (by omega);have b1:=ref2_Cmp hA (RatA_rv (szR_zero (L:=1)));have b2:=ref2_Cmp hB (RatA_rv (szR_zero (L:=1)));have hgi:=hgood i (by omega);generalize l.getD i 0=x at *
  generalize m.getD i 0=y at *
  have e1:decide (cmpR x 0<0)=decide (x<0):=cmpR_lt;have e2:decide (cmpR y 0<=0)=decide (y<=0):=cmpR_le;simp only[wY]at hgi;rw[hgi.1]at e1;rw[hgi.2]at e2;clear h h2 hA hB hgood hgi s1 s2 zl zm zz ov zo hwz hwa hml hmz hma hst zt;repeat (first|simp only[go_sem,i1,o1,i2,o2,i58,i5,g1,g2,hlen,hlen2,e1,e2]|simp (disch:=first|exact omg|fail) only[AX,i1,o1,i2,o2,i58,i5,g1,g2,hlen,hlen2,e1,e2]|refine wki ?_|refine vpd 6 [] ?_|refine vpd 11 [58] ?_|refine vpd 16 [] ?_|refine vpd 17 [] ?_|refine vfa ?_)
  exact⟨⟨i+1,rfl,by omega⟩,by omega⟩
 subst hend;clear hgood;repeat (first|simp only[go_sem,i1,o1,i2,o2,i58,i5]|simp (disch:=first|exact omg|fail) only[AX,i1,o1,i2,o2,i58,i5]|refine wki ?_|refine vpd 6 [] ?_|refine vpd 11 [58] ?_|refine vpd 16 [] ?_|refine vpd 17 [] ?_|refine vfa ?_)
 by_cases c5:l.length<2
 ·rw[if_pos (.inl c5)];clear h h2 zl zm zo hwz hwa hml hmz hma hst zt;repeat (first|simp only[go_sem,i1,o1,i2,o2,i58,i5]|simp (disch:=first|exact omg|fail) only[AX,i1,o1,i2,o2,i58,i5]|refine wki ?_|refine vpd 6 [] ?_|refine vpd 11 [58] ?_|refine vpd 16 [] ?_|refine vpd 17 [] ?_|refine vfa ?_)
 by_cases c6:sumR l=0
 ·rw[if_pos (.inr c6)];rw[decide_eq_true c6]at zz;clear h h2 zl zm zo hwz hwa hml hmz hma hst zt c6;repeat (first|simp only[go_sem,i1,o1,i2,o2,i58,i5]|simp (disch:=first|exact omg|fail) only[AX,i1,o1,i2,o2,i58,i5]|refine wki ?_|refine vpd 6 [] ?_|refine vpd 11 [58] ?_|refine vpd 16 [] ?_|refine vpd 17 [] ?_|refine vfa ?_)
 rw[if_neg (fun h=>h.elim c5 c6)];rw[decide_eq_false c6]at zz;clear c6;have hra:=fun {i:Nat} (hi:i<l.length)=>row_at (i:=i) h hi
 have hrb:=fun {i:Nat} (hi:i<m.length)=>row_at (i:=i) h2 hi
 generalize hE:sumR l/sumR m=e at *
 have mul:=fun {y:Rat} {s:Bool} {n d:List Nat} (hy:RatA (ratV s n d) y 1)=>ref2_Mul (RatA_rv zo) hy
 have hoff:=fun {x y:Rat} {s:Bool} {n d:List Nat} (hx:RatA (ratV s n d) x 1) (hy:szR y 51)=>ref19_off hx (RatA_rv hy)
 have hzw : ∀i,i<m.length->szR ((wantR l m).getD i 0) 51:=fun i hi=>hwz _ (getD_mem)
 have hmzi : ∀i,i<l.length->szR ((missL l (wantR l m)).getD i 0) 157:=fun i hi=>hmz _ (getD_mem)
 have hall:sumR ((missL l (wantR l m)).take l.length)=missR l (wantR l m):=by rw[xH (by omega)];rfl
 have hsum0:sumR ((missL l (wantR l m)).take 0)=0:=rfl;generalize hS:(fun i=>sumR ((missL l (wantR l m)).take i))=S at *
 have hSi : ∀i,sumR ((missL l (wantR l m)).take i)=S i:=fun i=>by rw[<- hS]
 simp only[hSi]at zt hst hall hsum0;generalize missR l (wantR l m)=q at *
 clear h h2 zl zm hwz hE hmz hS hSi;repeat (first|simp only[go_sem,i1,o1,i2,o2,i58,i5]|simp (disch:=first|exact omg|fail) only[AX,i1,o1,i2,o2,i58,i5]|refine wki ?_|refine vpd 6 [] ?_|refine vpd 11 [58] ?_|refine vpd 16 [] ?_|refine vpd 17 [] ?_|refine vfa ?_)
 refine vp_loop_inv (fun s=>s.tmp 1 = .ptr 1 0 0/\s.obj 1 0=some [.int .i64 kind,.sl l.length xs,.sl m.length ys,.sl tn tc,.bool sm,natV nm,natV dm,.bool ss,natV ns,natV ds,.int .i64 k,.int .i64 n]/\s.tmp 2 = .ptr 2 0 0/\s.obj 2 0=some [.bool false,.sl 0 [],.sl 0 []] /\
   s.tmp 7 = .ptr 7 (s3.gen 7) 0/\s.obj 7 (s3.gen 7)=some (rvC e)/\s.tmp 8 = .ptr 8 (s3.gen 8) 0 /\
   ∃i:Nat,s.tmp 9 = .sv (.int .i64 (i:Int))/\i<=l.length/\s.obj 8 (s3.gen 8)=some (rvC (S i)))
  (fun s=>match s.tmp 9 with | .sv (.int _ i)=>l.length-i.toNat|_=>0) ⟨i1,?_,i2,?_,rfl,?_,rfl,0,rfl,by omega,?_⟩ ?_
 ·simp only[go_sem,o1]
 ·simp only[go_sem,o2]
 ·simp only[go_sem,rvC]
 ·simp only[go_sem,rvC,hsum0]
 rintro s4 ⟨j1,p1,j2,p2,j7,p7,j8,i,j9,hi,p8⟩
 by_cases hend:i=l.length
 ·subst hend;rw[hall]at p8;clear hra hrb mul hoff hst hma hwa;repeat (first|simp only[go_sem,j1,p1,j2,p2,j7,p7,j8,j9,p8,rvC]|simp (disch:=first|exact omg|fail) only[AX,j1,p1,j2,p2,j7,p7,j8,j9,p8,rvC]|refine wki ?_|refine vpd 6 [] ?_|refine vpd 11 [58] ?_|refine vpd 16 [] ?_|refine vpd 17 [] ?_)
 ·obtain⟨s,n',d,rest,g1,hA⟩:=hra (i:=i) (by omega);obtain⟨s',n'',d',rest',g2,hB⟩:=hrb (i:=i) (by omega);have mu:=mul hB;have hg:=hwa (i:=i) (by omega);have zw:=hzw i (by omega);have zmi:=hmzi i (by omega);have hmi:=hma (i:=i) (by omega);have hs:=hst (i:=i) (by omega);rw[<- hg]at mu;generalize (wantR l m).getD i 0=w at *
  have of:=hoff hA zw;rw[<- hmi]at of;generalize (missL l (wantR l m)).getD i 0=v at *
  have ad:=ref2_Add (RatA_rv (zt i)) (RatA_rv zmi);rw[<- hs]at ad;clear hra hrb mul hoff hwa hA hB s1 s2 zz ov zo hg zw zmi hmi hs hzw hmzi hma hst zt;repeat (first|simp only[go_sem,j1,p1,j2,p2,j7,p7,j8,j9,p8,g1,g2,hlen,hlen2,rvC]|simp (disch:=first|exact omg|fail) only[AX,j1,p1,j2,p2,j7,p7,j8,j9,p8,g1,g2,hlen,hlen2,rvC]|refine wki ?_|refine vpd 6 [] ?_|refine vpd 11 [58] ?_|refine vpd 16 [] ?_|refine vpd 17 [] ?_|refine vfa ?_)
  exact⟨⟨i+1,rfl,by omega,rfl⟩,by omega⟩
end
end Go.Proofs.YtfknkoeagjonbaaGreat
namespace Go.Proofs.YtfknkoeagjonbaaGreat
open Go.Ev
theorem fix_Less {N D:Nat} (hl:(lim N).length<=68719476736:=by omega) (hm:(lim D).length<=68719476736:=by omega):Go.Ev.Fn CX 200 [natV (lim N),natV (lim D)] (natV (lim (N-D))):=by
 have h:=nat_SubL hl hm;refine fni Tryz.f200 ?_;unfold Tryz.f200;repeat (first|simp only[go_sem]|simp (disch:=first|exact omg|fail) only[AX]|refine wki ?_|refine vfa ?_)
theorem fix_Over {N D:Nat} (hD:D≠0:=by omega) (hl:(lim N).length<=68719476736:=by omega) (hm:(lim D).length<=68719476736:=by omega):Go.Ev.Fn CX 201 [natV (lim N),natV (lim D)] (natV (lim (N/D))):=by
 have h:=nat_DivL hD hl hm;refine fni Tryz.f201 ?_;unfold Tryz.f201;repeat (first|simp only[go_sem]|simp (disch:=first|exact omg|fail) only[AX]|refine wki ?_|refine vfa ?_)
def tryD (n:Int) (x:Rat):Bool:=decide (0<=n)&&(decide (n<=256)&&(decide (0<=x)&&decide (x<=1)))
theorem disc_isTry {v:SV} {x:Rat} {L:Nat} {n:Int} (hv:RatA v x L) (hL:1<=L) (h:L<=1048576:=by omega):Go.Ev.Fn CX 123 [.int .i64 n,v] (.bool (tryD n x)):=by
 have r0:=rat_Int 0;have r1:=rat_Int 1;have c0:=rat_Cmp hv (RatA_rv (int_szR (n:=0))) hL;have c1:=rat_Cmp hv (RatA_rv (int_szR (n:=1))) hL;have e0:decide (cmpR x ((0:Int):Rat)>=0)=decide (0<=x):=cmpR_ge;have e1:decide (cmpR x ((1:Int):Rat)<=0)=decide (x<=1):=cmpR_le;unfold tryD;obtain⟨s,y,d,rfl,-⟩:=hv;refine fni Tryz.f123 ?_;unfold Tryz.f123;by_cases h1:0<=n
 ·rw[decide_eq_true h1,yL];by_cases h2:n<=256
  ·rw[decide_eq_true h2,yL];generalize decide (0<=x)=b at *
   cases b
   ·rw[yS];repeat (first|simp only[go_sem,e0]|simp (disch:=first|exact omg|fail) only[AX,e0]|refine wki ?_|refine vpd 1 [] ?_|refine vfa ?_)
   ·rw[yL];repeat (first|simp only[go_sem,e0,e1]|simp (disch:=first|exact omg|fail) only[AX,e0,e1]|refine wki ?_|refine vpd 1 [] ?_|refine vfa ?_)
  ·rw[decide_eq_false h2,yS];repeat (first|simp only[go_sem]|simp (disch:=first|exact omg|fail) only[AX]|refine wki ?_|refine vpd 1 [] ?_)
 ·rw[decide_eq_false h1,yS];repeat (first|simp only[go_sem]|simp (disch:=first|exact omg|fail) only[AX]|refine wki ?_|refine vpd 1 [] ?_)
theorem pow_lim_len (x n:Nat):(lim (x^n)).length<=(lim x).length*n+1:=by
 induction n with
 |zero=>rw[yk];have:=lim_len_one (a:=1) (by decide);omega
 |succ n ih=>
  have:=lim_len_mul (a:=x^n) (b:=x);rw[xW,Nat.mul_succ];omega
theorem disc_power (x:Nat) (n:Nat) (hn:n<=256) (hx:(lim x).length<=1000:=by omega):Go.Ev.Fn CX 202 [natV (lim x),.int .i64 (n:Int)] (natV (lim (x^n))):=by
 have o1:=nat_Of 1;refine fni Tryz.f202 ?_;unfold Tryz.f202;repeat (first|simp only[go_sem]|simp (disch:=first|exact omg|fail) only[AX]|refine wki ?_|refine vfa ?_)
 refine vp_loop_inv (fun s => ∃e A N:Nat,s.tmp 0 = .sv (natV (lim (x^e)))/\s.tmp 1 = .sv (.int .i64 (N:Int))/\s.tmp 5 = .sv (natV (lim (x^A)))/\A+e*N=n/\(N=0\/e<=n)/\e<=512/\1<=e)
  (fun s=>match s.tmp 1 with | .sv (.int _ n)=>n.toNat|_=>0) ⟨1,0,n,by rw[Nat.pow_one];rfl,rfl,by rw[yk];rfl,by omega,by omega,by omega,by omega⟩ ?_
 rintro s ⟨e,A,N,i0,i1,i5,hs,he,he2,he1⟩
 rcases xl N with rfl|h0
 ·rw[show A=n by omega]at i5;repeat (first|simp only[go_sem,i0,i1,i5]|simp (disch:=first|exact omg|fail) only[AX,i0,i1,i5]|refine wki ?_)
 ·have heN:e<=n:=by omega
  have hA:A<=n:=by omega
  have hNe:1*N<=e*N:=xB _ he1;have l1:=pow_lim_len x e;have l2:=pow_lim_len x A;have k1:(lim x).length*e<=1000*256:=xJ hx (by omega);have k2:(lim x).length*A<=1000*256:=xJ hx (by omega);have m1:=nat_MulL (N:=x^A) (D:=x^e);have m2:=nat_MulL (N:=x^e) (D:=x^e);rw[<- xN]at m1 m2;have ha:=and_one64 (a:=N);have hN2:N=2*(N/2)+N%2:=by omega
  have hs2:e*N=(e+e)*(N/2)+e*(N%2):=by
   conv=>lhs;rw[hN2]
   rw[xZ,xY,<- xP,xV e 2,Nat.two_mul,xY]
  have hshr:(N:Int).fdiv 2=((N/2:Nat):Int):=fdiv_nat N 2;have hbig:N/2=0\/e+e<=n:=by
   rcases xl (N/2) with h|h
   ·exact .inl h
   ·right;have:(e+e)*1<=(e+e)*(N/2):=xF _ h;omega
  rcases wB N with hp|hp
  ·rw[hp]at ha hs2;clear hN2;repeat (first|simp only[go_sem,i0,i1,i5,ha,hshr]|simp (disch:=first|exact omg|fail) only[AX,i0,i1,i5,ha,hshr]|refine wki ?_|refine vfa ?_)
   exact⟨⟨e+e,A,N/2,rfl,rfl,rfl,by omega,by omega,by omega,by omega⟩,by omega⟩
  ·rw[hp]at ha hs2;clear hN2;repeat (first|simp only[go_sem,i0,i1,i5,ha,hshr]|simp (disch:=first|exact omg|fail) only[AX,i0,i1,i5,ha,hshr]|refine wki ?_|refine vfa ?_)
   exact⟨⟨e+e,A+e,N/2,rfl,rfl,rfl,by omega,by omega,by omega,by omega⟩,by omega⟩
end Go.Proofs.YtfknkoeagjonbaaGreat
namespace Go.Proofs.YtfknkoeagjonbaaGreat
open Go.Ev
abbrev rowsC (g:Nat->Nat) (i:Nat):List SV:=(List.range i).map fun j=>natV (lim (g j))
theorem rows_len (g:Nat->Nat) (i:Nat):(rowsC g i).length=i:=by simp[rowsC]
theorem rows_at (g:Nat->Nat) {i j:Nat} (h:j<i:=by omega):((rowsC g i).drop j).head?=some (natV (lim (g j))):=by
 rw[List.head?_drop];simp[rowsC,h]
theorem rows_snoc (g:Nat->Nat) (i:Nat):rowsC g i++[natV (lim (g i))]=rowsC g (i+1):=by simp[rowsC,List.range_succ]
theorem cc_lim {m k:Nat} (h:m+k<=1048576:=by omega):(lim (cc m k)).length<=k+1:=
 xG (lim_len_mono cc_le) (prodN_len fun i hi=>by omega)
theorem disc_tries {v:SV} {x:Rat} {L:Nat} {n k:Nat} (hv:RatA v x L) (hL:1<=L) (hL2:L<=100) (hn:n<=256) (hk:k<=n) (hx:x.num.natAbs<=x.den) :
  Go.Ev.Fn CX 124 [.int .i64 (n:Int),.int .i64 (k:Int),v] (.sl (k+1) (rowsC (termN x.num.natAbs (x.den-x.num.natAbs) n) (k+1))):=by
 have hN:=rat_Norm hv;obtain⟨z1,z2⟩:=szR_of hv hL;have o1:=nat_Of 1;have l1:=lim_len1;have hf:=lim_len_mono (zY x.den x.num.natAbs);obtain⟨s,y,d,rfl,-⟩:=hv;generalize hp:x.num.natAbs=p at *
 generalize hd:x.den=D at *
 have hLess:=fix_Less (N:=D) (D:=p);generalize hff:D-p=f at *
 refine fni Tryz.f124 ?_;unfold Tryz.f124;repeat (first|simp only[go_sem,hp,hd]|simp (disch:=first|exact omg|fail) only[AX,hp,hd]|refine wki ?_|refine vfa ?_)
 have lfp : ∀i,i<=n->(lim (f^i)).length<=25601:=by
  intro i hi;have h1:=pow_lim_len f i;have h2:(lim f).length*i<=100*256:=xJ (by omega) (by omega);omega
 have lpp : ∀i,i<=n->(lim (p^i)).length<=25601:=by
  intro i hi;have h1:=pow_lim_len p i;have h2:(lim p).length*i<=100*256:=xJ (by omega) (by omega);omega
 have lw : ∀j,j<=n->(lim (cc (n-j) j*p^j)).length<=26000:=by
  intro j hj;have h1:=lim_len_mul (a:=cc (n-j) j) (b:=p^j);have h2:=cc_lim (m:=n-j) (k:=j);have h3:=lpp j hj;omega
 refine vp_loop_inv (fun s'=>s'.tmp 0 = .sv (.int .i64 (n:Int))/\s'.tmp 1 = .sv (.int .i64 (k:Int))/\s'.tmp 7 = .sv (natV (lim p))/\s'.tmp 8 = .sv (natV (lim f))/\s'.gen 54=0 /\
   ∃i:Nat,1<=i/\i<=n+1/\s'.tmp 9 = .ref 22 0 1 0 i/\s'.obj 22 0=some (rowsC (fun j=>f^j) i))
  (fun s=>match s.tmp 9 with | .ref _ _ _ _ i=>n+1-i|_=>0) ⟨rfl,rfl,rfl,rfl,rfl,1,by omega,by omega,rfl,rfl⟩ ?_
 rintro s' ⟨i0,i1,i7,i8,ig,i,hi1,hi2,i9,iO⟩
 have hlen:=rows_len (fun j=>f^j) i;by_cases hend:i=n+1
 ·subst hend;repeat (first|simp only[go_sem,i0,i1,i7,i8,i9,iO]|simp (disch:=first|exact omg|fail) only[AX,i0,i1,i7,i8,i9,iO]|refine wki ?_|refine vfa ?_)
  refine vp_loop_inv (fun s2=>s2.tmp 0 = .sv (.int .i64 (n:Int))/\s2.tmp 1 = .sv (.int .i64 (k:Int))/\s2.tmp 7 = .sv (natV (lim p))/\s2.tmp 9 = .ref 22 0 1 0 (n+1)/\s2.obj 22 0=some (rowsC (fun j=>f^j) (n+1)) /\
    ∃j W:Nat,s2.tmp 12 = .sv (.int .i64 (j:Int))/\s2.tmp 10 = .sv (natV (lim W))/\(j<=n->W=cc (n-j) j*p^j)/\j<=k+1/\(lim W).length<=60000 /\
     ((j=0/\s2.tmp 11 = .nil/\s2.gen 54=0)\/(0<j/\s2.tmp 11 = .ref 54 0 1 0 j/\s2.obj 54 0=some (rowsC (termN p f n) j))))
   (fun s=>match s.tmp 12 with | .sv (.int _ i)=>k+1-i.toNat|_=>0) ⟨i0,i1,i7,i9,iO,0,1,rfl,rfl,fun _=>by rw[cc_zero,yk],by omega,by omega,.inl ⟨rfl,rfl,ig⟩⟩ ?_
  rintro s2 ⟨j0,j1,j7,j9,jO,j,W,j12,j10,hW,hj,hlW,hl⟩
  by_cases hend2:j=k+1
  ·subst hend2;rcases hl with⟨h0,_⟩|⟨_,j11,jL⟩
   ·omega
   ·repeat (first|simp only[go_sem,j0,j1,j7,j9,jO,j12,j10,j11,jL]|simp (disch:=first|exact omg|fail) only[AX,j0,j1,j7,j9,jO,j12,j10,j11,jL]|refine wki ?_)
    refine ro_ref (cs:=rowsC (termN p f n) (k+1)) (by decide) ?_ ?_
    ·simp only[go_sem,j11,jL]
    ·rw[xf,xu,xH (Nat.le_of_eq (rows_len _ _))]
  ·have hjn:j<=n:=by omega
   have hWj:=hW hjn;have hat:=rows_at (fun j=>f^j) (i:=n+1) (j:=n-j);have hle2:=rows_len (fun j=>f^j) (n+1);have hsn:=rows_snoc (termN p f n) j;have hrl:=rows_len (termN p f n) j;have hl2:=lfp (n-j) (by omega);have hM1:=nat_MulL (N:=W) (D:=f^(n-j));have hterm:W*f^(n-j)=termN p f n j:=by rw[hWj];rfl
   rw[hterm]at hM1;have hM2:=nat_MulL (N:=W) (D:=p);have g2:=lim_len_mul (a:=W) (b:=p);have oN:=nat_Of (n-j);have lN:=lim_len_one (a:=n-j);have hM3:=nat_MulL (N:=W*p) (D:=n-j);have g3:=lim_len_mul (a:=W*p) (b:=n-j);have oJ:=nat_Of (j+1);have lJ:=lim_len_one (a:=j+1);have hO:=fix_Over (N:=W*p*(n-j)) (D:=j+1);have hnew:j+1<=n->W*p*(n-j)/(j+1)=cc (n-(j+1)) (j+1)*p^(j+1):=fun h=>by rw[hWj,ways_step]
   have hWl:(lim (W*p*(n-j)/(j+1))).length<=60000:=by
    rcases xk j n with h|h
    ·rw[hnew h];have:=lw (j+1) h;omega
    ·rw[show n-j=0 by omega,yY,Nat.zero_div,lim_zero];simp
   generalize W*p*(n-j)/(j+1)=W2 at *
   have e3:((n-j:Nat):Int)%18446744073709551616=((n-j:Nat):Int):=by omega
   rcases hl with⟨h0,j11,jg⟩|⟨hj0,j11,jL⟩
   ·subst h0;simp only[Nat.sub_zero]at hat hM1 oN hM3 hO;repeat (first|simp only[go_sem,j0,j1,j7,j9,jO,j12,j10,j11,jg,N0,hat,hsn,hrl]|simp (disch:=first|exact omg|fail) only[AX,j0,j1,j7,j9,jO,j12,j10,j11,jg,N0,hat,hsn,hrl]|refine wki ?_|refine vfa ?_)
    exact⟨⟨1,W2,rfl,rfl,hnew,by omega,hWl,.inr ⟨by omega,rfl,rfl⟩⟩,by omega⟩
   ·repeat (first|simp only[go_sem,j0,j1,j7,j9,jO,j12,j10,j11,jL,N0,hat]|simp (disch:=first|exact omg|fail) only[AX,j0,j1,j7,j9,jO,j12,j10,j11,jL,N0,hat]|refine wki ?_)
    repeat (first|simp only[go_sem,j0,j1,j7,j9,jO,j12,j10,j11,jL,N0,hat,hsn,hrl]|simp (disch:=first|exact omg|fail) only[AX,j0,j1,j7,j9,jO,j12,j10,j11,jL,N0,hat,hsn,hrl]|refine wki ?_|refine vfa ?_)
    exact⟨⟨j+1,W2,rfl,rfl,hnew,by omega,hWl,.inr ⟨by omega,rfl,rfl⟩⟩,by omega⟩
 ·have hat:=rows_at (fun j=>f^j) (i:=i) (j:=i-1);have hsn:=rows_snoc (fun j=>f^j) i;have hl1:=lfp (i-1) (by omega);have hM:=nat_MulL (N:=f^(i-1)) (D:=f);rw[<- xW,show (i-1).succ=i by omega]at hM;repeat (first|simp only[go_sem,i0,i1,i7,i8,i9,iO,N0,hat,hsn,hlen]|simp (disch:=first|exact omg|fail) only[AX,i0,i1,i7,i8,i9,iO,N0,hat,hsn,hlen]|refine wki ?_|refine vfa ?_)
  exact⟨⟨ig,i+1,by omega,by omega,rfl,rfl⟩,by omega⟩
theorem term_len {p f n:Nat} (hn:n<=256) (hp:(lim p).length<=100) (hf:(lim f).length<=100) (j:Nat) (hj:j<=n):(lim (termN p f n j)).length<=90000:=by
 have h1:=pow_lim_len p j;have h2:(lim p).length*j<=100*256:=xJ hp (by omega);have h3:=pow_lim_len f (n-j);have h4:(lim f).length*(n-j)<=100*256:=xJ hf (by omega);have h5:=cc_lim (m:=n-j) (k:=j);have h6:=lim_len_mul (a:=cc (n-j) j) (b:=p^j);have h7:=lim_len_mul (a:=cc (n-j) j*p^j) (b:=f^(n-j));unfold termN;omega
theorem disc_sum {v:SV} {x:Rat} {L:Nat} {n k:Nat} {g:Nat->Nat} {S:Nat->Nat} (hv:RatA v x L) (hL:1<=L) (hL2:L<=100) (hn:n<=256) (hk:k<=1000) (hS0:S 0=0) (hS : ∀j,S (j+1)=S j+g j) (hg : ∀j,j<k->(lim (g j)).length<=90000) (hSl : ∀j,j<=k->(lim (S j)).length<=100000) :
  Go.Ev.Fn CX 126 [.int .i64 (n:Int),v,.sl k (rowsC g k)] (rv (mkRat (S k:Nat) (x.den^n))):=by
 have hN:=rat_Norm hv;obtain⟨z1,z2⟩:=szR_of hv hL;obtain⟨s,y,d,rfl,-⟩:=hv;have hpw:=disc_power x.den n hn;have hpl:=pow_lim_len x.den n;have hpl2:(lim x.den).length*n<=100*256:=xJ (by omega) hn;have hOf:=rat_OfL (s:=false) (n:=S k) (d:=x.den^n) (by have:=hSl k (xU k);omega);rw[show sgn false (S k)=((S k:Nat):Int) from rfl]at hOf;refine fni Tryz.f126 ?_;unfold Tryz.f126;repeat (first|simp only[go_sem]|simp (disch:=first|exact omg|fail) only[AX]|refine wki ?_)
 refine vp_loop_inv (fun s'=>s'.tmp 0 = .sv (.int .i64 (n:Int))/\s'.tmp 4 = .ptr 4 0 0/\s'.obj 4 0=some [.bool s,natV y,natV d]/\s'.tmp 6 = .ptr 6 0 0/\s'.obj 6 0=some [.bool false,.sl 0 [],.sl 0 []]/\s'.tmp 10 = .sv (.sl k (rowsC g k))/\s'.tmp 11 = .sv (.int .i64 (k:Int)) /\
   ∃i:Nat,s'.tmp 12 = .sv (.int .i64 (i:Int))/\i<=k/\((i=0/\s'.tmp 7 = .nil)\/s'.tmp 7 = .sv (natV (lim (S i)))))
  (fun s=>match s.tmp 12 with | .sv (.int _ i)=>k-i.toNat|_=>0) ⟨rfl,rfl,rfl,rfl,rfl,rfl,rfl,0,rfl,by omega,.inl ⟨rfl,rfl⟩⟩ ?_
 rintro s' ⟨i0,i4,iP,i6,iR,i10,i11,i,i12,hi,h7⟩
 by_cases hend:i=k
 ·subst hend;rcases h7 with⟨h0,i7⟩|i7
  ·rw[h0,hS0,lim_zero]at hOf;rw[h0,hS0];repeat (first|simp only[go_sem,i0,i4,iP,i6,iR,i10,i11,i12,i7]|simp (disch:=first|exact omg|fail) only[AX,i0,i4,iP,i6,iR,i10,i11,i12,i7]|refine wki ?_|refine vfa ?_)
  ·repeat (first|simp only[go_sem,i0,i4,iP,i6,iR,i10,i11,i12,i7]|simp (disch:=first|exact omg|fail) only[AX,i0,i4,iP,i6,iR,i10,i11,i12,i7]|refine wki ?_)
   repeat (first|simp only[go_sem,i0,i4,iP,i6,iR,i7]|simp (disch:=first|exact omg|fail) only[AX,i0,i4,iP,i6,iR,i7]|refine wki ?_|refine vfa ?_)
 ·have hat:=rows_at g (i:=k) (j:=i);have hrl:=rows_len g k;have hl1:=hg i (by omega);have hl2:=hSl i (by omega);have hA:=nat_AddL (N:=S i) (D:=g i);rw[<- hS]at hA;rcases h7 with⟨h0,i7⟩|i7
  ·subst h0;rw[hS0,lim_zero]at hA;rw[xf]at hat;repeat (first|simp only[go_sem,i0,i4,iP,i6,iR,i10,i11,i12,i7,hat,hrl]|simp (disch:=first|exact omg|fail) only[AX,i0,i4,iP,i6,iR,i10,i11,i12,i7,hat,hrl]|refine wki ?_|refine vfa ?_)
   exact⟨⟨1,rfl,by omega,.inr rfl⟩,by omega⟩
  ·repeat (first|simp only[go_sem,i0,i4,iP,i6,iR,i10,i11,i12,i7,hat,hrl]|simp (disch:=first|exact omg|fail) only[AX,i0,i4,iP,i6,iR,i10,i11,i12,i7,hat,hrl]|refine wki ?_)
   refine vfa ?_;repeat (first|simp only[go_sem,i0,i4,iP,i6,iR,i10,i11,i12,i7,hat,hrl]|simp (disch:=first|exact omg|fail) only[AX,i0,i4,iP,i6,iR,i10,i11,i12,i7,hat,hrl]|refine wki ?_)
   exact⟨⟨i+1,rfl,by omega,.inr rfl⟩,by omega⟩
end Go.Proofs.YtfknkoeagjonbaaGreat
namespace Go.Proofs.YtfknkoeagjonbaaGreat
open Go.Ev
theorem not_lt_dec' {q r:Rat}:(!decide (q<r))=decide (r<=q):=by
 by_cases h:q<r
 ·rw[decide_eq_true h,decide_eq_false (show ¬r<=q by grind)];rfl
 ·rw[decide_eq_false h,decide_eq_true (show r<=q by grind)];rfl
theorem ref13_bad {v:SV} {x:Rat} {L:Nat} {n:Int} (hv:RatA v x L) (hL:1<=L) (h:L<=524288:=by omega):Go.Ev.Fn CX 64 [.int .i64 n,v] (.bool (!tryD n x)):=by
 have r0:=ref2_Int 0;have r1:=ref2_Int 1;have c0:=ref2_Cmp hv (RatA_rv (int_szR (n:=0))) hL;have c1:=ref2_Cmp hv (RatA_rv (int_szR (n:=1))) hL;have e0:decide (cmpR x ((0:Int):Rat)<0)=decide (x<((0:Int):Rat)):=cmpR_lt;have e1:decide (cmpR x ((1:Int):Rat)>0)=decide (((1:Int):Rat)<x):=cmpR_gt;have d0:decide (0<=x) = !decide (x<((0:Int):Rat)):=not_lt_dec'.symm;have d1:decide (x<=1) = !decide (((1:Int):Rat)<x):=not_lt_dec'.symm;unfold tryD;rw[d0,d1];obtain⟨s,y,d,rfl,-⟩:=hv;generalize decide (x<((0:Int):Rat))=b at *
 generalize decide (((1:Int):Rat)<x)=c at *
 clear d0 d1;by_cases h1:0<=n
 ·rw[decide_eq_true h1,yL];by_cases h2:n<=256
  ·rw[decide_eq_true h2,yL];cases b
   ·cases c;all_goals
     refine fni Tryz.f64 ?_;unfold Tryz.f64;repeat (first|simp only[go_sem,e0,e1]|simp (disch:=first|exact omg|fail) only[AX,e0,e1]|refine wki ?_|refine vpd 1 [] ?_|refine vfa ?_)
     rfl
   ·rw[show (!(!true && !c))=true from rfl];refine fni Tryz.f64 ?_;unfold Tryz.f64;repeat (first|simp only[go_sem,e0]|simp (disch:=first|exact omg|fail) only[AX,e0]|refine wki ?_|refine vpd 1 [] ?_|refine vfa ?_)
  ·rw[decide_eq_false h2,yS];refine fni Tryz.f64 ?_;unfold Tryz.f64;repeat (first|simp only[go_sem]|simp (disch:=first|exact omg|fail) only[AX]|refine wki ?_|refine vpd 1 [] ?_)
   rfl
 ·rw[decide_eq_false h1,yS];refine fni Tryz.f64 ?_;unfold Tryz.f64;repeat (first|simp only[go_sem]|simp (disch:=first|exact omg|fail) only[AX]|refine wki ?_|refine vpd 1 [] ?_)
  rfl
theorem rows_first (g:Nat->Nat) (h:g 0=1):[natV [1]]=rowsC g 1:=by
 show [natV [1]]=[natV (lim (g 0))]
 rw[h,lim_one]
theorem ref13_powers {X n:Nat} (hn:n<=256) (hX:(lim X).length<=100:=by omega):Go.Ev.Fn CX 127 [natV (lim X),.int .i64 (n:Int)] (.sl (n+1) (rowsC (fun j=>X^j) (n+1))):=by
 have h1:=rows_first (fun j=>X^j) (yk X);have lp : ∀i,i<=n->(lim (X^i)).length<=25601:=by
  intro i hi;have h1:=pow_lim_len X i;have h2:(lim X).length*i<=100*256:=xJ (by omega) (by omega);omega
 refine fni Tryz.f127 ?_;unfold Tryz.f127;repeat (first|simp only[go_sem]|simp (disch:=first|exact omg|fail) only[AX]|refine wki ?_)
 refine vp_loop_inv (fun s=>s.tmp 0 = .sv (natV (lim X))/\s.tmp 1 = .sv (.int .i64 (n:Int)) /\
   ∃i:Nat,i<=n/\s.tmp 6 = .sv (.int .i64 (i:Int))/\s.tmp 5 = .ref 8 0 1 0 (i+1)/\s.obj 8 0=some (rowsC (fun j=>X^j) (i+1)))
  (fun s=>match s.tmp 6 with | .sv (.int _ i)=>n-i.toNat|_=>0) ⟨rfl,rfl,0,by omega,rfl,rfl,by first|exact congrArg some h1|skip⟩ ?_
 rintro s ⟨i0,i1,i,hi,i6,i5,iO⟩
 have hlen:=rows_len (fun j=>X^j) (i+1);by_cases hend:i=n
 ·subst hend;repeat (first|simp only[go_sem,i0,i1,i6,i5,iO]|simp (disch:=first|exact omg|fail) only[AX,i0,i1,i6,i5,iO]|refine wki ?_)
  refine ro_ref (cs:=rowsC (fun j=>X^j) (i+1)) (by decide) ?_ ?_
  ·simp only[go_sem,i5,iO]
  ·rw[xf,xu,xH (Nat.le_of_eq (rows_len _ _))]
 ·have hat:=rows_at (fun j=>X^j) (i:=i+1) (j:=i);have hsn:=rows_snoc (fun j=>X^j) (i+1);have hl1:=lp i (by omega);have hM:=ref1_MulL (N:=X^i) (D:=X);rw[<- xW]at hM;repeat (first|simp only[go_sem,i0,i1,i6,i5,iO,N0,hat,hsn,hlen]|simp (disch:=first|exact omg|fail) only[AX,i0,i1,i6,i5,iO,N0,hat,hsn,hlen]|refine wki ?_|refine vfa ?_)
  exact⟨⟨i+1,by omega,rfl,rfl,rfl⟩,by omega⟩
end Go.Proofs.YtfknkoeagjonbaaGreat
namespace Go.Proofs.YtfknkoeagjonbaaGreat
open Go.Ev
theorem rv_nat (c:Nat):rv ((c:Nat):Rat)=ratV false (lim c) (lim 1):=by
 show ratV (decide (((c:Nat):Rat).num<0)) (lim ((c:Nat):Rat).num.natAbs) (lim ((c:Nat):Rat).den)=_;rw[Rat.num_natCast,Rat.den_natCast,xK,decide_eq_false (by omega)]
theorem chR_in {n j:Nat} (h:j<=n) (hn:n<=512:=by omega):chR (n:Int) (j:Int)=cc (n-j) j:=by
 unfold chR;rw[if_pos ⟨by omega,by omega,by omega,by omega⟩,show ((n:Int)-(j:Int)).toNat=n-j by omega,wH]
theorem ref13_parts {v:SV} {x:Rat} {L:Nat} {n:Nat} (hv:RatA v x L) (hL:1<=L) (hL2:L<=100) (hn:n<=256:=by omega) :
  Go.Ev.Fn CX 65 [.int .i64 (n:Int),v] (.tup [.sl (n+1) (rowsC (termN x.num.natAbs (x.den-x.num.natAbs) n) (n+1)),natV (lim (x.den^n))]):=by
 have hN:=ref2_Norm hv;obtain⟨z1,z2⟩:=szR_of hv hL;obtain⟨s,y,d,rfl,-⟩:=hv;generalize hp:x.num.natAbs=p at *
 generalize hd:x.den=D at *
 have hS:=ref1_SubL (N:=D) (D:=p);have hf:=lim_len_mono (zY D p);generalize hff:D-p=f at *
 have p1:=ref13_powers (X:=p) (n:=n) hn;have p2:=ref13_powers (X:=f) (n:=n) hn;have p3:=ref13_powers (X:=D) (n:=n) hn;have tlast:=rows_at (fun j=>D^j) (i:=n+1) (j:=n);have l1:=rows_len (fun j=>p^j) (n+1);have l2:=rows_len (fun j=>f^j) (n+1);have l3:=rows_len (fun j=>D^j) (n+1);have pl : ∀ (X:Nat) (i:Nat),(lim X).length<=100->i<=n->(lim (X^i)).length<=25601:=by
  intro X i hX hi;have h1:=pow_lim_len X i;have h2:(lim X).length*i<=100*256:=xJ hX (by omega);omega
 refine fni Tryz.f65 ?_;unfold Tryz.f65;repeat (first|simp only[go_sem,hp,hd]|simp (disch:=first|exact omg|fail) only[AX,hp,hd]|refine wki ?_|refine vpd 3 [25,7,32] ?_|refine vpd 8 [48,54,44,55] ?_|refine vpd 9 [] ?_|refine vf_of (by first|exact hN|exact hS|exact p1|exact p2|exact p3) ?_)
 refine vp_loop_inv (fun s=>s.tmp 0 = .sv (.int .i64 (n:Int))/\s.tmp 9 = .sv (.sl (n+1) (rowsC (fun j=>p^j) (n+1)))/\s.tmp 10 = .sv (.sl (n+1) (rowsC (fun j=>f^j) (n+1)))/\s.tmp 11 = .sv (.sl (n+1) (rowsC (fun j=>D^j) (n+1))) /\
   ∃j:Nat,s.tmp 13 = .sv (.int .i64 (j:Int))/\j<=n+1/\((j=0/\s.tmp 12 = .nil/\s.gen 58=0/\s.tmp 44 = .undef/\s.tmp 48 = .undef/\s.tmp 54 = .undef/\s.tmp 55 = .undef) \/
    (0<j/\s.tmp 12 = .ref 58 0 1 0 j/\s.obj 58 0=some (rowsC (termN p f n) j) /\ ∃w x y z,s.tmp 44 = .sv w/\s.tmp 48 = .sv x/\s.tmp 54 = .sv y/\s.tmp 55 = .sv z)))
  (fun s=>match s.tmp 13 with | .sv (.int _ i)=>n+1-i.toNat|_=>0) ⟨rfl,rfl,rfl,rfl,0,rfl,by omega,.inl ⟨rfl,rfl,rfl,rfl,rfl,rfl,rfl⟩⟩ ?_
 rintro s2 ⟨i0,i9,i10,i11,j,i13,hj,hl⟩
 by_cases hend:j=n+1
 ·subst hend;rcases hl with⟨h0,_⟩|⟨_,j12,jL,-⟩
  ·omega
  ·repeat (first|simp only[go_sem,i0,i9,i10,i11,i13,j12,jL,tlast,l3]|simp (disch:=first|exact omg|fail) only[AX,i0,i9,i10,i11,i13,j12,jL,tlast,l3]|refine wki ?_|refine vpd 3 [25,7,32] ?_|refine vpd 8 [48,54,44,55] ?_|refine vpd 9 [] ?_)
   refine ro_ref (cs:=rowsC (termN p f n) (n+1)) (by decide) ?_ ?_
   ·simp only[go_sem,j12,jL]
   ·rw[xf,xu,xH (Nat.le_of_eq (rows_len _ _))]
 ·have hjn:j<=n:=by omega
  have a1:=rows_at (fun j=>p^j) (i:=n+1) (j:=j);have a2:=rows_at (fun j=>f^j) (i:=n+1) (j:=n-j);have hsn:=rows_snoc (termN p f n) j;have hrl:=rows_len (termN p f n) j;have lp:=pl p j (by omega) hjn;have lf:=pl f (n-j) (by omega) (by omega);have hCh:=ref9_Choose (n:Int) (j:Int);rw[chR_in hjn,rv_nat]at hCh;have lc:=cc_lim (m:=n-j) (k:=j);have m1:=ref1_MulL (N:=p^j) (D:=f^(n-j));have lm:=lim_len_mul (a:=p^j) (b:=f^(n-j));have m2:=ref1_MulL (N:=cc (n-j) j) (D:=p^j*f^(n-j));rw[<- xP,show cc (n-j) j*p^j*f^(n-j)=termN p f n j from rfl]at m2;clear lc lm lp lf pl
  rcases hl with⟨h0,j12,jg,k1,k2,k3,k4⟩|⟨hj0,j12,jL,w,x',y',z,k1,k2,k3,k4⟩
  ·subst h0;rw[xf]at a1;simp only[Nat.sub_zero]at a2 m1 m2 hCh;repeat (first|simp only[go_sem,i0,i9,i10,i11,i13,j12,jg,N0,a1,a2,l1,l2,k1,k2,k3,k4,hsn,hrl]|simp (disch:=first|exact omg|fail) only[AX,i0,i9,i10,i11,i13,j12,jg,N0,a1,a2,l1,l2,k1,k2,k3,k4,hsn,hrl]|refine wki ?_|refine vpd 3 [25,7,32] ?_|refine vpd 8 [48,54,44,55] ?_|refine vpd 9 [] ?_|refine vfa ?_)
   exact⟨⟨1,rfl,by omega,.inr ⟨by omega,rfl,rfl,_,_,_,_,rfl,rfl,rfl,rfl⟩⟩,by omega⟩
  ·repeat (first|simp only[go_sem,i0,i9,i10,i11,i13,j12,jL,N0,a1,a2,l1,l2,k1,k2,k3,k4]|simp (disch:=first|exact omg|fail) only[AX,i0,i9,i10,i11,i13,j12,jL,N0,a1,a2,l1,l2,k1,k2,k3,k4]|refine wki ?_|refine vpd 3 [25,7,32] ?_|refine vpd 8 [48,54,44,55] ?_|refine vpd 9 [] ?_)
   repeat (first|simp only[go_sem,i0,i9,i10,i11,i13,j12,jL,N0,a1,a2,l1,l2,hsn,hrl]|simp (disch:=first|exact omg|fail) only[AX,i0,i9,i10,i11,i13,j12,jL,N0,a1,a2,l1,l2,hsn,hrl]|refine wki ?_|refine vpd 3 [25,7,32] ?_|refine vpd 8 [48,54,44,55] ?_|refine vpd 9 [] ?_|refine vfa ?_)
   exact⟨⟨j+1,rfl,by omega,.inr ⟨by omega,rfl,rfl,_,_,_,_,rfl,rfl,rfl,rfl⟩⟩,by omega⟩
end Go.Proofs.YtfknkoeagjonbaaGreat
namespace Go.Proofs.YtfknkoeagjonbaaGreat
open Go.Ev
def natsC (l:List Nat):List SV:=l.map fun t=>natV (lim t)
theorem natsC_len (l:List Nat):(natsC l).length=l.length:=xd _
theorem natsC_rows (l:List Nat):natsC l=rowsC (fun j=>l.getD j 0) l.length:=by
 unfold natsC;refine List.ext_getElem (by simp) fun j h1 h2 => ?_
 have hj:j<l.length:=by simpa using h1
 rw[we,we,List.getElem_range];show natV (lim l[j])=natV (lim (l.getD j 0));rw[xC,xD hj];rfl
def selL (T:Nat->Nat) (c:Nat):Nat->List Nat
 |0=>[]
 |i+1=>if T i<=c then selL T c i++[T i] else selL T c i
theorem selL_len (T:Nat->Nat) (c:Nat) : ∀i,(selL T c i).length<=i
 |0=>xU 0
 |i+1=>by
  have:=selL_len T c i;unfold selL;split
  ·rw[xq];simp;omega
  ·omega
theorem selL_mem {T:Nat->Nat} {c:Nat} : ∀ {i x},x∈selL T c i -> ∃j,j<i/\x=T j
 |0,x,h=>by cases h
 |i+1,x,h=>by
  unfold selL at h;split at h
  ·rcases List.mem_append.1 h with h|h
   ·obtain⟨j,hj,e⟩:=selL_mem h;exact⟨j,by omega,e⟩
   ·rw[List.mem_singleton]at h;exact⟨i,by omega,h⟩
  ·obtain⟨j,hj,e⟩:=selL_mem h;exact⟨j,by omega,e⟩
def selS (T:Nat->Nat) (c:Nat):Nat->Nat
 |0=>0
 |i+1=>if T i<=c then selS T c i+T i else selS T c i
theorem selS_lim {T:Nat->Nat} {c n:Nat} (h : ∀j,j<=n->(lim (T j)).length<=90000) : ∀i,i<=n+1->(lim (selS T c i)).length<=90000+i
 |0,_=>by rw[show selS T c 0=0 from rfl,lim_zero];simp
 |i+1,hi=>by
  have:=selS_lim (c:=c) h i (by omega);have h2:=h i (by omega);unfold selS;split
  ·have:=lim_len_add2 (a:=selS T c i) (b:=T i) (L:=90000+i) this;omega
  ·omega
def preS (l:List Nat):Nat->Nat
 |0=>0
 |i+1=>preS l i+l.getD i 0
theorem preS_lim {l:List Nat} (h : ∀x∈l,(lim x).length<=90000) : ∀i,(lim (preS l i)).length<=90000+i
 |0=>by rw[show preS l 0=0 from rfl,lim_zero];simp
 |i+1=>by
  have h1:=preS_lim h i;have h2:(lim (l.getD i 0)).length<=90000:=by
   rw[xC];by_cases hi:i<l.length
   ·rw[xD hi];exact h _ (yQ hi)
   ·rw[xh (by omega)];show (lim 0).length<=_;rw[lim_zero];simp
  have:=lim_len_add2 (a:=preS l i) (b:=l.getD i 0) (L:=90000+i) h1;show (lim (preS l i+l.getD i 0)).length<=_;omega
theorem cmpN_le' {a b:Nat}:decide (cmpN a b<=0)=decide (a<=b):=by
 unfold cmpN;by_cases h:a<b
 ·rw[if_pos h,decide_eq_true (show a<=b by omega)];rfl
 ·rw[if_neg h];by_cases h2:a=b
  ·rw[if_pos h2,decide_eq_true (show a<=b by omega)];rfl
  ·rw[if_neg h2,decide_eq_false (show ¬a<=b by omega)];rfl
def twoD (n k:Int) (x:Rat):Bool:=tryD n x&&(decide (0<=k)&&decide (k<=n))
theorem twoD_false {n k:Int} {x:Rat} (h:twoD n k x=false) (ht:tryD n x=true):k<0\/n<k:=by
 unfold twoD at h;rw[ht,yL]at h;by_cases h1:0<=k
 ·rw[decide_eq_true h1,yL]at h;have:=of_decide_eq_false h;omega
 ·omega
theorem twoD_true {n k:Int} {x:Rat} (h:twoD n k x=true):tryD n x=true/\0<=k/\k<=n/\n<=256/\0<=x/\x<=1:=by
 unfold twoD tryD at *
 simp only[xj,decide_eq_true_eq]at h ⊢;exact⟨h.1,h.2.1,h.2.2,h.1.2.1,h.1.2.2.1,h.1.2.2.2⟩
theorem preS_pre (l:List Nat) (x:Nat) : ∀i,i<=l.length->preS (l++[x]) i=preS l i
 |0,_=>rfl
 |i+1,hi=>by
  have:=preS_pre l x i (by omega);show preS (l++[x]) i+(l++[x]).getD i 0=preS l i+l.getD i 0;rw[this,xC,xC,ye (by omega)]
theorem preS_selL (T:Nat->Nat) (c:Nat) : ∀i,preS (selL T c i) (selL T c i).length=selS T c i
 |0=>rfl
 |i+1=>by
  have ih:=preS_selL T c i;by_cases h:T i<=c
  ·rw[show selL T c (i+1)=selL T c i++[T i] by rw[selL,if_pos h],show selS T c (i+1)=selS T c i+T i by rw[selS,if_pos h],xq];show preS (selL T c i++[T i]) (selL T c i).length+(selL T c i++[T i]).getD (selL T c i).length 0=_;rw[preS_pre _ _ _ (xU _),ih,xC,yi (xU _),Nat.sub_self];rfl
  ·rw[show selL T c (i+1)=selL T c i by rw[selL,if_neg h],show selS T c (i+1)=selS T c i by rw[selS,if_neg h]];exact ih
def binT (n k:Int) (x:Rat):Rat:=if twoD n k x then mkRat ((selS (termN x.num.natAbs (x.den-x.num.natAbs) n.toNat) (termN x.num.natAbs (x.den-x.num.natAbs) n.toNat k.toNat) (n.toNat+1):Nat):Int) (x.den^n.toNat) else 0
set_option maxHeartbeats 1000000 in
theorem disc_BinomTwoE {v:SV} {x:Rat} {L:Nat} {n k:Int} (hv:RatA v x L) (hL:1<=L) (hL2:L<=100) (hn : -9223372036854775808<=n/\n<9223372036854775808) (hk : -9223372036854775808<=k/\k<9223372036854775808) :
  Go.Ev.Fn CX 63 [.int .i64 n,.int .i64 k,v] (.tup [rv (binT n k x),.bool (twoD n k x)]):=by
 unfold binT;have hT:=disc_isTry (n:=n) hv hL;have r0:=rat_Int 0;cases h2:twoD n k x
 ·rw[if_neg (by simp)];rw[show ((0:Int):Rat)=0 from rfl]at r0;cases ht:tryD n x
  ·rw[ht]at hT;obtain⟨s,y,d,rfl,-⟩:=hv;refine fni Tryz.f63 ?_;unfold Tryz.f63;repeat (first|simp only[go_sem,xn,xQ]|simp (disch:=first|exact omg|fail) only[AX,xn,xQ]|refine wki ?_|refine vfa ?_)
  ·have hb:=twoD_false h2 ht;rw[ht]at hT;obtain⟨s,y,d,rfl,-⟩:=hv;by_cases hk0:k<0
   ·refine fni Tryz.f63 ?_;unfold Tryz.f63;repeat (first|simp only[go_sem,xn,xQ]|simp (disch:=first|exact omg|fail) only[AX,xn,xQ]|refine wki ?_|refine vfa ?_)
   ·have hkn:n<k:=by omega
    refine fni Tryz.f63 ?_;unfold Tryz.f63;repeat (first|simp only[go_sem,xn,xQ]|simp (disch:=first|exact omg|fail) only[AX,xn,xQ]|refine wki ?_|refine vfa ?_)
 ·obtain⟨ht,hk0,hkn,hn2,hx0,hx1⟩:=twoD_true h2;rw[ht]at hT;obtain⟨N,rfl⟩ : ∃N:Nat,n=(N:Int):=⟨n.toNat,by omega⟩
  obtain⟨K,rfl⟩ : ∃K:Nat,k=(K:Int):=⟨k.toNat,by omega⟩
  rw[if_pos rfl,wH,wH];obtain⟨hab,-⟩:=unit_num hx0 hx1;have tr:=disc_tries (n:=N) (k:=N) hv hL hL2 (by omega) (by omega) hab;obtain⟨z1,z2⟩:=szR_of hv hL;have hf:=lim_len_mono (zY x.den x.num.natAbs);have tl:=fun j (hj:j<=N)=>term_len (p:=x.num.natAbs) (f:=x.den-x.num.natAbs) (n:=N) (by omega) (by omega) (by omega) j hj
  have hlen:=rows_len (termN x.num.natAbs (x.den-x.num.natAbs) N) (N+1);have hall:=fun j (hj:j<N+1)=>rows_at (termN x.num.natAbs (x.den-x.num.natAbs) N) (i:=N+1) (j:=j) hj
  generalize hTT:termN x.num.natAbs (x.den-x.num.natAbs) N=T at *
  have hsm : ∀y∈selL T (T K) (N+1),(lim y).length<=90000:=by
   intro y hy;obtain⟨j,hj,rfl⟩:=selL_mem hy;exact tl j (by omega)
  have hsl:=selL_len T (T K);have hK:=hsl (N+1);have sm:=disc_sum (n:=N) (k:=(selL T (T K) (N+1)).length) (g:=fun j=>(selL T (T K) (N+1)).getD j 0) (S:=preS (selL T (T K) (N+1))) hv hL hL2 (by omega) (by omega) rfl (fun _=>rfl)
   (fun j hj=>hsm _ (by rw[xC,xD hj];exact yQ hj)) (fun j hj=>by have:=preS_lim hsm j;omega)
  rw[<- natsC_rows]at sm;rw[preS_selL]at sm;generalize mkRat ((selS T (T K) (N+1):Nat):Int) (x.den^N)=qq at *
  obtain⟨s,y,d,rfl,-⟩:=hv;have hatK:=hall K (by omega);have tlK:=tl K (by omega);generalize rowsC T (N+1)=rc at *
  refine fni Tryz.f63 ?_;unfold Tryz.f63;repeat (first|simp only[go_sem,xn,xQ]|simp (disch:=first|exact omg|fail) only[AX,xn,xQ]|refine wki ?_|refine vfa ?_)
  refine vp_loop_inv (fun s'=>s'.tmp 0 = .sv (.int .i64 (N:Int))/\s'.tmp 1 = .sv (.int .i64 (K:Int))/\s'.tmp 5 = .ptr 5 0 0/\s'.obj 5 0=some [.bool s,natV y,natV d]/\s'.tmp 6 = .ptr 6 0 0/\s'.obj 6 0=some [.bool false,.sl 0 [],.sl 0 []]/\s'.tmp 8 = .sv (.sl (N+1) rc)/\s'.tmp 30 = .sv (.sl (N+1) rc)/\s'.tmp 31 = .sv (.int .i64 ((N+1:Nat):Int)) /\
    ∃i:Nat,s'.tmp 32 = .sv (.int .i64 (i:Int))/\i<=N+1/\(((selL T (T K) i).length=0/\s'.tmp 9 = .nil/\s'.gen 46=0)\/(0<(selL T (T K) i).length/\s'.tmp 9 = .ref 46 0 1 0 (selL T (T K) i).length/\s'.obj 46 0=some (natsC (selL T (T K) i)))))
   (fun s=>match s.tmp 32 with | .sv (.int _ i)=>N+1-i.toNat|_=>0) ⟨rfl,rfl,rfl,rfl,rfl,rfl,rfl,rfl,rfl,0,rfl,by omega,.inl ⟨rfl,rfl,rfl⟩⟩ ?_
  rintro s2 ⟨i0,i1,i5,o5,i6,o6,i8,i30,i31,i,i32,hi,hc⟩
  by_cases hend:i=N+1
  ·subst hend;have hnl:=natsC_len (selL T (T K) (N+1));generalize natsC (selL T (T K) (N+1))=nc at *
   generalize (selL T (T K) (N+1)).length=r at *
   rcases hc with⟨h0,i9,_⟩|⟨h0,i9,o9⟩
   ·have hn0:nc=[]:=wD (by omega);rw[h0,hn0]at sm;clear hall hsm hsl tl;repeat (first|simp only[go_sem,i0,i1,i5,o5,i6,o6,i8,i30,i31,i32,i9]|simp (disch:=first|exact omg|fail) only[AX,i0,i1,i5,o5,i6,o6,i8,i30,i31,i32,i9]|refine wki ?_|refine vfa ?_)
   ·have htk:nc.take r=nc:=xH (by omega);clear hall hsm hsl tl;repeat (first|simp only[go_sem,i0,i1,i5,o5,i6,o6,i8,i30,i31,i32,i9,o9,htk,xf,N0]|simp (disch:=first|exact omg|fail) only[AX,i0,i1,i5,o5,i6,o6,i8,i30,i31,i32,i9,o9,htk,xf,N0]|refine wki ?_|refine vfa ?_)
  ·have g1:=hall i (by omega);have tli:=tl i (by omega);have hc1:=nat_CmpL (N:=T i) (D:=T K);have ec:decide (cmpN (T i) (T K)<=0)=decide (T i<=T K):=cmpN_le';have hsli:=hsl i;have hnl:=natsC_len (selL T (T K) i);have hsel:selL T (T K) (i+1)=if T i<=T K then selL T (T K) i++[T i] else selL T (T K) i:=rfl
   generalize hE:selL T (T K) i=l at *
   by_cases hle:T i<=T K
   ·rw[if_pos hle]at hsel;rw[decide_eq_true hle]at ec;have hn2':natsC (selL T (T K) (i+1))=natsC l++[natV (lim (T i))]:=by rw[hsel];unfold natsC;rw[wl];rfl
    have hl2:(selL T (T K) (i+1)).length=l.length+1:=by rw[hsel];simp
    generalize hF:selL T (T K) (i+1)=l' at *
    clear hall hsm hsl tl sm hsel hle;generalize natsC l=nc at *
    generalize l.length=r at *
    rcases hc with⟨h0,i9,ig⟩|⟨h0,i9,o9⟩
    ·have hn0:nc=[]:=wD (by omega);subst hn0 h0;repeat (first|simp only[go_sem,i0,i1,i5,o5,i6,o6,i8,i30,i31,i32,i9,ig,g1,hatK,hlen,N0,ec]|simp (disch:=first|exact omg|fail) only[AX,i0,i1,i5,o5,i6,o6,i8,i30,i31,i32,i9,ig,g1,hatK,hlen,N0,ec]|refine wki ?_|refine vfa ?_)
     exact⟨⟨i+1,rfl,by omega,.inr (by rw[hF,hl2,hn2'];exact⟨by omega,rfl,rfl⟩)⟩,by omega⟩
    ·repeat (first|simp only[go_sem,i0,i1,i5,o5,i6,o6,i8,i30,i31,i32,i9,o9,g1,hatK,hlen,N0]|simp (disch:=first|exact omg|fail) only[AX,i0,i1,i5,o5,i6,o6,i8,i30,i31,i32,i9,o9,g1,hatK,hlen,N0]|refine wki ?_)
     refine vfa ?_;repeat (first|simp only[go_sem,i0,i1,i5,o5,i6,o6,i8,i30,i31,i32,i9,o9,g1,hatK,hlen,N0,ec,hnl]|simp (disch:=first|exact omg|fail) only[AX,i0,i1,i5,o5,i6,o6,i8,i30,i31,i32,i9,o9,g1,hatK,hlen,N0,ec,hnl]|refine wki ?_)
     exact⟨⟨i+1,rfl,by omega,.inr (by rw[hF,hl2,hn2'];exact⟨by omega,rfl,rfl⟩)⟩,by omega⟩
   ·rw[if_neg hle]at hsel;rw[decide_eq_false hle]at ec;clear hall hsm hsl tl sm hle;repeat (first|simp only[go_sem,i0,i1,i5,o5,i6,o6,i8,i30,i31,i32,g1,hatK,hlen,N0,ec]|simp (disch:=first|exact omg|fail) only[AX,i0,i1,i5,o5,i6,o6,i8,i30,i31,i32,g1,hatK,hlen,N0,ec]|refine wki ?_|refine vfa ?_)
    exact⟨⟨i+1,rfl,by omega,by rw[hsel];exact hc⟩,by omega⟩
set_option maxHeartbeats 1000000 in
theorem ref13_BinomTwoE {v:SV} {x:Rat} {L:Nat} {n k:Int} (hv:RatA v x L) (hL:1<=L) (hL2:L<=100) (hn : -9223372036854775808<=n/\n<9223372036854775808) (hk : -9223372036854775808<=k/\k<9223372036854775808) :
  Go.Ev.Fn CX 17 [.int .i64 n,.int .i64 k,v] (.tup [rv (binT n k x),.bool (twoD n k x)]):=by
 unfold binT;have hT:=ref13_bad (n:=n) hv hL;have r0:=ref2_Int 0;cases h2:twoD n k x
 ·rw[if_neg (by simp)];rw[show ((0:Int):Rat)=0 from rfl]at r0;cases ht:tryD n x
  ·rw[ht,xn]at hT;obtain⟨s,y,d,rfl,-⟩:=hv;refine fni Tryz.f17 ?_;unfold Tryz.f17;repeat (first|simp only[go_sem]|simp (disch:=first|exact omg|fail) only[AX]|refine wki ?_|refine vpd 8 [39,43] ?_|refine vfa ?_)
  ·have hb:=twoD_false h2 ht;rw[ht,xQ]at hT;obtain⟨s,y,d,rfl,-⟩:=hv;by_cases hk0:k<0
   ·refine fni Tryz.f17 ?_;unfold Tryz.f17;repeat (first|simp only[go_sem]|simp (disch:=first|exact omg|fail) only[AX]|refine wki ?_|refine vpd 8 [39,43] ?_|refine vfa ?_)
   ·have hkn:n<k:=by omega
    refine fni Tryz.f17 ?_;unfold Tryz.f17;repeat (first|simp only[go_sem]|simp (disch:=first|exact omg|fail) only[AX]|refine wki ?_|refine vpd 8 [39,43] ?_|refine vfa ?_)
 ·obtain⟨ht,hk0,hkn,hn2,hx0,hx1⟩:=twoD_true h2;rw[ht,xQ]at hT;obtain⟨N,rfl⟩ : ∃N:Nat,n=(N:Int):=⟨n.toNat,by omega⟩
  obtain⟨K,rfl⟩ : ∃K:Nat,k=(K:Int):=⟨k.toNat,by omega⟩
  rw[if_pos rfl,wH,wH];have tr:=ref13_parts (n:=N) hv hL hL2;obtain⟨z1,z2⟩:=szR_of hv hL;have hf:=lim_len_mono (zY x.den x.num.natAbs);have tl:=fun j (hj:j<=N)=>term_len (p:=x.num.natAbs) (f:=x.den-x.num.natAbs) (n:=N) (by omega) (by omega) (by omega) j hj
  have hlen:=rows_len (termN x.num.natAbs (x.den-x.num.natAbs) N) (N+1);have hall:=fun j (hj:j<N+1)=>rows_at (termN x.num.natAbs (x.den-x.num.natAbs) N) (i:=N+1) (j:=j) hj
  have dl:=pow_lim_len x.den N;have dl2:(lim x.den).length*N<=100*256:=xJ (by omega) (by omega);generalize hTT:termN x.num.natAbs (x.den-x.num.natAbs) N=T at *
  have hsl:=fun i (hi:i<=N+1)=>selS_lim (c:=T K) tl i hi
  have hlast:=hsl (N+1) (by omega);have of:=ref2_OfL (s:=false) (n:=selS T (T K) (N+1)) (d:=x.den^N);rw[show sgn false (selS T (T K) (N+1))=((selS T (T K) (N+1):Nat):Int) from rfl]at of;generalize mkRat ((selS T (T K) (N+1):Nat):Int) (x.den^N)=qq at *
  obtain⟨s,y,d,rfl,-⟩:=hv;have hatK:=hall K (by omega);have tlK:=tl K (by omega);have hs0:selS T (T K) 0=0:=rfl;generalize rowsC T (N+1)=rc at *
  generalize x.den^N=E at *
  refine fni Tryz.f17 ?_;unfold Tryz.f17;repeat (first|simp only[go_sem]|simp (disch:=first|exact omg|fail) only[AX]|refine wki ?_|refine vpd 8 [39,43] ?_|refine vfa ?_)
  refine vp_loop_inv (fun s'=>s'.tmp 0 = .sv (.int .i64 (N:Int))/\s'.tmp 1 = .sv (.int .i64 (K:Int))/\s'.tmp 6 = .ptr 6 0 0/\s'.obj 6 0=some [.bool false,.sl 0 [],.sl 0 []]/\s'.tmp 8 = .sv (.sl (N+1) rc)/\s'.tmp 9 = .sv (natV (lim E))/\((s'.tmp 39 = .undef/\s'.tmp 43 = .undef) \/ ∃u w,s'.tmp 39 = .sv u/\s'.tmp 43 = .sv w) /\
    ∃i:Nat,s'.tmp 11 = .sv (.int .i64 (i:Int))/\i<=N+1/\((selS T (T K) i=0/\s'.tmp 10 = .nil)\/s'.tmp 10 = .sv (natV (lim (selS T (T K) i)))))
   (fun s=>match s.tmp 11 with | .sv (.int _ i)=>N+1-i.toNat|_=>0) ⟨rfl,rfl,rfl,rfl,rfl,rfl,.inl ⟨rfl,rfl⟩,0,rfl,by omega,.inl ⟨rfl,rfl⟩⟩ ?_
  rintro s2 ⟨i0,i1,i6,o6,i8,i9,hu,i,i11,hi,hc⟩
  by_cases hend:i=N+1
  ·subst hend;generalize selS T (T K) (N+1)=S at *
   clear hall hsl tl;rcases hc with⟨h0,i10⟩|i10
   ·subst h0;rw[lim_zero]at of;repeat (first|simp only[go_sem,i0,i1,i6,o6,i8,i9,i11,i10]|simp (disch:=first|exact omg|fail) only[AX,i0,i1,i6,o6,i8,i9,i11,i10]|refine wki ?_|refine vpd 8 [39,43] ?_|refine vfa ?_)
   ·repeat (first|simp only[go_sem,i0,i1,i6,o6,i8,i9,i11,i10]|simp (disch:=first|exact omg|fail) only[AX,i0,i1,i6,o6,i8,i9,i11,i10]|refine wki ?_|refine vpd 8 [39,43] ?_)
    refine vfa ?_;repeat (first|simp only[go_sem,i0,i1,i6,o6,i8,i9,i11,i10]|simp (disch:=first|exact omg|fail) only[AX,i0,i1,i6,o6,i8,i9,i11,i10]|refine wki ?_|refine vpd 8 [39,43] ?_)
  ·have g1:=hall i (by omega);have tli:=tl i (by omega);have hsi:=hsl i (by omega);have hc1:=ref1_CmpL (N:=T i) (D:=T K);have ec:decide (cmpN (T i) (T K)<=0)=decide (T i<=T K):=cmpN_le';have hsel:selS T (T K) (i+1)=if T i<=T K then selS T (T K) i+T i else selS T (T K) i:=rfl
   have ad:=ref1_AddL (N:=selS T (T K) i) (D:=T i);by_cases hle:T i<=T K
   ·rw[if_pos hle]at hsel;rw[<- hsel]at ad;rw[decide_eq_true hle]at ec;have fin : ∀ {A:Prop},A->A:=fun h=>h
    clear hall hsl tl of hle fin hTT;rcases hc with⟨h0,i10⟩|i10
    ·rw[h0,lim_zero]at ad;rcases hu with⟨u1,u2⟩|⟨u,w,u1,u2⟩
     ·repeat (first|simp only[go_sem,i0,i1,i6,o6,i8,i9,i11,i10,u1,u2,g1,hatK,hlen]|simp (disch:=first|exact omg|fail) only[AX,i0,i1,i6,o6,i8,i9,i11,i10,u1,u2,g1,hatK,hlen]|refine wki ?_|refine vpd 8 [39,43] ?_)
      repeat (first|simp only[go_sem,i0,i1,i6,o6,i8,i9,i11,i10,g1,hatK,hlen,ec]|simp (disch:=first|exact omg|fail) only[AX,i0,i1,i6,o6,i8,i9,i11,i10,g1,hatK,hlen,ec]|refine wki ?_|refine vpd 8 [39,43] ?_|refine vfa ?_)
      exact⟨⟨.inr ⟨_,_,rfl,rfl⟩,i+1,rfl,by omega,.inr rfl⟩,by omega⟩
     ·repeat (first|simp only[go_sem,i0,i1,i6,o6,i8,i9,i11,i10,u1,u2,g1,hatK,hlen]|simp (disch:=first|exact omg|fail) only[AX,i0,i1,i6,o6,i8,i9,i11,i10,u1,u2,g1,hatK,hlen]|refine wki ?_|refine vpd 8 [39,43] ?_)
      repeat (first|simp only[go_sem,i0,i1,i6,o6,i8,i9,i11,i10,g1,hatK,hlen,ec]|simp (disch:=first|exact omg|fail) only[AX,i0,i1,i6,o6,i8,i9,i11,i10,g1,hatK,hlen,ec]|refine wki ?_|refine vpd 8 [39,43] ?_|refine vfa ?_)
      exact⟨⟨.inr ⟨_,_,rfl,rfl⟩,i+1,rfl,by omega,.inr rfl⟩,by omega⟩
    ·rcases hu with⟨u1,u2⟩|⟨u,w,u1,u2⟩
     ·repeat (first|simp only[go_sem,i0,i1,i6,o6,i8,i9,i11,i10,u1,u2,g1,hatK,hlen]|simp (disch:=first|exact omg|fail) only[AX,i0,i1,i6,o6,i8,i9,i11,i10,u1,u2,g1,hatK,hlen]|refine wki ?_|refine vpd 8 [39,43] ?_)
      repeat (first|simp only[go_sem,i0,i1,i6,o6,i8,i9,i11,i10,g1,hatK,hlen,ec]|simp (disch:=first|exact omg|fail) only[AX,i0,i1,i6,o6,i8,i9,i11,i10,g1,hatK,hlen,ec]|refine wki ?_|refine vpd 8 [39,43] ?_|refine vfa ?_)
      exact⟨⟨.inr ⟨_,_,rfl,rfl⟩,i+1,rfl,by omega,.inr rfl⟩,by omega⟩
     ·repeat (first|simp only[go_sem,i0,i1,i6,o6,i8,i9,i11,i10,u1,u2,g1,hatK,hlen]|simp (disch:=first|exact omg|fail) only[AX,i0,i1,i6,o6,i8,i9,i11,i10,u1,u2,g1,hatK,hlen]|refine wki ?_|refine vpd 8 [39,43] ?_)
      repeat (first|simp only[go_sem,i0,i1,i6,o6,i8,i9,i11,i10,g1,hatK,hlen,ec]|simp (disch:=first|exact omg|fail) only[AX,i0,i1,i6,o6,i8,i9,i11,i10,g1,hatK,hlen,ec]|refine wki ?_|refine vpd 8 [39,43] ?_|refine vfa ?_)
      exact⟨⟨.inr ⟨_,_,rfl,rfl⟩,i+1,rfl,by omega,.inr rfl⟩,by omega⟩
   ·rw[if_neg hle]at hsel;rw[decide_eq_false hle]at ec;clear hall hsl tl of hle ad hTT;rcases hu with⟨u1,u2⟩|⟨u,w,u1,u2⟩
    ·repeat (first|simp only[go_sem,i0,i1,i6,o6,i8,i9,i11,u1,u2,g1,hatK,hlen]|simp (disch:=first|exact omg|fail) only[AX,i0,i1,i6,o6,i8,i9,i11,u1,u2,g1,hatK,hlen]|refine wki ?_|refine vpd 8 [39,43] ?_)
     refine vfa ?_;repeat (first|simp only[go_sem,i0,i1,i6,o6,i8,i9,i11,g1,hatK,hlen,ec]|simp (disch:=first|exact omg|fail) only[AX,i0,i1,i6,o6,i8,i9,i11,g1,hatK,hlen,ec]|refine wki ?_|refine vpd 8 [39,43] ?_)
     exact⟨⟨.inr ⟨_,_,rfl,rfl⟩,i+1,rfl,by omega,by rw[hsel];exact hc⟩,by omega⟩
    ·repeat (first|simp only[go_sem,i0,i1,i6,o6,i8,i9,i11,u1,u2,g1,hatK,hlen]|simp (disch:=first|exact omg|fail) only[AX,i0,i1,i6,o6,i8,i9,i11,u1,u2,g1,hatK,hlen]|refine wki ?_|refine vpd 8 [39,43] ?_)
     refine vfa ?_;repeat (first|simp only[go_sem,i0,i1,i6,o6,i8,i9,i11,g1,hatK,hlen,ec]|simp (disch:=first|exact omg|fail) only[AX,i0,i1,i6,o6,i8,i9,i11,g1,hatK,hlen,ec]|refine wki ?_|refine vpd 8 [39,43] ?_)
     exact⟨⟨.inr ⟨_,_,rfl,rfl⟩,i+1,rfl,by omega,by rw[hsel];exact hc⟩,by omega⟩
theorem disc_BinomTwo {v:SV} {x:Rat} {L:Nat} {n k:Int} (hv:RatA v x L) (hL:1<=L) (hL2:L<=100) (hn : -9223372036854775808<=n/\n<9223372036854775808) (hk : -9223372036854775808<=k/\k<9223372036854775808) :
  ∃q,Go.Ev.Fn CX 63 [.int .i64 n,.int .i64 k,v] (.tup [rv q,.bool (twoD n k x)]):=⟨_,disc_BinomTwoE hv hL hL2 hn hk⟩
theorem ref13_BinomTwo {v:SV} {x:Rat} {L:Nat} {n k:Int} (hv:RatA v x L) (hL:1<=L) (hL2:L<=100) (hn : -9223372036854775808<=n/\n<9223372036854775808) (hk : -9223372036854775808<=k/\k<9223372036854775808) :
  ∃q,Go.Ev.Fn CX 17 [.int .i64 n,.int .i64 k,v] (.tup [rv q,.bool (twoD n k x)]):=⟨_,ref13_BinomTwoE hv hL hL2 hn hk⟩
theorem binT_sz {x:Rat} {L:Nat} {n k:Int} (hx:szR x L) (hL:1<=L:=by omega) (hL2:L<=100:=by omega):szR (binT n k x) 100000:=by
 unfold binT;by_cases h2:twoD n k x=true
 ·rw[if_pos h2];obtain⟨ht,hk0,hkn,hn2,hx0,hx1⟩:=twoD_true h2;obtain⟨N,rfl⟩ : ∃N:Nat,n=(N:Int):=⟨n.toNat,by omega⟩
  obtain⟨K,rfl⟩ : ∃K:Nat,k=(K:Int):=⟨k.toNat,by omega⟩
  rw[wH,wH];obtain⟨z1,z2⟩:=hx;have hf:=lim_len_mono (zY x.den x.num.natAbs);have tl:=fun j (hj:j<=N)=>term_len (p:=x.num.natAbs) (f:=x.den-x.num.natAbs) (n:=N) (by omega) (by omega) (by omega) j hj
  have dl:=pow_lim_len x.den N;have dl2:(lim x.den).length*N<=100*256:=xJ (by omega) (by omega);have hs:=selS_lim (c:=termN x.num.natAbs (x.den-x.num.natAbs) N K) tl (N+1) (by omega);exact szR_mk (s:=false)
 ·rw[if_neg h2];exact szR_zero
end Go.Proofs.YtfknkoeagjonbaaGreat
namespace Go.Proofs.YtfknkoeagjonbaaGreat
open Go.Ev
def flatL (T X:List (List Rat)):List Rat:=List.zipWith missR T X
def flatR (T X:List (List Rat)):Rat:=sumR (flatL T X)
def tabR (T:List (List Rat)):Res:=
 if (expR T).2≠0 then (0,[],(expR T).2) else (flatR T (expR T).1,[((T.length:Int)-1)*(((T.getD 0 []).length:Int)-1)],0)
theorem flat_len {T X:List (List Rat)} (h:X.length=T.length):(flatL T X).length=T.length:=by unfold flatL;rw[zG];omega
theorem flat_at {T X:List (List Rat)} (h:X.length=T.length) {i:Nat} (hi:i<T.length):(flatL T X).getD i 0=missR (T.getD i []) (X.getD i []):=by
 unfold flatL;rw[xC,xC,xC,xD (by rw[zG];omega),xD hi,xD (by omega),zO];rfl
theorem miss_sz {l m:List Rat} (hl : ∀x∈l,szR x 1) (hm : ∀x∈m,szR x 400) (h12:l.length<=12) (hlm:l.length=m.length):szR (missR l m) 14461:=
 szR_mono (sz_sum12 (by omega) (missL_sz hl hm) (by rw[missL_len hlm];exact h12))
theorem flat_sz {T X:List (List Rat)} (hT : ∀r∈T,∀x∈r,szR x 1) (hX : ∀r∈X,∀x∈r,szR x 400) (h:X.length=T.length) (hl : ∀r∈T,r.length<=4) (hw : ∀i,i<T.length->(X.getD i []).length=(T.getD i []).length) : ∀x∈flatL T X,szR x 14461:=by
 intro x hx;obtain⟨i,hi,rfl⟩:=zC hx;rw[flat_len h]at hi;have e:=flat_at h hi;rw[xC,xD (by rw[flat_len h];exact hi)]at e;have e':(flatL T X)[i]=missR (T.getD i []) (X.getD i []):=e;rw[e'];have h4:=tab_ok hl i;exact miss_sz (hT _ (getD_mem' hi)) (hX _ (getD_mem')) (by omega) (hw i hi).symm
section
variable {cs xs ys:List SV} {T:List (List Rat)} {X Y:Nat} {kind k n:Int} {sm ss:Bool} {nm dm ns ds:List Nat}
set_option maxHeartbeats 1000000 in
theorem test_table (h:TabC cs T 1) (hn:T.length<=4) (hl : ∀r∈T,r.length<=4):Go.Ev.Fn CX 159 [.sl T.length cs] (resV (tabR T)):=by
 have hE:=test_Expected h hn hl;have r0:=rat_Int 0;unfold tabR;by_cases he:(expR T).2=0;rotate_left
 ·rw[if_pos he];generalize (expR T).2=e at *
  generalize hX:(expR T).1=X at *
  generalize tabsC X=xc at *
  clear h hl;refine fni Tryz.f159 ?_;unfold Tryz.f159;repeat (first|simp only[go_sem]|simp (disch:=first|exact omg|fail) only[AX]|refine wki ?_|refine vpd 8 [9,32] ?_|refine vpd 10 [] ?_|refine vfa ?_)
  rfl
 rw[if_neg (not_not_intro he)];obtain⟨g1,g2⟩:=expR_sums he;have hz:=expR_sz h hn hl;have hTz:=tab_szall (by omega) h;have hfl:=flat_len g1;have hfz:=flat_sz hTz hz g1 hl (fun i hi=>(g2 i hi).1);have hfa:=fun {i:Nat} (hi:i<T.length)=>flat_at g1 hi
 have hxt:=fun {i:Nat} (hi:i<(expR T).1.length)=>tabsC_at (expR T).1 hi
 have hxl:=tabsC_len (expR T).1;have hlen:=tab_len h;have hat:=fun {i:Nat} (hi:i<T.length)=>tabC_at (i:=i) h hi
 have h4:=tab_ok hl;have ht0:2<=T.length/\2<=(T.getD 0 []).length:=by
  have:tabE T=0:=by
   unfold expR at he;by_cases c:tabE T=0
   ·exact c
   ·rw[if_pos c]at he;exact absurd he c
  obtain⟨a,b,-⟩:=tabE_zero this;exact⟨a,b⟩
 obtain⟨rc0,a0,-⟩:=hat (i:=0) (by omega);have a0':cs.head?=some (.sl (T.getD 0 []).length rc0):=a0;have h40:=h4 0;rw[he]at hE;have hall:sumR ((flatL T (expR T).1).take T.length)=flatR T (expR T).1:=by rw[xH (by omega)];rfl
 have hst:=fun {i:Nat} (hi:i<T.length)=>sumR_take (flatL T (expR T).1) (i:=i)
 have zt:=fun i=>sz_take12 (by omega) hfz (by omega) i
 have hsum0:sumR ((flatL T (expR T).1).take 0)=0:=rfl;have hmz:=fun i (hi:i<T.length)=>hfz _ (getD_mem (l:=flatL T (expR T).1) (i:=i))
 generalize hS:(fun i=>sumR ((flatL T (expR T).1).take i))=S at *
 have hSi : ∀i,sumR ((flatL T (expR T).1).take i)=S i:=fun i=>by rw[<- hS]
 simp only[hSi]at zt hst hall hsum0;rw[g1]at hE hxl;generalize hXX:(expR T).1=X at *
 generalize flatR T X=q at *
 generalize hxc:tabsC X=xc at *
 have hpm:(T.length-1)*((T.getD 0 []).length-1)<=16:=xG (xJ (show _<=4 by omega) (show _<=4 by omega)) (by omega);have e1:((T.length-1:Nat):Int)=(T.length:Int)-1:=by omega
 have e2:(((T.getD 0 []).length-1:Nat):Int)=((T.getD 0 []).length:Int)-1:=by omega
 have hprod:((T.length:Int)-1)*(((T.getD 0 []).length:Int)-1)=(((T.length-1)*((T.getD 0 []).length-1):Nat):Int):=by rw[<- e1,<- e2];exact(xw _ _).symm
 have hmul:IntKind.i64.wrap (((T.length-1:Nat):Int)*(((T.getD 0 []).length-1:Nat):Int))=(((T.length-1)*((T.getD 0 []).length-1):Nat):Int):=by
  rw[<- xw];exact wI64
 rw[hprod];generalize hpr:(T.length-1)*((T.getD 0 []).length-1)=pr at *
 clear e1 e2 hprod hS hSi hfz he;refine fni Tryz.f159 ?_;unfold Tryz.f159;repeat (first|simp only[go_sem]|simp (disch:=first|exact omg|fail) only[AX]|refine wki ?_|refine vpd 8 [9,32] ?_|refine vpd 10 [] ?_|refine vfa ?_)
 refine vp_loop_inv (fun s=>s.tmp 0 = .sv (.sl T.length cs)/\s.tmp 2 = .ptr 2 0 0/\s.obj 2 0=some [.bool false,.sl 0 [],.sl 0 []]/\s.tmp 5 = .sv (.sl T.length xc)/\s.tmp 7 = .ptr 7 0 0/\s.tmp 20 = .sv (.sl T.length cs)/\s.tmp 21 = .sv (.int .i64 (T.length:Int))/\(s.tmp 32 = .undef \/ ∃u,s.tmp 32 = .sv u) /\
   ∃i:Nat,s.tmp 22 = .sv (.int .i64 (i:Int))/\i<=T.length/\s.obj 7 0=some (rvC (S i)))
  (fun s=>match s.tmp 22 with | .sv (.int _ i)=>T.length-i.toNat|_=>0) ⟨rfl,rfl,rfl,rfl,rfl,rfl,rfl,.inl rfl,0,rfl,by omega,by rw[hsum0];rfl⟩ ?_
 rintro s2 ⟨i0,i2,o2,i5,i7,i20,i21,hu,i,i22,hi,iP⟩
 by_cases hend:i=T.length
 ·subst hend;rw[hall]at iP;repeat (first|simp only[go_sem,i0,i2,o2,i5,i7,i20,i21,i22,iP,rvC,a0,a0',hlen,hmul,hpr]|simp (disch:=first|exact omg|fail) only[AX,i0,i2,o2,i5,i7,i20,i21,i22,iP,rvC,a0,a0',hlen,hmul,hpr]|refine wki ?_|refine vpd 8 [9,32] ?_|refine vpd 10 [] ?_)
 ·obtain⟨rc,b1,hr⟩:=hat (i:=i) (by omega);have b2:=hxt (i:=i) (by omega);obtain⟨w1,-⟩:=g2 i (by omega);have h4i:=h4 i;have ms:=test_misses hr (rvsC_row _ (hz _ (getD_mem' (l:=X) (d:=[]) (i:=i)))) (by omega) (by omega) (by omega) (by omega) (by omega) w1.symm;have zmi:=hmz i (by omega);rw[<- hfa (by omega)]at ms;have ad:=rat_Add (RatA_rv (zt i)) (RatA_rv zmi);rw[<- hst (by omega)]at ad;generalize (flatL T X).getD i 0=v at *
  rw[w1]at b2 ms;generalize (T.getD i []).length=u at *
  generalize rvsC (X.getD i [])=rx at *
  clear hat hxt g2 h4 hz hmz hfa hst zt hr zmi hall hsum0 hE;rcases hu with hu|⟨u',hu⟩
  ·repeat (first|simp only[go_sem,i0,i2,o2,i5,i7,i20,i21,i22,iP,rvC,b1,b2,hlen,hxl,hu]|simp (disch:=first|exact omg|fail) only[AX,i0,i2,o2,i5,i7,i20,i21,i22,iP,rvC,b1,b2,hlen,hxl,hu]|refine wki ?_|refine vpd 8 [9,32] ?_|refine vpd 10 [] ?_)
   repeat (first|simp only[go_sem,i0,i2,o2,i5,i7,i20,i21,i22,iP,rvC,b1,b2,hlen,hxl]|simp (disch:=first|exact omg|fail) only[AX,i0,i2,o2,i5,i7,i20,i21,i22,iP,rvC,b1,b2,hlen,hxl]|refine wki ?_|refine vpd 8 [9,32] ?_|refine vpd 10 [] ?_|refine vfa ?_)
   exact⟨⟨.inr ⟨_,rfl⟩,i+1,rfl,by omega,rfl⟩,by omega⟩
  ·repeat (first|simp only[go_sem,i0,i2,o2,i5,i7,i20,i21,i22,iP,rvC,b1,b2,hlen,hxl,hu]|simp (disch:=first|exact omg|fail) only[AX,i0,i2,o2,i5,i7,i20,i21,i22,iP,rvC,b1,b2,hlen,hxl,hu]|refine wki ?_|refine vpd 8 [9,32] ?_|refine vpd 10 [] ?_)
   repeat (first|simp only[go_sem,i0,i2,o2,i5,i7,i20,i21,i22,iP,rvC,b1,b2,hlen,hxl]|simp (disch:=first|exact omg|fail) only[AX,i0,i2,o2,i5,i7,i20,i21,i22,iP,rvC,b1,b2,hlen,hxl]|refine wki ?_|refine vpd 8 [9,32] ?_|refine vpd 10 [] ?_|refine vfa ?_)
   exact⟨⟨.inr ⟨_,rfl⟩,i+1,rfl,by omega,rfl⟩,by omega⟩
def binR (n k:Int) (x:Rat):Res:=if twoD n k x then ((k:Rat),[n],0) else (0,[],4)
theorem test_binom {mu:Rat} {tn:Nat} {tc:List SV} (hm:RatA (ratV sm nm dm) mu 1) (hn : -9223372036854775808<=n/\n<9223372036854775808) (hk : -9223372036854775808<=k/\k<9223372036854775808) :
  Go.Ev.Fn CX 160 [testV kind (.sl X xs) (.sl Y ys) (.sl tn tc) sm nm dm ss ns ds k n] (resV (binR n k mu)):=by
 obtain⟨q,hb⟩:=disc_BinomTwo hm (by omega) (by omega) hn hk;have r0:=rat_Int 0;have rk:=rat_Int k;unfold binR;cases h:twoD n k mu
 ·rw[h]at hb;clear hm h;refine fni Tryz.f160 ?_;unfold Tryz.f160;repeat (first|simp only[go_sem,xn]|simp (disch:=first|exact omg|fail) only[AX,xn]|refine wki ?_|refine vpd 4 [] ?_|refine vfa ?_)
  rfl
 ·rw[h]at hb;clear hm h;refine fni Tryz.f160 ?_;unfold Tryz.f160;repeat (first|simp only[go_sem,xQ]|simp (disch:=first|exact omg|fail) only[AX,xQ]|refine wki ?_|refine vpd 4 [] ?_|refine vfa ?_)
theorem ref19_binom {mu:Rat} {tn:Nat} {tc:List SV} (hm:RatA (ratV sm nm dm) mu 1) (hn : -9223372036854775808<=n/\n<9223372036854775808) (hk : -9223372036854775808<=k/\k<9223372036854775808) :
  Go.Ev.Fn CX 185 [testV kind (.sl X xs) (.sl Y ys) (.sl tn tc) sm nm dm ss ns ds k n] (resV (binR n k mu)):=by
 obtain⟨q,hb⟩:=ref13_BinomTwo hm (by omega) (by omega) hn hk;have r0:=ref19_zero;have rk:=ref2_Int k;unfold binR;cases h:twoD n k mu
 ·rw[h]at hb;clear hm h;refine fni Tryz.f185 ?_;unfold Tryz.f185;repeat (first|simp only[go_sem,xn]|simp (disch:=first|exact omg|fail) only[AX,xn]|refine wki ?_|refine vpd 4 [] ?_|refine vfa ?_)
 ·rw[h]at hb;clear hm h;refine fni Tryz.f185 ?_;unfold Tryz.f185;repeat (first|simp only[go_sem,xQ]|simp (disch:=first|exact omg|fail) only[AX,xQ]|refine wki ?_|refine vpd 4 [] ?_|refine vfa ?_)
end
end Go.Proofs.YtfknkoeagjonbaaGreat
namespace Go.Proofs.YtfknkoeagjonbaaGreat
open Go.Ev
section
variable {cs xs ys:List SV} {T:List (List Rat)} {X' Y:Nat} {kind k n:Int} {sm ss:Bool} {nm dm ns ds:List Nat}
set_option maxHeartbeats 1000000 in
theorem ref19_table (h:TabC cs T 1) (hn:T.length<=4) (hl : ∀r∈T,r.length<=4):Go.Ev.Fn CX 184 [testV kind (.sl X' xs) (.sl Y ys) (.sl T.length cs) sm nm dm ss ns ds k n] (resV (tabR T)):=by
 have hE:=ref19_Expected h hn hl;have r0:=ref19_zero;unfold tabR;by_cases he:(expR T).2=0;rotate_left
 ·rw[if_pos he];generalize (expR T).2=e at *
  generalize hX:(expR T).1=X at *
  generalize tabsC X=xc at *
  clear h hl;refine fni Tryz.f184 ?_;unfold Tryz.f184;repeat (first|simp only[go_sem]|simp (disch:=first|exact omg|fail) only[AX]|refine wki ?_|refine vpd 11 [] ?_|refine vpd 12 [] ?_|refine vfa ?_)
 rw[if_neg (not_not_intro he)];obtain⟨g1,g2⟩:=expR_sums he;have hz:=expR_sz h hn hl;have hTz:=tab_szall (by omega) h;have hfl:=flat_len g1;have hfz:=flat_sz hTz hz g1 hl (fun i hi=>(g2 i hi).1);have hfa:=fun {i:Nat} (hi:i<T.length)=>flat_at g1 hi
 have hxt:=fun {i:Nat} (hi:i<(expR T).1.length)=>tabsC_at (expR T).1 hi
 have hxl:=tabsC_len (expR T).1;have hlen:=tab_len h;have hat:=fun {i:Nat} (hi:i<T.length)=>tabC_at (i:=i) h hi
 have h4:=tab_ok hl;have ht0:2<=T.length/\2<=(T.getD 0 []).length:=by
  have:tabE T=0:=by
   unfold expR at he;by_cases c:tabE T=0
   ·exact c
   ·rw[if_pos c]at he;exact absurd he c
  obtain⟨a,b,-⟩:=tabE_zero this;exact⟨a,b⟩
 have b0:=hxt (i:=0) (by omega);rw[(g2 0 (by omega)).1]at b0;have h40:=h4 0;rw[he]at hE;have hall:sumR ((flatL T (expR T).1).take T.length)=flatR T (expR T).1:=by rw[xH (by omega)];rfl
 have hst:=fun {i:Nat} (hi:i<T.length)=>sumR_take (flatL T (expR T).1) (i:=i)
 have zt:=fun i=>sz_take12 (by omega) hfz (by omega) i
 have hsum0:sumR ((flatL T (expR T).1).take 0)=0:=rfl;generalize hS:(fun i=>sumR ((flatL T (expR T).1).take i))=S at *
 have hSi : ∀i,sumR ((flatL T (expR T).1).take i)=S i:=fun i=>by rw[<- hS]
 simp only[hSi]at zt hst hall hsum0;rw[g1]at hE hxl;generalize hXX:(expR T).1=X at *
 generalize flatR T X=q at *
 generalize hxc:tabsC X=xc at *
 have b0':xc.head?=some (.sl (T.getD 0 []).length (rvsC (X.getD 0 []))):=b0;have hpm:(T.length-1)*((T.getD 0 []).length-1)<=16:=xG (xJ (show _<=4 by omega) (show _<=4 by omega)) (by omega);have e1:((T.length-1:Nat):Int)=(T.length:Int)-1:=by omega
 have e2:(((T.getD 0 []).length-1:Nat):Int)=((T.getD 0 []).length:Int)-1:=by omega
 have hprod:((T.length:Int)-1)*(((T.getD 0 []).length:Int)-1)=(((T.length-1)*((T.getD 0 []).length-1):Nat):Int):=by rw[<- e1,<- e2];exact(xw _ _).symm
 have hmul:IntKind.i64.wrap (((T.length-1:Nat):Int)*(((T.getD 0 []).length-1:Nat):Int))=(((T.length-1)*((T.getD 0 []).length-1):Nat):Int):=by
  rw[<- xw];exact wI64
 rw[hprod];generalize hpr:(T.length-1)*((T.getD 0 []).length-1)=pr at *
 generalize rvsC (X.getD 0 [])=rx0 at *
 clear e1 e2 hprod hS hSi hfz he;refine fni Tryz.f184 ?_;unfold Tryz.f184;repeat (first|simp only[go_sem]|simp (disch:=first|exact omg|fail) only[AX]|refine wki ?_|refine vpd 11 [] ?_|refine vpd 12 [] ?_|refine vfa ?_)
 refine vp_loop_inv (fun s=>s.tmp 1 = .ptr 1 0 0/\s.obj 1 0=some [.int .i64 kind,.sl X' xs,.sl Y ys,.sl T.length cs,.bool sm,natV nm,natV dm,.bool ss,natV ns,natV ds,.int .i64 k,.int .i64 n]/\s.tmp 2 = .ptr 2 0 0/\s.obj 2 0=some [.bool false,.sl 0 [],.sl 0 []]/\s.tmp 5 = .sv (.sl T.length xc)/\s.tmp 7 = .ptr 7 0 0 /\
   ∃i:Nat,s.tmp 8 = .sv (.int .i64 (i:Int))/\i<=T.length/\s.obj 7 0=some (rvC (S i)))
  (fun s=>match s.tmp 8 with | .sv (.int _ i)=>T.length-i.toNat|_=>0) ⟨rfl,rfl,rfl,rfl,rfl,rfl,0,rfl,by omega,by rw[hsum0];rfl⟩ ?_
 rintro s2 ⟨i1,o1,i2,o2,i5,i7,i,i8,hi,iP⟩
 by_cases hend:i=T.length
 ·subst hend;rw[hall]at iP;repeat (first|simp only[go_sem,i1,o1,i2,o2,i5,i7,i8,iP,rvC,b0,b0',hxl,hmul,hpr]|simp (disch:=first|exact omg|fail) only[AX,i1,o1,i2,o2,i5,i7,i8,iP,rvC,b0,b0',hxl,hmul,hpr]|refine wki ?_|refine vpd 11 [] ?_|refine vpd 12 [] ?_)
 ·obtain⟨rc,b1,hr⟩:=hat (i:=i) (by omega);have b2:=hxt (i:=i) (by omega);obtain⟨w1,-⟩:=g2 i (by omega);have h4i:=h4 i;have hzi:=hz _ (getD_mem' (l:=X) (d:=[]) (i:=i));have hzt:=row_sz (by omega) hr;have hfi:=hfa (i:=i) (by omega);have hsi:=hst (i:=i) (by omega);rw[hfi]at hsi;have zti:=zt i;have hrl:=row_len hr;have hxrl:=rvsC_len (X.getD i []);have hxr:=rvsC_row _ hzi;have hml:=missL_len w1.symm;have hmz:=missL_sz hzt hzi;have hma:=fun {k:Nat} (hk:k<(T.getD i []).length)=>missL_at w1.symm hk
  generalize T.getD i []=r at *
  generalize X.getD i []=x at *
  have hmt:=fun {k:Nat} (hk:k<r.length)=>sumR_take (missL r x) (i:=k)
  have hmzt:=fun k=>sz_take12 (by omega) hmz (by omega) k
  have hmzk:=fun k (hk:k<r.length)=>hmz _ (getD_mem (l:=missL r x) (i:=k))
  have hlastm:sumR ((missL r x).take r.length)=missR r x:=by rw[xH (by omega)];rfl
  rw[w1]at b2 hxrl;generalize hrx:rvsC x=rx at *
  clear hat hxt g2 h4 hz hfa hst zt hall hsum0 hE hzt hzi hmz;repeat (first|simp only[go_sem,i1,o1,i2,o2,i5,i7,i8,b1,b2,hlen,hxl]|simp (disch:=first|exact omg|fail) only[AX,i1,o1,i2,o2,i5,i7,i8,b1,b2,hlen,hxl]|refine wki ?_|refine vpd 11 [] ?_|refine vpd 12 [] ?_)
  refine vp_loop_inv (fun s=>s.tmp 1 = .ptr 1 0 0/\s.obj 1 0=some [.int .i64 kind,.sl X' xs,.sl Y ys,.sl T.length cs,.bool sm,natV nm,natV dm,.bool ss,natV ns,natV ds,.int .i64 k,.int .i64 n]/\s.tmp 2 = .ptr 2 0 0/\s.obj 2 0=some [.bool false,.sl 0 [],.sl 0 []]/\s.tmp 5 = .sv (.sl T.length xc)/\s.tmp 7 = .ptr 7 0 0/\s.tmp 8 = .sv (.int .i64 (i:Int)) /\
    ∃k:Nat,s.tmp 9 = .sv (.int .i64 (k:Int))/\k<=r.length/\s.obj 7 0=some (rvC (S i+sumR ((missL r x).take k))))
   (fun s=>match s.tmp 9 with | .sv (.int _ i)=>r.length-i.toNat|_=>0) ⟨i1,o1,i2,o2,i5,i7,i8,0,rfl,by omega,?_⟩ ?_
  ·rw[yz,sumR_nil,show S i+0=S i by grind];exact iP
  rintro s3 ⟨j1,p1,j2,p2,j5,j7,j8,k',j9,hk,jP⟩
  by_cases hkend:k'=r.length
  ·subst hkend;rw[hlastm,<- hsi]at jP;repeat (first|simp only[go_sem,j1,p1,j2,p2,j5,j7,j8,j9,b1,b2,hlen,hxl]|simp (disch:=first|exact omg|fail) only[AX,j1,p1,j2,p2,j5,j7,j8,j9,b1,b2,hlen,hxl]|refine wki ?_|refine vpd 11 [] ?_|refine vpd 12 [] ?_)
   exact⟨⟨i+1,rfl,by omega,jP⟩,by omega⟩
  ·obtain⟨s,n',d,rest,c1,hA⟩:=row_at (i:=k') hr (by omega);obtain⟨s',n'',d',rest',c2,hB⟩:=row_at (i:=k') hxr (by omega);have of:=ref19_off hA hB;have zo:=hmzk k' (by omega);rw[<- hma (by omega)]at of;have ad:=ref2_Add (RatA_rv (szR_add zti (hmzt k'))) (RatA_rv zo);rw[show S i+sumR ((missL r x).take k')+(missL r x).getD k' 0=S i+sumR ((missL r x).take (k'+1)) by rw[hmt (by omega)];grind]at ad;generalize (missL r x).getD k' 0=v at *
   generalize hU:S i+sumR ((missL r x).take k')=U at *
   generalize hU2:S i+sumR ((missL r x).take (k'+1))=U2 at *
   clear hA hB hr hxr hma hmt hmzt hmzk zo hsi hfi hU zti;repeat (first|simp only[go_sem,j1,p1,j2,p2,j5,j7,j8,j9,jP,b1,b2,hlen,hxl,c1,c2,hrl,hxrl,rvC]|simp (disch:=first|exact omg|fail) only[AX,j1,p1,j2,p2,j5,j7,j8,j9,jP,b1,b2,hlen,hxl,c1,c2,hrl,hxrl,rvC]|refine wki ?_|refine vpd 11 [] ?_|refine vpd 12 [] ?_|refine vfa ?_)
   exact⟨⟨k'+1,rfl,by omega,by rw[hU2]⟩,by omega⟩
end
end Go.Proofs.YtfknkoeagjonbaaGreat
namespace Go.Proofs.YtfknkoeagjonbaaGreat
open Go.Ev
def rawR (kind:Int) (l m:List Rat) (T:List (List Rat)) (mu sg:Rat) (k n:Int):Res:=
 if kind=1 then zR l mu sg else if kind=2 then stuR l mu else if kind=3 then (if l.length≠m.length then (0,[],1) else stuR (List.zipWith (fun a b=>a-b) l m) 0) else
 if kind=4 then poolR l m else if kind=5 then fisR l m else if kind=6 then fitR l m else if kind=7 then tabR T else if kind=8 then binR n k mu else (0,[],1)
section
variable {kind k n:Int} {xs ys tc:List SV} {sm ss:Bool} {nm dm ns ds:List Nat} {l m:List Rat} {T:List (List Rat)} {mu sg:Rat}
set_option maxHeartbeats 2000000 in
theorem test_raw (h:RowC xs l 1) (h2:RowC ys m 1) (hl:l.length<=12) (hm:m.length<=12) (hT:TabC tc T 1) (hn:T.length<=4) (hTl : ∀r∈T,r.length<=4) (hmu:RatA (ratV sm nm dm) mu 1) (hsg:RatA (ratV ss ns ds) sg 1)
  (bn : -9223372036854775808<=n/\n<9223372036854775808) (bk : -9223372036854775808<=k/\k<9223372036854775808) :
  Go.Ev.Fn CX 103 [testV kind (.sl l.length xs) (.sl m.length ys) (.sl T.length tc) sm nm dm ss ns ds k n] (resV (rawR kind l m T mu sg k n)):=by
 unfold rawR;by_cases c1:kind=1
 ·subst c1;rw[if_pos rfl];have s1:=test_z (kind:=1) (k:=k) (n:=n) (tn:=T.length) (Y:=m.length) (ys:=ys) (tc:=tc) h hl hmu hsg;generalize zR l mu sg=r at *
  clear h h2 hT hTl hmu hsg;refine fni Tryz.f103 ?_;unfold Tryz.f103;repeat (first|simp only[go_sem]|simp (disch:=first|exact omg|fail) only[AX]|refine wki ?_|refine vfa ?_)
 rw[if_neg c1];by_cases c2:kind=2
 ·subst c2;rw[if_pos rfl];exact raw_T h (by omega) (by omega) hmu (by omega) (by omega) hl
 rw[if_neg c2];by_cases c3:kind=3
 ·subst c3;rw[if_pos rfl];exact raw_paired h h2 hl hm
 rw[if_neg c3];by_cases c4:kind=4
 ·subst c4;rw[if_pos rfl];exact raw_pooled h h2 hl hm
 rw[if_neg c4];by_cases c5:kind=5
 ·subst c5;rw[if_pos rfl];exact raw_fisher h h2 hl hm
 rw[if_neg c5];by_cases c6:kind=6
 ·subst c6;rw[if_pos rfl];have s1:=test_fit h h2 hl hm;generalize fitR l m=r at *
  clear h h2 hT hTl hmu hsg;refine fni Tryz.f103 ?_;unfold Tryz.f103;repeat (first|simp only[go_sem]|simp (disch:=first|exact omg|fail) only[AX]|refine wki ?_|refine vfa ?_)
 rw[if_neg c6];by_cases c7:kind=7
 ·subst c7;rw[if_pos rfl];have s1:=test_table hT hn hTl;generalize tabR T=r at *
  clear h h2 hT hTl hmu hsg;refine fni Tryz.f103 ?_;unfold Tryz.f103;repeat (first|simp only[go_sem]|simp (disch:=first|exact omg|fail) only[AX]|refine wki ?_|refine vfa ?_)
 rw[if_neg c7];by_cases c8:kind=8
 ·subst c8;rw[if_pos rfl];have s1:=test_binom (kind:=8) (X:=l.length) (Y:=m.length) (xs:=xs) (ys:=ys) (tn:=T.length) (tc:=tc) (ss:=ss) (ns:=ns) (ds:=ds) hmu bn bk;generalize binR n k mu=r at *
  clear h h2 hT hTl hmu hsg;refine fni Tryz.f103 ?_;unfold Tryz.f103;repeat (first|simp only[go_sem]|simp (disch:=first|exact omg|fail) only[AX]|refine wki ?_|refine vfa ?_)
 rw[if_neg c8];have r0:=rat_Int 0;clear h h2 hT hTl hmu hsg;refine fni Tryz.f103 ?_;unfold Tryz.f103;repeat (first|simp only[go_sem]|simp (disch:=first|exact omg|fail) only[AX]|refine wki ?_|refine vfa ?_)
 rfl
set_option maxHeartbeats 2000000 in
theorem ref19_raw (h:RowC xs l 1) (h2:RowC ys m 1) (hl:l.length<=12) (hm:m.length<=12) (hT:TabC tc T 1) (hn:T.length<=4) (hTl : ∀r∈T,r.length<=4) (hmu:RatA (ratV sm nm dm) mu 1) (hsg:RatA (ratV ss ns ds) sg 1)
  (bn : -9223372036854775808<=n/\n<9223372036854775808) (bk : -9223372036854775808<=k/\k<9223372036854775808) :
  Go.Ev.Fn CX 115 [testV kind (.sl l.length xs) (.sl m.length ys) (.sl T.length tc) sm nm dm ss ns ds k n] (resV (rawR kind l m T mu sg k n)):=by
 unfold rawR;by_cases c1:kind=1
 ·subst c1;rw[if_pos rfl];have s1:=ref19_z (kind:=1) (k:=k) (n:=n) (tn:=T.length) (Y:=m.length) (ys:=ys) (tc:=tc) h hl hmu hsg;generalize zR l mu sg=r at *
  clear h h2 hT hTl hmu hsg;refine fni Tryz.f115 ?_;unfold Tryz.f115;repeat (first|simp only[go_sem]|simp (disch:=first|exact omg|fail) only[AX]|refine wki ?_|refine vfa ?_)
 rw[if_neg c1];by_cases c2:kind=2
 ·subst c2;rw[if_pos rfl];have s1:=ref19_student h hmu (by omega) (by omega) (by omega) (by omega) hl;generalize stuR l mu=r at *
  clear h h2 hT hTl hmu hsg;refine fni Tryz.f115 ?_;unfold Tryz.f115;repeat (first|simp only[go_sem]|simp (disch:=first|exact omg|fail) only[AX]|refine wki ?_|refine vfa ?_)
 rw[if_neg c2];by_cases c3:kind=3
 ·subst c3;rw[if_pos rfl];have s1:=ref19_paired (kind:=3) (k:=k) (n:=n) (tn:=T.length) (tc:=tc) (sm:=sm) (nm:=nm) (dm:=dm) (ss:=ss) (ns:=ns) (ds:=ds) h h2 hl hm;generalize (if l.length≠m.length then ((0:Rat),([]:List Int),(1:Int)) else stuR (List.zipWith (fun a b=>a-b) l m) 0)=r at *
  clear h h2 hT hTl hmu hsg;refine fni Tryz.f115 ?_;unfold Tryz.f115;repeat (first|simp only[go_sem]|simp (disch:=first|exact omg|fail) only[AX]|refine wki ?_|refine vfa ?_)
 rw[if_neg c3];by_cases c4:kind=4
 ·subst c4;rw[if_pos rfl];have s1:=ref19_pooled (kind:=4) (k:=k) (n:=n) (tn:=T.length) (tc:=tc) (sm:=sm) (nm:=nm) (dm:=dm) (ss:=ss) (ns:=ns) (ds:=ds) h h2 hl hm;generalize poolR l m=r at *
  clear h h2 hT hTl hmu hsg;refine fni Tryz.f115 ?_;unfold Tryz.f115;repeat (first|simp only[go_sem]|simp (disch:=first|exact omg|fail) only[AX]|refine wki ?_|refine vfa ?_)
 rw[if_neg c4];by_cases c5:kind=5
 ·subst c5;rw[if_pos rfl];have s1:=ref19_fisher (kind:=5) (k:=k) (n:=n) (tn:=T.length) (tc:=tc) (sm:=sm) (nm:=nm) (dm:=dm) (ss:=ss) (ns:=ns) (ds:=ds) h h2 hl hm;generalize fisR l m=r at *
  clear h h2 hT hTl hmu hsg;refine fni Tryz.f115 ?_;unfold Tryz.f115;repeat (first|simp only[go_sem]|simp (disch:=first|exact omg|fail) only[AX]|refine wki ?_|refine vfa ?_)
 rw[if_neg c5];by_cases c6:kind=6
 ·subst c6;rw[if_pos rfl];have s1:=ref19_fit (kind:=6) (k:=k) (n:=n) (tn:=T.length) (tc:=tc) (sm:=sm) (nm:=nm) (dm:=dm) (ss:=ss) (ns:=ns) (ds:=ds) h h2 hl hm;generalize fitR l m=r at *
  clear h h2 hT hTl hmu hsg;refine fni Tryz.f115 ?_;unfold Tryz.f115;repeat (first|simp only[go_sem]|simp (disch:=first|exact omg|fail) only[AX]|refine wki ?_|refine vfa ?_)
 rw[if_neg c6];by_cases c7:kind=7
 ·subst c7;rw[if_pos rfl];have s1:=ref19_table (kind:=7) (k:=k) (n:=n) (X':=l.length) (Y:=m.length) (xs:=xs) (ys:=ys) (sm:=sm) (nm:=nm) (dm:=dm) (ss:=ss) (ns:=ns) (ds:=ds) hT hn hTl;generalize tabR T=r at *
  clear h h2 hT hTl hmu hsg;refine fni Tryz.f115 ?_;unfold Tryz.f115;repeat (first|simp only[go_sem]|simp (disch:=first|exact omg|fail) only[AX]|refine wki ?_|refine vfa ?_)
 rw[if_neg c7];by_cases c8:kind=8
 ·subst c8;rw[if_pos rfl];have s1:=ref19_binom (kind:=8) (X:=l.length) (Y:=m.length) (xs:=xs) (ys:=ys) (tn:=T.length) (tc:=tc) (ss:=ss) (ns:=ns) (ds:=ds) hmu bn bk;generalize binR n k mu=r at *
  clear h h2 hT hTl hmu hsg;refine fni Tryz.f115 ?_;unfold Tryz.f115;repeat (first|simp only[go_sem]|simp (disch:=first|exact omg|fail) only[AX]|refine wki ?_|refine vfa ?_)
 rw[if_neg c8];have r0:=ref19_zero;clear h h2 hT hTl hmu hsg;refine fni Tryz.f115 ?_;unfold Tryz.f115;repeat (first|simp only[go_sem]|simp (disch:=first|exact omg|fail) only[AX]|refine wki ?_|refine vfa ?_)
end
theorem ref19_chi (kind:Int):Go.Ev.Fn CX 58 [.int .i64 kind] (.bool (decide (kind=1\/kind=6\/kind=7))):=by
 by_cases h1:kind=1
 ·subst h1;rw[decide_eq_true (by omega)];refine fni Tryz.f58 ?_;unfold Tryz.f58;repeat (first|simp only[go_sem]|simp (disch:=first|exact omg|fail) only[AX]|refine wki ?_)
 by_cases h2:kind=6
 ·subst h2;rw[decide_eq_true (by omega)];refine fni Tryz.f58 ?_;unfold Tryz.f58;repeat (first|simp only[go_sem]|simp (disch:=first|exact omg|fail) only[AX]|refine wki ?_)
 by_cases h3:kind=7
 ·subst h3;rw[decide_eq_true (by omega)];refine fni Tryz.f58 ?_;unfold Tryz.f58;repeat (first|simp only[go_sem]|simp (disch:=first|exact omg|fail) only[AX]|refine wki ?_)
 rw[decide_eq_false (by omega)];refine fni Tryz.f58 ?_;unfold Tryz.f58;repeat (first|simp only[go_sem]|simp (disch:=first|exact omg|fail) only[AX]|refine wki ?_)
section
variable {kind k n:Int} {X Y tn:Nat} {xs ys tc:List SV} {sm ss:Bool} {nm dm ns ds:List Nat}
set_option maxHeartbeats 1000000 in
theorem ref19_Statistic {r:Res} (h:Go.Ev.Fn CX 115 [testV kind (.sl X xs) (.sl Y ys) (.sl tn tc) sm nm dm ss ns ds k n] (resV r)) (hz:szR r.1 1000000) (hd:r.2.1.length<=1000) :
  Go.Ev.Fn CX 55 [testV kind (.sl X xs) (.sl Y ys) (.sl tn tc) sm nm dm ss ns ds k n] (resV (statR kind r)):=by
 obtain⟨q,dg,e⟩:=r;unfold statR;have r0:=ref19_zero;have r1:=ref2_Int 128;have hc:=ref19_chi kind;have h2:=ref2_Cmp (RatA_rv hz) (RatA_rv (int_szR (n:=128)));have e2:decide (cmpR q ((128:Int):Rat)>0)=decide (128<q):=cmpR_gt;have hat:=fun {i:Nat} (h:i<dg.length)=>ints_at dg h
 have hln:(dg.map fun i=>SV.int .i64 i).length=dg.length:=xd _;simp only at h hz hd ⊢;by_cases he:e=0
 ·subst he;rw[if_neg (by simp)];have h':Go.Ev.Fn CX 115 [testV kind (.sl X xs) (.sl Y ys) (.sl tn tc) sm nm dm ss ns ds k n] (.tup [rv q,.sl dg.length (dg.map fun i=>SV.int .i64 i),.int .i64 0]):=h;generalize hcs:(dg.map fun i=>SV.int .i64 i)=cs at *
  clear h hz;by_cases hany:dg.any (fun d=>decide (256<d))=true
  ·rw[if_pos hany];refine fni Tryz.f55 ?_;unfold Tryz.f55;repeat (first|simp only[go_sem]|simp (disch:=first|exact omg|fail) only[AX]|refine wki ?_|refine vpd 9 [] ?_|refine vfa ?_)
   refine vp_loop_inv (fun s=>s.tmp 2 = .ptr 2 0 0/\s.obj 2 0=some [.bool false,.sl 0 [],.sl 0 []]/\s.tmp 6 = .sv (.sl dg.length cs) /\
     ∃i:Nat,s.tmp 8 = .sv (.int .i64 (i:Int))/\i<=dg.length/\(dg.take i).any (fun d=>decide (256<d))=false)
    (fun s=>match s.tmp 8 with | .sv (.int _ i)=>dg.length-i.toNat|_=>0) ⟨rfl,rfl,rfl,0,rfl,by omega,rfl⟩ ?_
   rintro s2 ⟨i2,iO,i6,i,i8,hi,hb⟩
   by_cases hend:i=dg.length
   ·subst hend;rw[yV,hany]at hb;cases hb
   ·have g1:=hat (i:=i) (by omega);have hor:=any_take (fun d=>decide (256<d)) dg (0:Int) (i:=i);rw[hb,zE]at hor;generalize dg.getD i 0=d at *
    clear hat hany;by_cases hdd:256<d
    ·clear hor;repeat (first|simp only[go_sem,i2,iO,i6,i8,g1,hln]|simp (disch:=first|exact omg|fail) only[AX,i2,iO,i6,i8,g1,hln]|refine wki ?_|refine vpd 9 [] ?_|refine vfa ?_)
    ·rw[decide_eq_false hdd]at hor;repeat (first|simp only[go_sem,i2,iO,i6,i8,g1,hln]|simp (disch:=first|exact omg|fail) only[AX,i2,iO,i6,i8,g1,hln]|refine wki ?_|refine vpd 9 [] ?_)
     exact⟨⟨i+1,rfl,by omega,hor⟩,by omega⟩
  ·rw[if_neg hany];have hall : ∀i,i<dg.length->dg.getD i 0<=256:=by
    intro i hi;have:=fun h=>hany (any_of_getD (fun d=>decide (256<d)) dg (0:Int) hi h)
    have h3 : ¬256<dg.getD i 0:=fun h=>this (decide_eq_true h)
    omega
   clear hany;refine fni Tryz.f55 ?_;unfold Tryz.f55;repeat (first|simp only[go_sem]|simp (disch:=first|exact omg|fail) only[AX]|refine wki ?_|refine vpd 9 [] ?_|refine vfa ?_)
   refine vp_loop_inv (fun s=>s.tmp 1 = .ptr 1 0 0/\s.obj 1 0=some [.int .i64 kind,.sl X xs,.sl Y ys,.sl tn tc,.bool sm,natV nm,natV dm,.bool ss,natV ns,natV ds,.int .i64 k,.int .i64 n]/\s.tmp 2 = .ptr 2 0 0/\s.obj 2 0=some [.bool false,.sl 0 [],.sl 0 []]/\s.tmp 5 = .ptr 5 0 0/\s.obj 5 0=some (rvC q)/\s.tmp 6 = .sv (.sl dg.length cs) /\
     ∃i:Nat,s.tmp 8 = .sv (.int .i64 (i:Int))/\i<=dg.length)
    (fun s=>match s.tmp 8 with | .sv (.int _ i)=>dg.length-i.toNat|_=>0) ⟨rfl,rfl,rfl,rfl,rfl,rfl,rfl,0,rfl,by omega⟩ ?_
   rintro s2 ⟨i1,oA,i2,iO,i5,oB,i6,i,i8,hi⟩
   by_cases hend:i=dg.length
   ·subst hend;clear hall hat;by_cases hk:kind=1\/kind=6\/kind=7
    ·rw[decide_eq_true hk]at hc;by_cases hq:128<q
     ·rw[if_pos ⟨hk,hq⟩];rw[decide_eq_true hq]at e2;clear hk hq;repeat (first|simp only[go_sem,i1,oA,i2,iO,i5,oB,i6,i8,rvC,e2]|simp (disch:=first|exact omg|fail) only[AX,i1,oA,i2,iO,i5,oB,i6,i8,rvC,e2]|refine wki ?_|refine vpd 9 [] ?_|refine vfa ?_)
     ·rw[if_neg (fun h=>hq h.2)];rw[decide_eq_false hq]at e2;clear hk hq;repeat (first|simp only[go_sem,i1,oA,i2,iO,i5,oB,i6,i8,rvC,e2]|simp (disch:=first|exact omg|fail) only[AX,i1,oA,i2,iO,i5,oB,i6,i8,rvC,e2]|refine wki ?_|refine vpd 9 [] ?_|refine vfa ?_)
      rw[hcs]
    ·rw[if_neg (fun h=>hk h.1)];rw[decide_eq_false hk]at hc;clear hk;repeat (first|simp only[go_sem,i1,oA,i2,iO,i5,oB,i6,i8,rvC]|simp (disch:=first|exact omg|fail) only[AX,i1,oA,i2,iO,i5,oB,i6,i8,rvC]|refine wki ?_|refine vpd 9 [] ?_|refine vfa ?_)
     rw[hcs]
   ·have g1:=hat (i:=i) (by omega);have g2:=hall i (by omega);generalize dg.getD i 0=d at *
    clear hat hall;repeat (first|simp only[go_sem,i1,oA,i2,iO,i5,oB,i6,i8,g1,hln]|simp (disch:=first|exact omg|fail) only[AX,i1,oA,i2,iO,i5,oB,i6,i8,g1,hln]|refine wki ?_|refine vpd 9 [] ?_)
    exact⟨⟨i+1,rfl,by omega⟩,by omega⟩
 ·rw[if_pos he];have h':Go.Ev.Fn CX 115 [testV kind (.sl X xs) (.sl Y ys) (.sl tn tc) sm nm dm ss ns ds k n] (.tup [rv q,.sl dg.length (dg.map fun i=>SV.int .i64 i),.int .i64 e]):=h;clear h hz;refine fni Tryz.f55 ?_;unfold Tryz.f55;repeat (first|simp only[go_sem]|simp (disch:=first|exact omg|fail) only[AX]|refine wki ?_|refine vpd 9 [] ?_|refine vfa ?_)
end
end Go.Proofs.YtfknkoeagjonbaaGreat
namespace Go.Proofs.YtfknkoeagjonbaaGreat
open Go.Ev
theorem sz_pow {q:Rat} {L:Nat} (h:szR q L):q.num.natAbs<=4294967296^L/\q.den<=4294967296^L:=by
 have f : ∀ {n:Nat},(lim n).length<=L->n<=4294967296^L:=by
  intro n hn;have a:n<4294967296^(lim n).length:=lim_len_pow;have b:4294967296^(lim n).length<=4294967296^L:=xE (by omega) hn;omega
 exact⟨f h.1,f h.2⟩
theorem sum_frac {L:Nat} : ∀l:List Rat,(∀x∈l,szR x L) -> ∃ (A:Int) (D:Nat),0<D/\D<=4294967296^(L*l.length)/\A.natAbs<=l.length*4294967296^(L*l.length)/\sumR l*(D:Rat)=(A:Rat)
 | [],_=>⟨0,1,by omega,by simp,by simp,by rw[sumR_nil];decide +kernel⟩
 |x::l,h=>by
  obtain⟨A,D,D0,hD,hA,e⟩:=sum_frac l fun y hy=>h y (yB _ hy)
  obtain⟨n1,d1⟩:=sz_pow (h x yF);have ex:=mul_denR x;have x0:=x.den_pos;have pw:4294967296^(L*(x::l).length)=4294967296^L*4294967296^(L*l.length):=by rw[yE,<- xN,Nat.mul_succ,wK]
  generalize 4294967296^L=P at *
  generalize 4294967296^(L*l.length)=Q at *
  have m1:=xJ d1 hD;have m2:=xJ n1 hD;have m3:=xJ hA d1;refine⟨x.num*(D:Int)+A*(x.den:Int),x.den*D,zI x0 D0,by rw[pw];exact m1,?_,?_⟩
  ·rw[pw,yE];have t:=Int.natAbs_add_le (x.num*(D:Int)) (A*(x.den:Int));rw[Int.natAbs_mul,Int.natAbs_mul,xK,xK]at t;have e1:l.length*Q*P=l.length*(P*Q):=by rw[xP,xV Q]
   rw[xY,xe];omega
  ·rw[sumR_cons,show ((x.den*D:Nat):Rat)=(x.den:Rat)*(D:Rat) by exact_mod_cast rfl,Rat.intCast_add,wm,wm,<- e,<- ex,Rat.intCast_natCast,Rat.intCast_natCast];generalize sumR l=s;generalize (D:Rat)=d;generalize (x.den:Rat)=b;grind
theorem sz_sumS {L:Nat} (hL:1<=L) {l:List Rat} (h : ∀x∈l,szR x L) (hn:l.length<=1000:=by omega):szR (sumR l) (L*l.length+1):=by
 obtain⟨A,D,D0,hD,hA,e⟩:=sum_frac l h;have DR:(0:Rat)<(D:Rat):=by exact_mod_cast D0
 have pw:4294967296^(L*l.length+1)=4294967296^(L*l.length)*4294967296:=xW _ _;have P:0<4294967296^(L*l.length):=xM (by omega);have m:=xB (4294967296^(L*l.length)) hn;have e2:sumR l=mkRat A D:=by
  rw[Rat.mkRat_eq_div,<- e];generalize (D:Rat)=d at *
  grind
 rw[e2];have lD:(lim D).length<=L*l.length+1:=lim_len_lt;have lA:(lim A.natAbs).length<=L*l.length+1:=lim_len_lt;rcases Int.le_total 0 A with g|g
 ·have:A=sgn false A.natAbs:=by show A=((A.natAbs:Nat):Int);omega
  rw[this];exact szR_mk lA lD
 ·have:A=sgn true A.natAbs:=by show A = -((A.natAbs:Nat):Int);omega
  rw[this];exact szR_mk lA lD
theorem sum12S {L:Nat} (hL:1<=L) {l:List Rat} (h : ∀x∈l,szR x L) (hn:l.length<=12):szR (sumR l) (12*L+1):=
 szR_mono (sz_sumS hL h) (by have:=xF L hn;omega)
theorem sum4S {L:Nat} (hL:1<=L) {l:List Rat} (h : ∀x∈l,szR x L) (hn:l.length<=4):szR (sumR l) (4*L+1):=
 szR_mono (sz_sumS hL h) (by have:=xF L hn;omega)
theorem int1 {n:Int} (h : -4000<=n/\n<=4000:=by omega):szR (n:Rat) 1:=by
 refine⟨?_,?_⟩
 ·show (lim n.natAbs).length<=1;exact lim_len_lt
 ·show (lim 1).length<=1;rw[lim_one];simp
section
variable {l m:List Rat} {mu sg:Rat} {L:Nat}
theorem ne_len {l:List Rat} (h:1<=l.length:=by omega):l≠[]:=by rintro rfl;simp at h
theorem meanS (hL:1<=L) (h : ∀x∈l,szR x L) (hl:l.length<=12):szR (meanR l) (12*L+2):=
 szR_mono (szR_div (sum12S hL h hl) (int1 (n:=(l.length:Int))))
theorem sqS (hL:1<=L) (h : ∀x∈l,szR x L) (hl:l.length<=12) (h1:1<=l.length:=by omega):szR (sqR l) (48*L+7):=by
 rw[sqR_alt (ne_len h1)];have z1:=sum12S (l:=l.map fun x=>x*x) (L:=L+L) (by omega) (sz_map h fun x hx=>szR_mul hx hx hL) (by rw[xd];exact hl);have z2:=meanS hL h hl;have z3:=szR_mul (int1 (n:=(l.length:Int))) (szR_mul z2 z2);exact szR_mono (szR_sub z1 z3)
theorem varS (hL:1<=L) (h : ∀x∈l,szR x L) (hl:l.length<=12) (h1:1<=l.length:=by omega):szR (varR l) (48*L+8):=
 szR_mono (szR_div (sqS hL h hl h1) (int1 (n:=(l.length:Int)-1)))
theorem stu_facts (hL:1<=L/\L<=3) (h : ∀x∈l,szR x L) (hm:szR mu 1) (hl:l.length<=12) (e:(stuR l mu).2.2=0) : ∃d:Nat,1<=d/\d<=11/\(stuR l mu).2.1=[(d:Int)]/\szR (stuR l mu).1 236/\0<=(stuR l mu).1:=by
 unfold stuR at e ⊢;by_cases c1:l.length<2
 ·rw[if_pos c1]at e;cases e
 rw[if_neg c1]at e ⊢;by_cases c2:varR l=0
 ·rw[if_pos c2]at e;cases e
 rw[if_neg c2];refine⟨l.length-1,by omega,by omega,?_,?_,sts_nn⟩
 ·show [(l.length:Int)-1]=_;rw[show ((l.length-1:Nat):Int)=(l.length:Int)-1 by omega]
 ·have z:=szR_sub (meanS hL.1 h hl) hm;exact szR_mono (szR_div (szR_mul (int1 (n:=(l.length:Int))) (szR_mul z z)) (varS hL.1 h hl))
theorem nn_div {x y:Rat} (hx:0<=x) (hy:0<=y):0<=x/y:=by
 rw[xv];refine xL hx ?_;by_cases e:y=0
 ·rw[e];decide +kernel
 ·exact inv_nn (by grind)
theorem sq_nnR (l:List Rat):0<=sqR l:=sqs_nn (offR l)
theorem pool_facts (h : ∀x∈l,szR x 1) (h2 : ∀x∈m,szR x 1) (hl:l.length<=12) (hm:m.length<=12) (e:(poolR l m).2.2=0) : ∃d:Nat,1<=d/\d<=22/\(poolR l m).2.1=[(d:Int)]/\szR (poolR l m).1 236/\0<=(poolR l m).1:=by
 unfold poolR at e ⊢;by_cases c1:l.length=0\/m.length=0\/l.length+m.length<3
 ·rw[if_pos c1]at e;cases e
 rw[if_neg c1]at e ⊢;by_cases c2:(sqR l+sqR m)/(((l.length:Int)+(m.length:Int)-2:Int):Rat)=0
 ·rw[if_pos c2]at e;cases e
 rw[if_neg c2];have hlm:=xJ hl hm;have elm:(l.length:Int)*(m.length:Int)=((l.length*m.length:Nat):Int):=(xw _ _).symm;have zv:=szR_div (szR_add (sqS (by omega) h hl) (sqS (by omega) h2 hm)) (int1 (n:=(l.length:Int)+(m.length:Int)-2));have zw:=szR_div (int1 (n:=(l.length:Int)+(m.length:Int))) (int1 (n:=(l.length:Int)*(m.length:Int)) (by rw[elm];omega));have zd:=szR_sub (meanS (by omega) h hl) (meanS (by omega) h2 hm);have p1:(0:Rat)<=(((l.length:Int)+(m.length:Int)-2:Int):Rat):=by
  have:=wF.2 (show (0:Int)<=(l.length:Int)+(m.length:Int)-2 by omega);exact this
 have p2:(0:Rat)<=(((l.length:Int)+(m.length:Int):Int):Rat):=wF.2 (show (0:Int)<=(l.length:Int)+(m.length:Int) by omega);have p3:(0:Rat)<=(((l.length:Int)*(m.length:Int):Int):Rat):=by
  rw[elm];exact wF.2 (show (0:Int)<=((l.length*m.length:Nat):Int) by omega)
 refine⟨l.length+m.length-2,by omega,by omega,?_,?_,?_⟩
 ·show [(l.length:Int)+(m.length:Int)-2]=_;rw[show ((l.length+m.length-2:Nat):Int)=(l.length:Int)+(m.length:Int)-2 by omega]
 ·exact szR_mono (szR_div (szR_mul zd zd) (szR_mul zv zw))
 ·have a:=sq_nnR l;have b:=sq_nnR m;exact nn_div (mul_self_nn _) (xL (nn_div (by grind) p1) (nn_div p2 p3))
theorem fis_facts (h : ∀x∈l,szR x 1) (h2 : ∀x∈m,szR x 1) (hl:l.length<=12) (hm:m.length<=12) (e:(fisR l m).2.2=0) : ∃d f:Nat,1<=d/\d<=11/\1<=f/\f<=11/\(fisR l m).2.1=[(d:Int),(f:Int)]/\szR (fisR l m).1 112/\0<(fisR l m).1:=by
 unfold fisR at e ⊢;by_cases c1:l.length<2\/m.length<2
 ·rw[if_pos c1]at e;cases e
 rw[if_neg c1]at e ⊢;by_cases c2:varR l=0\/varR m=0
 ·rw[if_pos c2]at e;cases e
 rw[if_neg c2];refine⟨l.length-1,m.length-1,by omega,by omega,by omega,by omega,?_,?_,?_⟩
 ·show [(l.length:Int)-1,(m.length:Int)-1]=_;rw[show ((l.length-1:Nat):Int)=(l.length:Int)-1 by omega,show ((m.length-1:Nat):Int)=(m.length:Int)-1 by omega]
 ·exact szR_mono (szR_div (varS (by omega) h hl) (varS (by omega) h2 hm))
 ·have a:=var_nn (l:=l);have b:=var_nn (l:=m);show 0<varR l/varR m;rw[xv];exact ya (by grind) (wi.2 (by grind))
theorem z_facts (h : ∀x∈l,szR x 1) (hm:szR mu 1) (hs:szR sg 1) (hl:l.length<=12) (e:(zR l mu sg).2.2=0) : ∃d:Nat,1<=d/\d<=20/\(zR l mu sg).2.1=[(d:Int)]/\szR (zR l mu sg).1 200/\0<=(zR l mu sg).1:=by
 unfold zR at e ⊢;by_cases c1:sg<=0
 ·rw[if_pos c1]at e;cases e
 rw[if_neg c1]at e ⊢;by_cases c2:l.length=0
 ·rw[if_pos c2]at e;cases e
 rw[if_neg c2];have z:=szR_sub (meanS (by omega) h hl) hm;refine⟨1,by omega,by omega,rfl,?_,?_⟩
 ·exact szR_mono (szR_div (szR_mul (int1 (n:=(l.length:Int))) (szR_mul z z)) (szR_mul hs hs))
 ·exact nn_div (xL (wF.2 (show (0:Int)<=(l.length:Int) by omega)) (mul_self_nn _)) (mul_self_nn _)
def wtR (l m:List Rat):Rat:=sumR (List.zipWith (fun x y=>x*x/y) l m)
theorem miss_lin {k:Rat} (hk:k≠0) : ∀l m:List Rat,l.length=m.length->(∀y∈m,y≠0)->missR l (m.map fun y=>k*y)=wtR l m/k-2*sumR l+k*sumR m
 | [],[],_,_=>by
  show sumR []=sumR []/k-2*sumR []+k*sumR [];rw[sumR_nil,xv,yM];grind
 | [],_::_,h,_=>by simp at h
 |_::_,[],h,_=>by simp at h
 |x::l,y::m,h,hm=>by
  have ih:=miss_lin hk l m (by simpa using h) fun z hz=>hm z (yB _ hz)
  have y0:=hm y yF;have e1:missR (x::l) ((y::m).map fun y=>k*y)=(x-k*y)*(x-k*y)/(k*y)+missR l (m.map fun y=>k*y):=sumR_cons _ _;have e2:wtR (x::l) (y::m)=x*x/y+wtR l m:=sumR_cons _ _;have ky:k*y≠0:=fun e=>by rcases Rat.mul_eq_zero.1 e with g|g<;>exact absurd g (by assumption)
  have d1:=div_cancel' (x:=x*x) y0;have d2:=div_cancel' (x:=x*x/y) hk;have e3:(x-k*y)*(x-k*y)/(k*y)=x*x/y/k-2*x+k*y:=by
   refine div_uniq ky ?_;generalize x*x/y/k=b at *
   generalize x*x/y=a at *
   grind
  have e4:(x*x/y+wtR l m)/k=x*x/y/k+wtR l m/k:=by rw[xv (x*x/y+wtR l m),xv (x*x/y) k,xv (wtR l m) k,Rat.add_mul]
  rw[e1,e2,sumR_cons,sumR_cons,ih,e3,e4];grind
theorem zip_sz {L M:Nat} (hL:1<=L) (hM:1<=M) (hl : ∀x∈l,szR x L) (hm : ∀x∈m,szR x M) : ∀x∈List.zipWith (fun x y=>x*x/y) l m,szR x (L+L+M):=by
 intro x hx;obtain⟨i,hi,rfl⟩:=zC hx;rw[zO];have a:=hl _ (yQ (l:=l) (n:=i) (by rw[zG]at hi;omega));have b:=hm _ (yQ (l:=m) (n:=i) (by rw[zG]at hi;omega));exact szR_div (szR_mul a a hL) b (by omega) hM
theorem miss_nn {l m:List Rat} (h : ∀y∈m,0<=y):0<=missR l m:=by
 unfold missR missL;refine sumR_nonneg fun x hx => ?_
 obtain⟨i,hi,rfl⟩:=zC hx;rw[zO];exact nn_div (mul_self_nn _) (h _ (yQ _))
theorem bad_none (h:(List.range l.length).any (badF l m)=false) (hlm:l.length=m.length):(∀x∈l,0<=x) /\ ∀y∈m,0<y:=by
 have k : ∀i,i<l.length->badF l m i=false:=fun i hi=>by
  have:=List.any_eq_false.1 h i (zW.2 hi);simpa using this
 constructor
 ·intro x hx;obtain⟨i,hi,rfl⟩:=zC hx;have b:=k i hi;unfold badF at b;rw[wY,xC,xD hi]at b;exact zf.1 (of_decide_eq_false b.1)
 ·intro y hy;obtain⟨i,hi,rfl⟩:=zC hy;have b:=k i (by omega);unfold badF at b;rw[wY]at b;have b:=b.2;rw[xC,xD hi]at b;exact Rat.not_le.1 (of_decide_eq_false b)
theorem fit_facts (h : ∀x∈l,szR x 1) (h2 : ∀x∈m,szR x 1) (hl:l.length<=12) (hm:m.length<=12) (e:(fitR l m).2.2=0) : ∃d:Nat,1<=d/\d<=20/\(fitR l m).2.1=[(d:Int)]/\szR (fitR l m).1 200/\0<=(fitR l m).1:=by
 unfold fitR at e ⊢;by_cases c1:l.length≠m.length
 ·rw[if_pos c1]at e;cases e
 rw[if_neg c1]at e ⊢;by_cases c2:(List.range l.length).any (badF l m)=true
 ·rw[if_pos c2]at e;cases e
 rw[if_neg c2]at e ⊢;by_cases c3:l.length<2\/sumR l=0
 ·rw[if_pos c3]at e;cases e
 rw[if_neg c3];have hlm:l.length=m.length:=by omega
 obtain⟨b1,b2⟩:=bad_none (Bool.eq_false_iff.2 c2) hlm;have T0:=sumR_pos b2 (ne_len);have S0:0<sumR l:=by
  have:=sumR_nonneg b1;grind
 have k0:0<sumR l/sumR m:=by rw[xv];exact ya S0 (wi.2 T0)
 refine⟨l.length-1,by omega,by omega,?_,?_,?_⟩
 ·show [(l.length:Int)-1]=_;rw[show ((l.length-1:Nat):Int)=(l.length:Int)-1 by omega]
 ·show szR (missR l (wantR l m)) 200;unfold wantR;rw[miss_lin (by grind) l m hlm fun y hy=>by have:=b2 y hy;grind];have kT:sumR l/sumR m*sumR m=sumR l:=div_cancel' (by grind);rw[kT];have zS:=sum12S (by omega) h hl;have zT:=sum12S (by omega) h2 hm;have zk:=szR_div zS zT;have zQ:szR (wtR l m) 37:=sum12S (L:=3) (by omega) (zip_sz (by omega) (by omega) h h2) (by rw[zG];omega);have e1:wtR l m/(sumR l/sumR m)-2*sumR l+sumR l=wtR l m/(sumR l/sumR m)-sumR l:=by grind
  rw[e1];exact szR_mono (szR_sub (szR_div zQ zk) zS)
 ·refine miss_nn fun y hy => ?_
  obtain⟨z,hz,rfl⟩:=yv.1 hy;exact xL (xX k0) (xX (b2 z hz))
end
section
variable {T:List (List Rat)}
theorem zip_map {α β γ:Type} (f:α->β->γ) (g:α->β) : ∀l:List α,List.zipWith f l (l.map g)=l.map fun x=>f x (g x)
 | []=>rfl
 |x::l=>by rw[zD,List.zipWith_cons_cons,zip_map f g l,zD]
theorem sum_lin2 {α:Type} (c:Rat) (f g:α->Rat) : ∀l:List α,sumR (l.map fun x=>c*f x-g x)=c*sumR (l.map f)-sumR (l.map g)
 | []=>by rw[wg,wg,wg,sumR_nil];grind
 |x::l=>by rw[zD,zD,zD,sumR_cons,sumR_cons,sumR_cons,sum_lin2 c f g l];grind
theorem tab_facts0 (he:(expR T).2=0):2<=T.length/\2<=(T.getD 0 []).length/\(∀r∈T,r.length=(T.getD 0 []).length)/\(∀r∈T,0<sumR r)/\0<sumR (rowR T)/\sumR (colR T)=sumR (rowR T)/\(∀y∈colR T,y≠0/\0<=y) /\
  (expR T).1=(rowR T).map fun x=>(colR T).map fun y=>x*y/sumR (rowR T):=by
 unfold expR at he ⊢;by_cases h1:tabE T≠0
 ·rw[if_pos h1]at he;exact absurd he h1
 rw[if_neg h1]at he ⊢;by_cases h2:(rowR T++colR T).any (fun x=>decide (x=0))=true
 ·rw[if_pos h2]at he;cases he
 rw[if_neg h2];have h0:tabE T=0:=by omega
 obtain⟨t1,t2,t3,t4⟩:=tabE_zero h0;have hw : ∀r∈T,r.length=(T.getD 0 []).length:=by
  intro r hr;obtain⟨i,hi,rfl⟩:=zC hr;have:=t3 i hi;rw[xC,xD hi]at this;exact this
 have hnn : ∀r∈T,∀x∈r,0<=x:=by
  intro r hr x hx;by_cases e:x<0
  ·have:T.any (fun r=>r.any fun x=>decide (x<0))=true:=wG.2 ⟨r,hr,wG.2 ⟨x,hx,decide_eq_true e⟩⟩;rw[t4]at this;cases this
  ·grind
 have hne : ∀x∈rowR T++colR T,x≠0:=fun x hx e=>h2 (wG.2 ⟨x,hx,decide_eq_true e⟩)
 have hpr : ∀r∈T,0<sumR r:=by
  intro r hr;have a:=sumR_nonneg (hnn r hr);have b:=hne _ (wE _ (yv.2 ⟨r,hr,rfl⟩));grind
 have hpos:0<sumR (rowR T):=by
  refine sumR_pos ?_ ?_
  ·intro x hx;obtain⟨r,hr,rfl⟩:=yv.1 hx;exact hpr r hr
  ·intro e;have:(rowR T).length=0:=by rw[e];rfl
   unfold rowR at this;rw[xd]at this;omega
 have hSS:sumR (colR T)=sumR (rowR T):=by
  have:=sum_cols t3 T.length (xU _);rw[yV]at this;exact this
 refine⟨t1,t2,hw,hpr,hpos,hSS,fun y hy=>⟨hne _ (List.mem_append_right _ hy),?_⟩,rfl⟩;obtain⟨k,-,rfl⟩:=yv.1 hy;unfold colS;refine sumR_nonneg fun x hx => ?_
 obtain⟨r,hr,rfl⟩:=yv.1 hx;have hr':=List.mem_of_mem_take hr;rw[xC];by_cases hk:k<r.length
 ·rw[xD hk];exact hnn r hr' _ (yQ hk)
 ·rw[xh (by omega)];exact xi
theorem col_sz4 (hz : ∀r∈T,∀x∈r,szR x 1) (hn:T.length<=4) : ∀y∈colR T,szR y 5:=by
 intro y hy;obtain⟨k,-,rfl⟩:=yv.1 hy;unfold colS;refine sum4S (L:=1) (by omega) (fun x hx => ?_) (by rw[xd,xo];omega);obtain⟨r,hr,rfl⟩:=yv.1 hx;have hr':=List.mem_of_mem_take hr;rw[xC];by_cases hk:k<r.length
 ·rw[xD hk];exact hz r hr' _ (yQ hk)
 ·rw[xh (by omega)];exact szR_zero
theorem tab_facts (hz : ∀r∈T,∀x∈r,szR x 1) (hn:T.length<=4) (hl : ∀r∈T,r.length<=4) (e:(tabR T).2.2=0) : ∃d:Nat,1<=d/\d<=20/\(tabR T).2.1=[(d:Int)]/\szR (tabR T).1 200/\0<=(tabR T).1:=by
 unfold tabR at e ⊢;by_cases he:(expR T).2≠0
 ·rw[if_pos he]at e;exact absurd e he
 rw[if_neg he];obtain⟨t1,t2,tw,tp,N0,SS,tc,X⟩:=tab_facts0 (show (expR T).2=0 by omega);have t3:(T.getD 0 []).length<=4:=by
  have:T.getD 0 []∈T:=by rw[xC,xD (show 0<T.length by omega)];exact yQ _
  exact hl _ this
 have fl:flatR T (expR T).1=sumR (rowR T)*sumR (T.map fun r=>wtR r (colR T)/sumR r)-sumR (rowR T):=by
  have e1:flatL T (expR T).1=T.map fun r=>sumR (rowR T)*(wtR r (colR T)/sumR r)-sumR r:=by
   rw[X];show List.zipWith missR T ((T.map sumR).map _)=_;rw[List.map_map,zip_map];refine List.map_congr_left fun r hr => ?_
   have r0:=tp r hr;have k0:sumR r/sumR (rowR T)≠0:=by
    have:0<sumR r/sumR (rowR T):=by rw[xv];exact ya r0 (wi.2 N0)
    grind
   have e2:(colR T).map (fun y=>sumR r*y/sumR (rowR T))=(colR T).map fun y=>sumR r/sumR (rowR T)*y:=by
    refine List.map_congr_left fun y _ => ?_
    rw[xv,xv];grind
   show missR r ((colR T).map fun y=>sumR r*y/sumR (rowR T))=_;rw[e2,miss_lin k0 r (colR T) (by rw[tw r hr];simp[colR]) fun y hy=>(tc y hy).1,SS];have a1:=div_cancel' (x:=sumR r) (n:=sumR (rowR T)) (by grind);have a2:=div_cancel' (x:=wtR r (colR T)) (n:=sumR r) (by grind);have a3:=div_cancel' (x:=wtR r (colR T)) k0;have e3:wtR r (colR T)/(sumR r/sumR (rowR T))=sumR (rowR T)*(wtR r (colR T)/sumR r):=by
    refine div_uniq k0 ?_;clear a3;generalize wtR r (colR T)/sumR r=u at *
    generalize sumR r/sumR (rowR T)=k at *
    generalize sumR (rowR T)=N at *
    generalize sumR r=R at *
    grind
   rw[e3,a1];grind
  unfold flatR;rw[e1,sum_lin2];rfl
 refine⟨(T.length-1)*((T.getD 0 []).length-1),zI (by omega) (by omega),?_,?_,?_,?_⟩
 ·exact xG (xJ (show _<=3 by omega) (show _<=3 by omega)) (by omega)
 ·show [((T.length:Int)-1)*(((T.getD 0 []).length:Int)-1)]=_;rw[xw,show ((T.length-1:Nat):Int)=(T.length:Int)-1 by omega,show (((T.getD 0 []).length-1:Nat):Int)=((T.getD 0 []).length:Int)-1 by omega]
 ·show szR (flatR T (expR T).1) 200;rw[fl];have zr : ∀r∈T,szR (sumR r) 5:=fun r hr=>sum4S (L:=1) (by omega) (hz r hr) (hl r hr)
  have zN:szR (sumR (rowR T)) 21:=by
   refine sum4S (L:=5) (by omega) (fun x hx => ?_) (by unfold rowR;rw[xd];exact hn);obtain⟨r,hr,rfl⟩:=yv.1 hx;exact zr r hr
  have zQ : ∀x∈T.map (fun r=>wtR r (colR T)/sumR r),szR x 34:=by
   intro x hx;obtain⟨r,hr,rfl⟩:=yv.1 hx;have q:szR (wtR r (colR T)) 29:=sum4S (L:=7) (by omega) (zip_sz (by omega) (by omega) (hz r hr) (col_sz4 hz hn)) (by rw[zG];have:=hl r hr;omega);exact szR_div q (zr r hr)
  have zS:=sum4S (L:=34) (by omega) zQ (by rw[xd];exact hn);exact szR_mono (szR_sub (szR_mul zN zS) zN)
 ·show 0<=flatR T (expR T).1;unfold flatR;refine sumR_nonneg fun x hx => ?_
  have hx:x∈List.zipWith missR T (expR T).1:=hx;obtain⟨i,hi,rfl⟩:=zC hx;rw[zO];refine miss_nn fun y hy => ?_
  simp only[X]at hy;rw[we]at hy;obtain⟨z,hz',rfl⟩:=yv.1 hy;refine nn_div (xL ?_ (tc z hz').2) (xX N0);have:(rowR T)[i]'(by rw[zG,X,xd]at hi;omega)∈rowR T:=yQ _;obtain⟨r,hr,e2⟩:=yv.1 this;rw[<- e2];exact xX (tp r hr)
end
end Go.Proofs.YtfknkoeagjonbaaGreat
namespace Go.Proofs.YtfknkoeagjonbaaGreat
open Go.Ev
abbrev distV (k n m:Int) (sa:Bool) (na da:List Nat) (sb:Bool) (nb db:List Nat):SV:=
 .agg [.int .i64 k,.int .i64 n,.int .i64 m,.bool sa,natV na,natV da,.bool sb,natV nb,natV db]
def inD (k n m:Int) (a b:Rat):Bool:=
 if k=1 then decide (0<b) else if k=2 then decide (0<a) else if k=3 then decide (1<=n)&&decide (0<a)
 else if k=4 then decide (1<=n) else if k=5 then decide (1<=n) else if k=6 then decide (1<=n)&&decide (1<=m) else if k=7 then decide (1<=n)&&decide (1<=m)
 else if k=8 then decide (0<=n)&&(decide (0<=a)&&decide (a<=1)) else if k=9 then decide (0<=a) else false
def gtD (k n m:Int) (a:Rat):Bool:=
 if k=3 then decide (256<n) else if k=4 then decide (256<n) else if k=5 then decide (256<n) else if k=6 then decide (256<n)||decide (256<m) else if k=7 then decide (256<n)||decide (256<m)
 else if k=8 then decide (256<n) else if k=9 then decide (64<a) else false
def chkD (k n m:Int) (a b:Rat):Int:=if inD k n m a b then (if gtD k n m a then 7 else 0) else 4
section
variable {k n m:Int} {sa sb:Bool} {na da nb db:List Nat} {a b:Rat} {L:Nat}
theorem dist_above {v:SV} {q:Rat} {L:Nat} (hv:RatA v q L) (hL:1<=L) (h:L<=1048576) (n:Int) (hn : -9223372036854775808<=n/\n<9223372036854775808:=by omega):Go.Ev.Fn CX 133 [v,.int .i64 n] (.bool (decide ((n:Rat)<q))):=by
 have hI:=rat_Int n hn;have hC:=rat_Cmp hv (RatA_rv (int_szR (n:=n))) hL;obtain⟨s,x,d,rfl,-⟩:=hv;refine fni Tryz.f133 ?_;unfold Tryz.f133;repeat (first|simp only[go_sem,cmpR_gt]|simp (disch:=first|exact omg|fail) only[AX,cmpR_gt]|refine wki ?_|refine vpd 1 [] ?_|refine vfa ?_)
theorem dist_below {v:SV} {q:Rat} {L:Nat} (hv:RatA v q L) (hL:1<=L) (h:L<=1048576) (n:Int) (hn : -9223372036854775808<=n/\n<9223372036854775808:=by omega):Go.Ev.Fn CX 134 [v,.int .i64 n] (.bool (decide (q<(n:Rat)))):=by
 have hI:=rat_Int n hn;have hC:=rat_Cmp hv (RatA_rv (int_szR (n:=n))) hL;obtain⟨s,x,d,rfl,-⟩:=hv;refine fni Tryz.f134 ?_;unfold Tryz.f134;repeat (first|simp only[go_sem,cmpR_lt]|simp (disch:=first|exact omg|fail) only[AX,cmpR_lt]|refine wki ?_|refine vpd 1 [] ?_|refine vfa ?_)
theorem kinds (k:Int):k=1\/k=2\/k=3\/k=4\/k=5\/k=6\/k=7\/k=8\/k=9\/(k≠1/\k≠2/\k≠3/\k≠4/\k≠5/\k≠6/\k≠7/\k≠8/\k≠9):=by omega
theorem not_lt_dec {q r:Rat}:(!decide (q<r))=decide (r<=q):=by
 by_cases h:q<r
 ·rw[decide_eq_true h,decide_eq_false (show ¬r<=q by grind)];rfl
 ·rw[decide_eq_false h,decide_eq_true (show r<=q by grind)];rfl
theorem dist_isDomain (hA:RatA (ratV sa na da) a L) (hB:RatA (ratV sb nb db) b L) (hL:1<=L) (h:L<=1048576):Go.Ev.Fn CX 77 [distV k n m sa na da sb nb db] (.bool (inD k n m a b)):=by
 have a0:=dist_above hA hL h 0;have a1:=dist_above hA hL h 1;have b0:=dist_above hB hL h 0;have l0:=dist_below hA hL h 0;rw[show ((0:Int):Rat)=0 from rfl]at a0 b0 l0;rw[show ((1:Int):Rat)=1 from rfl]at a1;refine fni Tryz.f77 ?_;unfold Tryz.f77;rcases kinds k with rfl|rfl|rfl|rfl|rfl|rfl|rfl|rfl|rfl|⟨k1,k2,k3,k4,k5,k6,k7,k8,k9⟩
 ·repeat (first|simp only[go_sem]|simp (disch:=first|exact omg|fail) only[AX]|refine wki ?_)
  refine vfa ?_;repeat (first|simp only[go_sem]|simp (disch:=first|exact omg|fail) only[AX]|refine wki ?_)
  rfl
 ·repeat (first|simp only[go_sem]|simp (disch:=first|exact omg|fail) only[AX]|refine wki ?_)
  refine vfa ?_;repeat (first|simp only[go_sem]|simp (disch:=first|exact omg|fail) only[AX]|refine wki ?_)
  rfl
 ·rw[show inD 3 n m a b=(decide (1<=n)&&decide (0<a)) from rfl];by_cases hn:1<=n
  ·rw[decide_eq_true hn,yL];repeat (first|simp only[go_sem]|simp (disch:=first|exact omg|fail) only[AX]|refine wki ?_|refine vfa ?_)
  ·rw[decide_eq_false hn,yS];repeat (first|simp only[go_sem]|simp (disch:=first|exact omg|fail) only[AX]|refine wki ?_)
 ·rw[show inD 4 n m a b=decide (1<=n) from rfl];repeat (first|simp only[go_sem]|simp (disch:=first|exact omg|fail) only[AX]|refine wki ?_)
 ·rw[show inD 5 n m a b=decide (1<=n) from rfl];repeat (first|simp only[go_sem]|simp (disch:=first|exact omg|fail) only[AX]|refine wki ?_)
 ·rw[show inD 6 n m a b=(decide (1<=n)&&decide (1<=m)) from rfl];by_cases hn:1<=n
  ·rw[decide_eq_true hn,yL];repeat (first|simp only[go_sem]|simp (disch:=first|exact omg|fail) only[AX]|refine wki ?_)
  ·rw[decide_eq_false hn,yS];repeat (first|simp only[go_sem]|simp (disch:=first|exact omg|fail) only[AX]|refine wki ?_)
 ·rw[show inD 7 n m a b=(decide (1<=n)&&decide (1<=m)) from rfl];by_cases hn:1<=n
  ·rw[decide_eq_true hn,yL];repeat (first|simp only[go_sem]|simp (disch:=first|exact omg|fail) only[AX]|refine wki ?_)
  ·rw[decide_eq_false hn,yS];repeat (first|simp only[go_sem]|simp (disch:=first|exact omg|fail) only[AX]|refine wki ?_)
 ·rw[show inD 8 n m a b=(decide (0<=n)&&(decide (0<=a)&&decide (a<=1))) from rfl];by_cases hn:0<=n
  ·rw[decide_eq_true hn,yL];by_cases ha:a<0
   ·rw[decide_eq_true ha]at l0;rw[decide_eq_false (show ¬0<=a by grind),yS];repeat (first|simp only[go_sem,xQ]|simp (disch:=first|exact omg|fail) only[AX,xQ]|refine wki ?_|refine vfa ?_)
   ·rw[decide_eq_false ha]at l0;rw[decide_eq_true (show 0<=a by grind),yL];repeat (first|simp only[go_sem,xn,not_lt_dec]|simp (disch:=first|exact omg|fail) only[AX,xn,not_lt_dec]|refine wki ?_|refine vfa ?_)
  ·rw[decide_eq_false hn,yS];repeat (first|simp only[go_sem]|simp (disch:=first|exact omg|fail) only[AX]|refine wki ?_)
 ·rw[show inD 9 n m a b=decide (0<=a) from rfl];repeat (first|simp only[go_sem,not_lt_dec]|simp (disch:=first|exact omg|fail) only[AX,not_lt_dec]|refine wki ?_|refine vfa ?_)
 ·have e:inD k n m a b=false:=by
   unfold inD;rw[if_neg k1,if_neg k2,if_neg k3,if_neg k4,if_neg k5,if_neg k6,if_neg k7,if_neg k8,if_neg k9]
  rw[e];repeat (first|simp only[go_sem]|simp (disch:=first|exact omg|fail) only[AX]|refine wki ?_)
theorem max_gt (n m:Int):decide ((if m>n then m else n)>256)=(decide (256<n)||decide (256<m)):=by
 rw[<- Bool.decide_or];congr 1;split<;>(apply propext;omega)
theorem dist_isGreat (hA:RatA (ratV sa na da) a L) (hL:1<=L) (h:L<=1048576):Go.Ev.Fn CX 78 [distV k n m sa na da sb nb db] (.bool (gtD k n m a)):=by
 have a64:=dist_above hA hL h 64;rw[show ((64:Int):Rat)=64 from rfl]at a64;refine fni Tryz.f78 ?_;unfold Tryz.f78;rcases kinds k with rfl|rfl|rfl|rfl|rfl|rfl|rfl|rfl|rfl|⟨k1,k2,k3,k4,k5,k6,k7,k8,k9⟩
 ·repeat (first|simp only[go_sem]|simp (disch:=first|exact omg|fail) only[AX]|refine wki ?_)
  rfl
 ·repeat (first|simp only[go_sem]|simp (disch:=first|exact omg|fail) only[AX]|refine wki ?_)
  rfl
 ·repeat (first|simp only[go_sem]|simp (disch:=first|exact omg|fail) only[AX]|refine wki ?_)
  rfl
 ·repeat (first|simp only[go_sem]|simp (disch:=first|exact omg|fail) only[AX]|refine wki ?_)
  rfl
 ·repeat (first|simp only[go_sem]|simp (disch:=first|exact omg|fail) only[AX]|refine wki ?_)
  rfl
 ·repeat (first|simp only[go_sem,max_gt]|simp (disch:=first|exact omg|fail) only[AX,max_gt]|refine wki ?_)
  rfl
 ·repeat (first|simp only[go_sem,max_gt]|simp (disch:=first|exact omg|fail) only[AX,max_gt]|refine wki ?_)
  rfl
 ·repeat (first|simp only[go_sem]|simp (disch:=first|exact omg|fail) only[AX]|refine wki ?_)
  rfl
 ·repeat (first|simp only[go_sem]|simp (disch:=first|exact omg|fail) only[AX]|refine wki ?_)
  refine vfa ?_;repeat (first|simp only[go_sem]|simp (disch:=first|exact omg|fail) only[AX]|refine wki ?_)
  rfl
 ·have e:gtD k n m a=false:=by
   unfold gtD;rw[if_neg k3,if_neg k4,if_neg k5,if_neg k6,if_neg k7,if_neg k8,if_neg k9]
  rw[e];repeat (first|simp only[go_sem]|simp (disch:=first|exact omg|fail) only[AX]|refine wki ?_)
theorem dist_Check (hA:RatA (ratV sa na da) a L) (hB:RatA (ratV sb nb db) b L) (hL:1<=L) (h:L<=1048576:=by omega):Go.Ev.Fn CX 26 [distV k n m sa na da sb nb db] (.int .i64 (chkD k n m a b)):=by
 have h1:=dist_isDomain (k:=k) (n:=n) (m:=m) hA hB hL h;have h2:=dist_isGreat (k:=k) (n:=n) (m:=m) (sb:=sb) (nb:=nb) (db:=db) hA hL h;unfold chkD;refine fni Tryz.f26 ?_;unfold Tryz.f26;generalize inD k n m a b=i at *
 generalize gtD k n m a=g at *
 cases i
 ·repeat (first|simp only[go_sem]|simp (disch:=first|exact omg|fail) only[AX]|refine wki ?_)
  refine vfa ?_;repeat (first|simp only[go_sem,xn]|simp (disch:=first|exact omg|fail) only[AX,xn]|refine wki ?_)
 ·cases g
  ·repeat (first|simp only[go_sem]|simp (disch:=first|exact omg|fail) only[AX]|refine wki ?_)
   repeat (first|simp only[go_sem,xQ]|simp (disch:=first|exact omg|fail) only[AX,xQ]|refine wki ?_|refine vfa ?_)
  ·repeat (first|simp only[go_sem]|simp (disch:=first|exact omg|fail) only[AX]|refine wki ?_)
   repeat (first|simp only[go_sem,xQ]|simp (disch:=first|exact omg|fail) only[AX,xQ]|refine wki ?_|refine vfa ?_)
theorem ref14_positive {v:SV} {q:Rat} {L:Nat} (hv:RatA v q L) (hL:1<=L:=by omega) (h:L<=1048576:=by omega):Go.Ev.Fn CX 90 [v] (.bool (decide (0<q))):=by
 have hI:=ref2_Int 0;have hC:=ref2_Cmp hv (RatA_rv (int_szR (n:=0))) hL;rw[show ((0:Int):Rat)=0 from rfl]at hI hC;obtain⟨s,x,d,rfl,-⟩:=hv;refine fni Tryz.f90 ?_;unfold Tryz.f90;repeat (first|simp only[go_sem,cmpR_gt]|simp (disch:=first|exact omg|fail) only[AX,cmpR_gt]|refine wki ?_|refine vpd 1 [] ?_|refine vfa ?_)
theorem ref14_in (hA:RatA (ratV sa na da) a L) (hB:RatA (ratV sb nb db) b L) (hL:1<=L) (h:L<=524288):Go.Ev.Fn CX 89 [distV k n m sa na da sb nb db] (.bool (inD k n m a b)):=by
 have pA:=ref14_positive hA hL;have pB:=ref14_positive hB hL;have hN:=ref2_Neg hA hL;have zA:=szR_of hA hL;have pN:=ref14_positive (RatA_rv (szR_neg zA)) hL;have hI:=ref2_Int 1;have z1:=int_szR (n:=1);have hS:=ref2_Sub hA (RatA_rv z1) hL;have pS:=ref14_positive (RatA_rv (szR_sub zA z1 hL));rw[show ((1:Int):Rat)=1 from rfl]at hI hS pS;have eN:(!decide (0 < -a))=decide (0<=a):=by
  rw[not_lt_dec];exact decide_eq_decide.2 ⟨fun h=>by grind,fun h=>by grind⟩
 have eS:(!decide (0<a-1))=decide (a<=1):=by
  rw[not_lt_dec];exact decide_eq_decide.2 ⟨fun h=>by grind,fun h=>by grind⟩
 refine fni Tryz.f89 ?_;unfold Tryz.f89;rcases kinds k with rfl|rfl|rfl|rfl|rfl|rfl|rfl|rfl|rfl|⟨k1,k2,k3,k4,k5,k6,k7,k8,k9⟩
 ·repeat (first|simp only[go_sem]|simp (disch:=first|exact omg|fail) only[AX]|refine wki ?_|refine vpd 15 [] ?_)
  refine vfa ?_;repeat (first|simp only[go_sem]|simp (disch:=first|exact omg|fail) only[AX]|refine wki ?_|refine vpd 15 [] ?_)
  rfl
 ·repeat (first|simp only[go_sem]|simp (disch:=first|exact omg|fail) only[AX]|refine wki ?_|refine vpd 15 [] ?_)
  refine vfa ?_;repeat (first|simp only[go_sem]|simp (disch:=first|exact omg|fail) only[AX]|refine wki ?_|refine vpd 15 [] ?_)
  rfl
 ·rw[show inD 3 n m a b=(decide (1<=n)&&decide (0<a)) from rfl,Bool.and_comm];by_cases ha:0<a
  ·rw[decide_eq_true ha]at pA ⊢;rw[yL];repeat (first|simp only[go_sem]|simp (disch:=first|exact omg|fail) only[AX]|refine wki ?_|refine vpd 15 [] ?_|refine vfa ?_)
  ·rw[decide_eq_false ha]at pA ⊢;rw[yS];repeat (first|simp only[go_sem]|simp (disch:=first|exact omg|fail) only[AX]|refine wki ?_|refine vpd 15 [] ?_|refine vfa ?_)
 ·rw[show inD 4 n m a b=decide (1<=n) from rfl];repeat (first|simp only[go_sem]|simp (disch:=first|exact omg|fail) only[AX]|refine wki ?_|refine vpd 15 [] ?_)
 ·rw[show inD 5 n m a b=decide (1<=n) from rfl];repeat (first|simp only[go_sem]|simp (disch:=first|exact omg|fail) only[AX]|refine wki ?_|refine vpd 15 [] ?_)
 ·rw[show inD 6 n m a b=(decide (1<=n)&&decide (1<=m)) from rfl];by_cases hn:1<=n
  ·rw[decide_eq_true hn,yL];repeat (first|simp only[go_sem]|simp (disch:=first|exact omg|fail) only[AX]|refine wki ?_|refine vpd 15 [] ?_)
  ·rw[decide_eq_false hn,yS];repeat (first|simp only[go_sem]|simp (disch:=first|exact omg|fail) only[AX]|refine wki ?_|refine vpd 15 [] ?_)
 ·rw[show inD 7 n m a b=(decide (1<=n)&&decide (1<=m)) from rfl];by_cases hn:1<=n
  ·rw[decide_eq_true hn,yL];repeat (first|simp only[go_sem]|simp (disch:=first|exact omg|fail) only[AX]|refine wki ?_|refine vpd 15 [] ?_)
  ·rw[decide_eq_false hn,yS];repeat (first|simp only[go_sem]|simp (disch:=first|exact omg|fail) only[AX]|refine wki ?_|refine vpd 15 [] ?_)
 ·rw[show inD 8 n m a b=(decide (0<=n)&&(decide (0<=a)&&decide (a<=1))) from rfl,<- eN,<- eS];by_cases hn:0<=n
  ·rw[decide_eq_true hn,yL];cases hp:decide (0 < -a)
   ·rw[hp]at pN;repeat (first|simp only[go_sem,xn]|simp (disch:=first|exact omg|fail) only[AX,xn]|refine wki ?_|refine vpd 15 [] ?_|refine vfa ?_)
   ·rw[hp]at pN;repeat (first|simp only[go_sem,xQ]|simp (disch:=first|exact omg|fail) only[AX,xQ]|refine wki ?_|refine vpd 15 [] ?_|refine vfa ?_)
    rfl
  ·rw[decide_eq_false hn,yS];repeat (first|simp only[go_sem]|simp (disch:=first|exact omg|fail) only[AX]|refine wki ?_|refine vpd 15 [] ?_)
 ·rw[show inD 9 n m a b=decide (0<=a) from rfl];repeat (first|simp only[go_sem,eN]|simp (disch:=first|exact omg|fail) only[AX,eN]|refine wki ?_|refine vpd 15 [] ?_|refine vfa ?_)
 ·have e:inD k n m a b=false:=by
   unfold inD;rw[if_neg k1,if_neg k2,if_neg k3,if_neg k4,if_neg k5,if_neg k6,if_neg k7,if_neg k8,if_neg k9]
  rw[e];repeat (first|simp only[go_sem]|simp (disch:=first|exact omg|fail) only[AX]|refine wki ?_|refine vpd 15 [] ?_)
theorem ref14_Check (hA:RatA (ratV sa na da) a L) (hB:RatA (ratV sb nb db) b L) (hL:1<=L:=by omega) (h:L<=524288:=by omega):Go.Ev.Fn CX 36 [distV k n m sa na da sb nb db] (.int .i64 (chkD k n m a b)):=by
 have h1:=ref14_in (k:=k) (n:=n) (m:=m) hA hB hL h;have hI:=ref2_Int 64;have z1:=int_szR (n:=64);have zA:=szR_of hA hL;have hS:=ref2_Sub hA (RatA_rv z1) hL;have pS:=ref14_positive (RatA_rv (szR_sub zA z1 hL));rw[show ((64:Int):Rat)=64 from rfl]at hI hS pS;have eS:decide (0<a-64)=decide (64<a):=decide_eq_decide.2 ⟨fun h=>by grind,fun h=>by grind⟩;rw[eS]at pS;unfold chkD;refine fni Tryz.f36 ?_;unfold Tryz.f36;generalize inD k n m a b=i at *
 cases i
 ·repeat (first|simp only[go_sem]|simp (disch:=first|exact omg|fail) only[AX]|refine wki ?_|refine vpd 17 [] ?_)
  refine vfa ?_;repeat (first|simp only[go_sem,xn]|simp (disch:=first|exact omg|fail) only[AX,xn]|refine wki ?_|refine vpd 17 [] ?_)
 rw[if_pos rfl];rcases kinds k with rfl|rfl|rfl|rfl|rfl|rfl|rfl|rfl|rfl|⟨k1,k2,k3,k4,k5,k6,k7,k8,k9⟩
 ·repeat (first|simp only[go_sem]|simp (disch:=first|exact omg|fail) only[AX]|refine wki ?_|refine vpd 17 [] ?_)
  refine vfa ?_;repeat (first|simp only[go_sem,xQ]|simp (disch:=first|exact omg|fail) only[AX,xQ]|refine wki ?_|refine vpd 17 [] ?_)
  rfl
 ·repeat (first|simp only[go_sem]|simp (disch:=first|exact omg|fail) only[AX]|refine wki ?_|refine vpd 17 [] ?_)
  refine vfa ?_;repeat (first|simp only[go_sem,xQ]|simp (disch:=first|exact omg|fail) only[AX,xQ]|refine wki ?_|refine vpd 17 [] ?_)
  rfl
 ·rw[show gtD 3 n m a=decide (256<n) from rfl];by_cases hn:256<n
  ·repeat (first|simp only[go_sem]|simp (disch:=first|exact omg|fail) only[AX]|refine wki ?_|refine vpd 17 [] ?_)
   refine vfa ?_;repeat (first|simp only[go_sem,xQ]|simp (disch:=first|exact omg|fail) only[AX,xQ]|refine wki ?_|refine vpd 17 [] ?_)
  ·repeat (first|simp only[go_sem]|simp (disch:=first|exact omg|fail) only[AX]|refine wki ?_|refine vpd 17 [] ?_)
   refine vfa ?_;repeat (first|simp only[go_sem,xQ]|simp (disch:=first|exact omg|fail) only[AX,xQ]|refine wki ?_|refine vpd 17 [] ?_)
 ·rw[show gtD 4 n m a=decide (256<n) from rfl];by_cases hn:256<n
  ·repeat (first|simp only[go_sem]|simp (disch:=first|exact omg|fail) only[AX]|refine wki ?_|refine vpd 17 [] ?_)
   refine vfa ?_;repeat (first|simp only[go_sem,xQ]|simp (disch:=first|exact omg|fail) only[AX,xQ]|refine wki ?_|refine vpd 17 [] ?_)
  ·repeat (first|simp only[go_sem]|simp (disch:=first|exact omg|fail) only[AX]|refine wki ?_|refine vpd 17 [] ?_)
   refine vfa ?_;repeat (first|simp only[go_sem,xQ]|simp (disch:=first|exact omg|fail) only[AX,xQ]|refine wki ?_|refine vpd 17 [] ?_)
 ·rw[show gtD 5 n m a=decide (256<n) from rfl];by_cases hn:256<n
  ·repeat (first|simp only[go_sem]|simp (disch:=first|exact omg|fail) only[AX]|refine wki ?_|refine vpd 17 [] ?_)
   refine vfa ?_;repeat (first|simp only[go_sem,xQ]|simp (disch:=first|exact omg|fail) only[AX,xQ]|refine wki ?_|refine vpd 17 [] ?_)
  ·repeat (first|simp only[go_sem]|simp (disch:=first|exact omg|fail) only[AX]|refine wki ?_|refine vpd 17 [] ?_)
   refine vfa ?_;repeat (first|simp only[go_sem,xQ]|simp (disch:=first|exact omg|fail) only[AX,xQ]|refine wki ?_|refine vpd 17 [] ?_)
 ·rw[show gtD 6 n m a=(decide (256<n)||decide (256<m)) from rfl];by_cases hn:256<n
  ·repeat (first|simp only[go_sem]|simp (disch:=first|exact omg|fail) only[AX]|refine wki ?_|refine vpd 17 [] ?_)
   refine vfa ?_;repeat (first|simp only[go_sem,xQ]|simp (disch:=first|exact omg|fail) only[AX,xQ]|refine wki ?_|refine vpd 17 [] ?_)
   rfl
  ·by_cases hm:256<m
   ·repeat (first|simp only[go_sem]|simp (disch:=first|exact omg|fail) only[AX]|refine wki ?_|refine vpd 17 [] ?_)
    refine vfa ?_;repeat (first|simp only[go_sem,xQ]|simp (disch:=first|exact omg|fail) only[AX,xQ]|refine wki ?_|refine vpd 17 [] ?_)
    rfl
   ·repeat (first|simp only[go_sem]|simp (disch:=first|exact omg|fail) only[AX]|refine wki ?_|refine vpd 17 [] ?_)
    refine vfa ?_;repeat (first|simp only[go_sem,xQ]|simp (disch:=first|exact omg|fail) only[AX,xQ]|refine wki ?_|refine vpd 17 [] ?_)
    rfl
 ·rw[show gtD 7 n m a=(decide (256<n)||decide (256<m)) from rfl];by_cases hn:256<n
  ·repeat (first|simp only[go_sem]|simp (disch:=first|exact omg|fail) only[AX]|refine wki ?_|refine vpd 17 [] ?_)
   refine vfa ?_;repeat (first|simp only[go_sem,xQ]|simp (disch:=first|exact omg|fail) only[AX,xQ]|refine wki ?_|refine vpd 17 [] ?_)
   rfl
  ·by_cases hm:256<m
   ·repeat (first|simp only[go_sem]|simp (disch:=first|exact omg|fail) only[AX]|refine wki ?_|refine vpd 17 [] ?_)
    refine vfa ?_;repeat (first|simp only[go_sem,xQ]|simp (disch:=first|exact omg|fail) only[AX,xQ]|refine wki ?_|refine vpd 17 [] ?_)
    rfl
   ·repeat (first|simp only[go_sem]|simp (disch:=first|exact omg|fail) only[AX]|refine wki ?_|refine vpd 17 [] ?_)
    refine vfa ?_;repeat (first|simp only[go_sem,xQ]|simp (disch:=first|exact omg|fail) only[AX,xQ]|refine wki ?_|refine vpd 17 [] ?_)
    rfl
 ·rw[show gtD 8 n m a=decide (256<n) from rfl];by_cases hn:256<n
  ·repeat (first|simp only[go_sem]|simp (disch:=first|exact omg|fail) only[AX]|refine wki ?_|refine vpd 17 [] ?_)
   refine vfa ?_;repeat (first|simp only[go_sem,xQ]|simp (disch:=first|exact omg|fail) only[AX,xQ]|refine wki ?_|refine vpd 17 [] ?_)
  ·repeat (first|simp only[go_sem]|simp (disch:=first|exact omg|fail) only[AX]|refine wki ?_|refine vpd 17 [] ?_)
   refine vfa ?_;repeat (first|simp only[go_sem,xQ]|simp (disch:=first|exact omg|fail) only[AX,xQ]|refine wki ?_|refine vpd 17 [] ?_)
 ·rw[show gtD 9 n m a=decide (64<a) from rfl];cases hd:decide (64<a)
  ·rw[hd]at pS;repeat (first|simp only[go_sem,xQ]|simp (disch:=first|exact omg|fail) only[AX,xQ]|refine wki ?_|refine vpd 17 [] ?_|refine vfa ?_)
  ·rw[hd]at pS;repeat (first|simp only[go_sem,xQ]|simp (disch:=first|exact omg|fail) only[AX,xQ]|refine wki ?_|refine vpd 17 [] ?_|refine vfa ?_)
 ·have e:gtD k n m a=false:=by
   unfold gtD;rw[if_neg k3,if_neg k4,if_neg k5,if_neg k6,if_neg k7,if_neg k8,if_neg k9]
  rw[e];repeat (first|simp only[go_sem,xQ]|simp (disch:=first|exact omg|fail) only[AX,xQ]|refine wki ?_|refine vpd 17 [] ?_|refine vfa ?_)
end
end Go.Proofs.YtfknkoeagjonbaaGreat
namespace Go.Proofs.YtfknkoeagjonbaaGreat
open Go.Ev
section
variable {k n m:Int} {sa sb:Bool} {na da nb db:List Nat} {a b:Rat} {L:Nat}
theorem dist_over {v w:SV} {q r:Rat} {L M:Nat} (hv:RatA v q L) (hw:RatA w r M) (hL:1<=L:=by omega) (hM:1<=M:=by omega) (h:L+M<=268435456:=by omega):Go.Ev.Fn CX 207 [v,w] (rv (q/r)):=by
 have hd:=rat_Div hv hw hL hM h;obtain⟨s,x,d,rfl,-⟩:=hv;obtain⟨s',x',d',rfl,-⟩:=hw;refine fni Tryz.f207 ?_;unfold Tryz.f207;repeat (first|simp only[go_sem]|simp (disch:=first|exact omg|fail) only[AX]|refine wki ?_|refine vfa ?_)
theorem ref14_frac {v w:SV} {q r:Rat} {L M:Nat} (hv:RatA v q L) (hw:RatA w r M) (hL:1<=L:=by omega) (hM:1<=M:=by omega) (h:L+M<=8388608:=by omega):Go.Ev.Fn CX 97 [v,w] (rv (q/r)):=by
 have hd:=ref2_Div hv hw hL hM h;obtain⟨s,x,d,rfl,-⟩:=hv;obtain⟨s',x',d',rfl,-⟩:=hw;refine fni Tryz.f97 ?_;unfold Tryz.f97;repeat (first|simp only[go_sem]|simp (disch:=first|exact omg|fail) only[AX]|refine wki ?_|refine vfa ?_)
end
end Go.Proofs.YtfknkoeagjonbaaGreat
namespace Go.Proofs.YtfknkoeagjonbaaGreat
open Go.Ev
theorem one_len:szR 1 1:=⟨lim_len_lt (by decide +kernel),lim_len_lt (by decide +kernel)⟩
theorem dist_one:Go.Ev.Fn CX 105 [] (ballR 1 1):=by
 have i1:=rat_Int 1;have o:=ball_Of (RatA_rv (int_szR (n:=1)));rw[show ((1:Int):Rat)=1 from rfl]at i1 o;refine fni Tryz.f105 ?_;unfold Tryz.f105;repeat (first|simp only[go_sem]|simp (disch:=first|exact omg|fail) only[AX]|refine wki ?_|refine vfa ?_)
section
variable {n m p:Int} {x l h:Rat} {v:SV} {L:Nat}
def fisY (n m:Int) (x:Rat):Rat:=(n:Rat)*x/((n:Rat)*x+(m:Rat))
theorem fisY_sz (hn:1<=n/\n<=256) (hm:1<=m/\m<=256) (hx:szR x L) (hL1:1<=L:=by omega):szR (fisY n m x) (2*L+8):=by
 have i:=int_szR (n:=n);have j:=int_szR (n:=m);exact szR_mono (szR_div (szR_mul i hx) (szR_add (szR_mul i hx) j))
theorem chance_fisher {sa sb:Bool} {na da nb db:List Nat} (hn:1<=n/\n<=256) (hm:1<=m/\m<=256) (hx:RatA v x L) (hL1:1<=L) (hL:L<=200) (hx0:0<x) (f:Go.Ev.Fn CX 53 [.int .i64 n,.int .i64 m,rv (fisY n m x),.int .i64 p] (.tup [ballR l h,.bool true])) :
  Go.Ev.Fn CX 137 [distV 6 n m sa na da sb nb db,v,.int .i64 p] (.tup [ballR l h,.bool true]):=by
 have zx:=szR_of hx hL1;have i:=int_szR (n:=n);have j:=int_szR (n:=m);have rn:=rat_Int n;have rm:=rat_Int m;have mu:=rat_Mul (RatA_rv i) hx (by omega) hL1;have ad:=rat_Add (RatA_rv (szR_mul i zx)) (RatA_rv j);have ov:=dist_over (RatA_rv (szR_mul i zx)) (RatA_rv (szR_add (szR_mul i zx) j));have bl:=dist_below hx hL1 (by omega) 0;have ab:=dist_above hx hL1 (by omega) 0;rw[show ((0:Int):Rat)=0 from rfl]at bl ab;rw[decide_eq_false (by grind)]at bl;rw[decide_eq_true hx0]at ab;unfold fisY at f;clear zx i j hx0;obtain⟨s,nn,dd,rfl,-⟩:=hx;generalize (n:Rat)*x/((n:Rat)*x+(m:Rat))=y at *
 generalize (n:Rat)*x+(m:Rat)=y2 at *
 generalize (n:Rat)*x=y3 at *
 refine fni Tryz.f137 ?_;unfold Tryz.f137;repeat (first|simp only[go_sem,xQ]|simp (disch:=first|exact omg|fail) only[AX,xQ]|refine wki ?_|refine vpd 3 [] ?_|refine vpd 11 [] ?_|refine vpd 13 [] ?_|refine vpd 15 [] ?_|refine vpd 17 [] ?_|refine vpd 18 [] ?_|refine vpd 24 [] ?_|refine vpd 26 [] ?_|refine vfa ?_)
theorem dist_Cdf {k:Int} {sa sb:Bool} {na da nb db:List Nat} {a b:Rat} {M P:Nat} (hA:RatA (ratV sa na da) a M) (hB:RatA (ratV sb nb db) b M) (hM:1<=M) (hM2:M<=1000) (hc:chkD k n m a b=0) (hx:RatA v x L) (hp:P<=200)
  (f:Go.Ev.Fn CX 137 [distV k n m sa na da sb nb db,v,.int .i64 (P:Int)] (.tup [ballR l h,.bool true])) :
  Go.Ev.Fn CX 84 [distV k n m sa na da sb nb db,v,.int .i64 (P:Int)] (.tup [ballR l h,.int .i64 0]):=by
 have c:=dist_Check (k:=k) (n:=n) (m:=m) hA hB hM;rw[hc]at c;have x1:(if (0:Int)>(P:Int) then (0:Int) else (P:Int))=(P:Int):=if_neg (by omega);have x2:(if (200:Int)<(P:Int) then (200:Int) else (P:Int))=(P:Int):=if_neg (by omega);clear hA hB;obtain⟨s,nn,dd,rfl,-⟩:=hx;refine fni Tryz.f84 ?_;unfold Tryz.f84;repeat (first|simp only[go_sem,x1,x2,xQ]|simp (disch:=first|exact omg|fail) only[AX,x1,x2,xQ]|refine wki ?_|refine vfa ?_)
theorem dist_Above {k:Int} {sa sb:Bool} {na da nb db:List Nat} (hx:RatA v x L) (z1:szR l 200) (z2:szR h 200)
  (f:Go.Ev.Fn CX 84 [distV k n m sa na da sb nb db,v,.int .i64 p] (.tup [ballR l h,.int .i64 0])) :
  Go.Ev.Fn CX 49 [distV k n m sa na da sb nb db,v,.int .i64 p] (.tup [ballR (1-h) (1-l),.int .i64 0]):=by
 have d1:=dist_one;have bs:=ball_Sub (a:=1) (b:=1) (L:=200) (szR_mono one_len) (szR_mono one_len) z1 z2;clear z1 z2;obtain⟨s,nn,dd,rfl,-⟩:=hx;generalize 1-h=u1 at *
 generalize 1-l=u2 at *
 refine fni Tryz.f49 ?_;unfold Tryz.f49;repeat (first|simp only[go_sem]|simp (disch:=first|exact omg|fail) only[AX]|refine wki ?_|refine vpd 4 [] ?_|refine vf_of (by first|exact f|exact d1|exact bs) ?_)
end
end Go.Proofs.YtfknkoeagjonbaaGreat
namespace Go.Proofs.YtfknkoeagjonbaaGreat
open Go.Ev
def Meet (P:Nat) (l h c d:Rat):Prop:=l<=h/\c<=h/\l<=d/\(h-l)*p2 P<=1
theorem meet_flip {P:Nat} {l h c d:Rat} (m:Meet P l h c d):Meet P (1-h) (1-l) (1-d) (1-c):=by
 obtain⟨a,b,e,f⟩:=m;refine⟨by grind,by grind,by grind,?_⟩;rw[show 1-l-(1-h)=h-l by grind];exact f
theorem meet_one {P:Nat} {x:Rat}:Meet P x x x x:=⟨xi,xi,xi,by rw[Rat.sub_self,yM];decide⟩
theorem less_sz {x:Rat} {L:Nat} (z:szR x L):szR (1-x) (L+2):=szR_mono (szR_sub one_len z)
section
variable {a b n m P D:Nat} {x:Rat}
theorem beta_two (zx:szR x 245) (ha:1<=a) (ha2:a<=22) (hb:1<=b) (hb2:b<=22) (hP:P<=200) (hD:20<=D) (hD2:D<=110) (h0:0<x) (h1:x<=1) :
  ∃l h c d:Rat,Go.Ev.Fn CX 53 [.int .i64 (a:Int),.int .i64 (b:Int),rv x,.int .i64 (P:Int)] (.tup [ballR l h,.bool true]) /\
   Go.Ev.Fn CX 62 [.int .i64 (a:Int),.int .i64 (b:Int),rv x,.int .i64 (D:Int)] (.tup [ballR c d,.bool true])/\szR l 200/\szR h 200/\szR c 200/\szR d 200/\Meet P l h c d:=by
 obtain⟨E,rfl⟩ : ∃E,D=E+20:=⟨D-20,by omega⟩
 rw[show ((E+20:Nat):Int)=(E:Int)+20 from rfl];by_cases e:x=1
 ·subst e;have z:=szR_mono one_len (show 1<=200 by omega);exact⟨1,1,1,1,incb_I_ends (RatA_rv one_len) (by omega) (by omega) (by omega) (by omega) (.inr rfl),ref12_I_ends (RatA_rv one_len) (by omega) (by omega) ha (by omega) hb (by omega) (.inr rfl),z,z,z,z,meet_one⟩
 ·obtain⟨l,h,f,z1,z2,le,w,A,B⟩:=incb_ballW (p:=P) (RatA_rv zx) (by omega) (by omega) ha ha2 hb hb2 hP h0 (by grind);obtain⟨c,d,g,z3,z4,C,F⟩:=ref12_ballW (p:=E) (RatA_rv zx) (by omega) (by omega) ha ha2 hb hb2 (by omega) h0 (by grind);exact⟨l,h,c,d,f,g,z1,z2,szR_mono z3,szR_mono z4,le,lo_hi C B,lo_hi A F,w⟩
theorem gam_two (zx:szR x 240) (h0:0<=x) (h64:x<=64) (hn:1<=n) (hn2:n<=30) (hP:P<=96) (hD:D<=110) :
  ∃l h c d:Rat,Go.Ev.Fn CX 51 [.int .i64 (n:Int),rv x,.int .i64 (P:Int)] (.tup [ballR l h,.bool true]) /\
   Go.Ev.Fn CX 59 [.int .i64 (n:Int),rv x,.int .i64 (D:Int)] (.tup [ballR c d,.bool true])/\szR l 1202/\szR h 1202/\szR c 1202/\szR d 1202/\Meet P l h c d:=by
 have hv:=RatA_rv zx;by_cases e:x=0
 ·subst e;have z : ∀L,1<=L->szR 0 L:=fun L h=>szR_zero h
  have y:=szR_mono (less_sz (z 1 (by omega))) (show 1+2<=1202 by omega);exact⟨1-0,1-0,1-0,1-0,incg_Q hv (z _ (by omega)) (z _ (by omega)) (incg_Pzero hv),ref11_Q hv (z _ (by omega)) (z _ (by omega)) (ref11_Pzero hv),y,y,y,y,meet_one⟩
 ·have hx:0<x:=by grind
  obtain⟨a,b,lo,hi,f1,ab,z1,z2,thin,l0,lh,l1,l2,e1⟩:=incg_P (P:=P) hv hx h64 hn hn2 (.inr rfl) (.inl hP);obtain⟨c,d,lo',hi',f2,z3,z4,k0,k1,k2,k3,e2⟩:=ref11_P (p:=D) hv hx h64 hn hn2;have h1:lo<=hi':=sq_mono l0 k1 (xO l1 k3);have h2:lo'<=hi:=sq_mono k0 (xO l0 lh) (xO k2 l2);have h3:lo'<=hi':=sq_mono k0 k1 (xO k2 k3);obtain⟨t,t1,t2,t3,t4⟩ : ∃t:Rat,lo<=t/\t<=hi/\lo'<=t/\t<=hi':=by
   rcases zV (a:=lo) (b:=lo') with g|g
   ·exact⟨lo',g,h2,xi,h3⟩
   ·exact⟨lo,xi,lh,g,h1⟩
  obtain⟨L1,g1⟩:=e1 t t1 t2;obtain⟨L2,g2⟩:=e2 t t3 t4;have m1:=g1 (L1+L2) (by omega);have m2:=g2 (L1+L2) (by omega);exact⟨1-b,1-a,1-d,1-c,incg_Q hv z1 z2 f1,ref11_Q hv z3 z4 f2,szR_mono (less_sz z2),szR_mono (less_sz z1),less_sz z4,less_sz z3,meet_flip ⟨ab,xO m2.1 m1.2,xO m1.1 m2.2,thin⟩⟩
theorem fis_in (hn:1<=n) (hm:1<=m) (hx:0<x):0<fisY (n:Int) (m:Int) x/\fisY (n:Int) (m:Int) x<=1:=by
 have N1:(1:Rat)<=(n:Rat):=by exact_mod_cast hn
 have M1:(1:Rat)<=(m:Rat):=by exact_mod_cast hm
 have nx:=ya (show (0:Rat)<(n:Rat) by grind) hx;unfold fisY;rw[Rat.intCast_natCast,Rat.intCast_natCast];generalize (n:Rat)*x=u at *
 generalize (m:Rat)=M at *
 have e:u/(u+M)*(u+M)=u:=yD (by grind);have s:0<u+M:=by grind
 generalize u/(u+M)=q at *
 constructor
 ·refine Rat.not_le.1 fun g => ?_
  have:=xA g (xX s);grind
 ·refine zf.1 fun g => ?_
  have:=xA (xX g) (xX s);grind
abbrev dF (n m:Int):SV:=distV 6 n m false [] [] false [] []
theorem none_A:RatA (ratV false [] []) 0 1:=⟨false,[],[],rfl,by simp[okL],by simp[okL],by simp,by simp,by rfl⟩
theorem chk_F (hn:1<=n/\n<=256:=by omega) (hm:1<=m/\m<=256:=by omega):chkD 6 (n:Int) (m:Int) 0 0=0:=by
 have e1:inD 6 (n:Int) (m:Int) 0 0=(decide (1<=(n:Int))&&decide (1<=(m:Int))):=rfl;have e2:gtD 6 (n:Int) (m:Int) 0=(decide (256<(n:Int))||decide (256<(m:Int))):=rfl;unfold chkD;rw[e1,e2,decide_eq_true (show 1<=(n:Int) by omega),decide_eq_true (show 1<=(m:Int) by omega),decide_eq_false (show ¬256<(n:Int) by omega),decide_eq_false (show ¬256<(m:Int) by omega)];rfl
theorem ref14_exactT:Go.Ev.Fn CX 94 [.int .i64 1] (ballR 1 1):=by
 have i:=ref2_Int 1;have o:=ref4_Of (RatA_rv (int_szR (n:=1)));rw[show ((1:Int):Rat)=1 from rfl]at i o;refine fni Tryz.f94 ?_;unfold Tryz.f94;repeat (first|simp only[go_sem]|simp (disch:=first|exact omg|fail) only[AX]|refine wki ?_|refine vfa ?_)
theorem ref14_limitT (l h:Rat):Go.Ev.Fn CX 95 [ballR l h,.bool true] (.tup [ballR l h,.int .i64 0]):=by
 refine fni Tryz.f95 ?_;unfold Tryz.f95;repeat (first|simp only[go_sem,xQ]|simp (disch:=first|exact omg|fail) only[AX,xQ]|refine wki ?_)
theorem ref14_CdfF {c d:Rat} {p:Int} (hn:1<=n/\n<=256) (hm:1<=m/\m<=256) (zx:szR x 200) (hx:0<x)
  (f:Go.Ev.Fn CX 62 [.int .i64 (n:Int),.int .i64 (m:Int),rv (fisY (n:Int) (m:Int) x),.int .i64 p] (.tup [ballR c d,.bool true])) :
  Go.Ev.Fn CX 42 [dF (n:Int) (m:Int),rv x,.int .i64 p] (.tup [ballR c d,.int .i64 0]):=by
 have ck:=ref14_Check (k:=6) (n:=(n:Int)) (m:=(m:Int)) none_A none_A;rw[chk_F hn hm]at ck;have ps:=ref14_positive (RatA_rv zx);rw[decide_eq_true hx]at ps;have i:=int_szR (n:=(n:Int));have j:=int_szR (n:=(m:Int));have rn:=ref2_Int (n:Int);have rm:=ref2_Int (m:Int);have mu:=ref2_Mul (RatA_rv i) (RatA_rv zx);have ad:=ref2_Add (RatA_rv (szR_mul i zx)) (RatA_rv j);have ov:=ref14_frac (RatA_rv (szR_mul i zx)) (RatA_rv (szR_add (szR_mul i zx) j));have lm:=ref14_limitT c d;unfold fisY at f;clear zx i j hx;generalize ((n:Int):Rat)*x/(((n:Int):Rat)*x+((m:Int):Rat))=y at *
 generalize ((n:Int):Rat)*x+((m:Int):Rat)=y2 at *
 generalize ((n:Int):Rat)*x=y3 at *
 refine fni Tryz.f42 ?_;unfold Tryz.f42;repeat (first|simp only[go_sem,xQ]|simp (disch:=first|exact omg|fail) only[AX,xQ]|refine wki ?_|refine vpd 6 [] ?_|refine vpd 18 [] ?_|refine vpd 20 [] ?_|refine vpd 22 [] ?_|refine vpd 23 [] ?_|refine vpd 24 [] ?_|refine vfa ?_)
theorem ref14_AboveF {c d:Rat} {p:Int} (zc:szR c 200) (zd:szR d 200) (f:Go.Ev.Fn CX 42 [dF (n:Int) (m:Int),rv x,.int .i64 p] (.tup [ballR c d,.int .i64 0])) :
  Go.Ev.Fn CX 61 [dF (n:Int) (m:Int),rv x,.int .i64 p] (.tup [ballR (1-d) (1-c),.int .i64 0]):=by
 have e1:=ref14_exactT;have s:=ref4_SubI (a:=1) (b:=1) (L:=200) (szR_mono one_len) (szR_mono one_len) zc zd;clear zc zd;generalize 1-d=y1 at *
 generalize 1-c=y2 at *
 refine fni Tryz.f61 ?_;unfold Tryz.f61;repeat (first|simp only[go_sem]|simp (disch:=first|exact omg|fail) only[AX]|refine wki ?_|refine vpd 4 [] ?_|refine vfa ?_)
theorem fis_two (zx:szR x 112) (hx:0<x) (hn:1<=n/\n<=22) (hm:1<=m/\m<=22) (hP:P<=200) (hD:20<=D) (hD2:D<=110) :
  ∃l h c d:Rat,Go.Ev.Fn CX 49 [dF (n:Int) (m:Int),rv x,.int .i64 (P:Int)] (.tup [ballR l h,.int .i64 0]) /\
   Go.Ev.Fn CX 61 [dF (n:Int) (m:Int),rv x,.int .i64 (D:Int)] (.tup [ballR c d,.int .i64 0])/\szR l 1202/\szR h 1202/\szR c 1202/\szR d 1202/\Meet P l h c d:=by
 obtain⟨u0,u1⟩:=fis_in hn.1 hm.1 hx;obtain⟨l,h,c,d,f,g,z1,z2,z3,z4,mt⟩:=beta_two (P:=P) (D:=D) (szR_mono (fisY_sz (n:=(n:Int)) (m:=(m:Int)) (by omega) (by omega) zx)) hn.1 hn.2 hm.1 hm.2 hP hD hD2 u0 u1;have f1:=dist_Cdf none_A none_A (by omega) (by omega) (chk_F (n:=n) (m:=m)) (RatA_rv zx) hP (chance_fisher (by omega) (by omega) (RatA_rv zx) (by omega) (by omega) hx f);have g1:=ref14_CdfF (by omega) (by omega) (szR_mono zx) hx g
 exact⟨_,_,_,_,dist_Above (RatA_rv zx) z1 z2 f1,ref14_AboveF z3 z4 g1,szR_mono (less_sz z2),szR_mono (less_sz z1),szR_mono (less_sz z4),szR_mono (less_sz z3),meet_flip mt⟩
end
end Go.Proofs.YtfknkoeagjonbaaGreat
