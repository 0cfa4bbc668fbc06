/- Part 7 of the proof: the evaluator, contracts of functions and their plain laws (joined by program). No condition. -/
import Derived.Test.YtheclpmgipiejaaGreatDoorPart6
set_option linter.unusedVariables false
set_option linter.unusedSimpArgs false
set_option maxRecDepth 100000
namespace Go.Proofs.YtheclpmgipiejaaGreatDoor
open Go.Ev
theorem wth_at (xs:List Nat) {w:Nat} (h:w<xs.length):wth xs=wth (xs.take w)+4294967296^w*(xs.getD w 0+4294967296*wth (xs.drop (w+1))):=by
 conv=>lhs;rw[<- List.take_append_drop w xs,wth_append]
 rw[List.length_take,Nat.min_eq_left (by omega),wth_drop h]
theorem wth_set_add (q:List Nat) {w:Nat} (h:w<q.length) (e:Nat):wth (q.set w (q.getD w 0+e))=wth q+4294967296^w*e:=by
 have h1:=wth_at (q.set w (q.getD w 0+e)) (w:=w) (by rw[List.length_set];exact h)
 rw[getD_set_self h,List.drop_set_of_lt (by omega),List.take_set_of_le (Nat.le_refl _)]at h1
 rw[h1,wth_at q h]
 generalize 4294967296*wth (q.drop (w+1))=D
 rw[Nat.mul_add,Nat.mul_add,Nat.mul_add]
 omega
theorem pow_32 (J:Nat):2^J=4294967296^(J/32)*2^(J%32):=by
 rw[show (4294967296:Nat)=2^32 by rfl,<- Nat.pow_mul,<- Nat.pow_add,Nat.div_add_mod]
theorem wth_shr (xs:List Nat) (hx:okL xs) {w:Nat} (h:w<xs.length):wth xs/4294967296^w=xs.getD w 0+4294967296*wth (xs.drop (w+1)):=by
 rw[wth_at xs h,Nat.add_comm,Nat.mul_add_div (Nat.pow_pos (by omega)),Nat.div_eq_of_lt (wth_low hx w),Nat.add_zero]
theorem bit_get (xs:List Nat) (hx:okL xs) (J:Nat) (h:J/32<xs.length):xs.getD (J/32) 0/2^(J%32)%2=wth xs/2^J%2:=by
 rw[pow_32 J,<- Nat.div_div_eq_div_mul,wth_shr xs hx h]
 have hk:J%32<32:=Nat.mod_lt _ (by omega)
 generalize wth (xs.drop (J/32+1))=Z
 generalize xs.getD (J/32) 0=x
 generalize J%32=j at *
 have e:x+4294967296*Z=x+2^j*(2*(2^(31-j)*Z)):=by
  rw[<- Nat.mul_assoc 2,<- Nat.pow_succ',<- Nat.mul_assoc,show (31-j).succ=32-j by omega,pow_split hk]
 rw[e,Nat.add_mul_div_left _ _ (Nat.pow_pos (by omega)),Nat.add_mul_mod_self_left]
theorem bit_set (q:List Nat) (hq:okL q) (J Q:Nat) (h:J/32<q.length) (hv:wth q=Q*2^(J+1)) :
  q.getD (J/32) 0 |||2^(J%32)=q.getD (J/32) 0+2^(J%32)/\q.getD (J/32) 0+2^(J%32)<4294967296/\wth (q.set (J/32) (q.getD (J/32) 0+2^(J%32)))=(2*Q+1)*2^J:=by
 have hk:J%32<32:=Nat.mod_lt _ (by omega)
 have h1:q.getD (J/32) 0=(Q*2^(J%32+1))%4294967296:=by
  have h2:=wth_shr q hq h
  rw[hv,Nat.pow_succ,pow_32 J,Nat.mul_assoc,Nat.mul_left_comm,Nat.mul_div_cancel_left _ (Nat.pow_pos (by omega)),<- Nat.pow_succ]at h2
  rw[h2,Nat.add_mul_mod_self_left,Nat.mod_eq_of_lt (getD_lt hq _)]
 have h3:q.getD (J/32) 0=2^(J%32+1)*(Q%2^(31-J%32)):=by
  rw[h1,show (4294967296:Nat)=2^(J%32+1)*2^(31-J%32) by rw[<- Nat.pow_add,show J%32+1+(31-J%32)=32 by omega],Nat.mul_comm Q,Nat.mul_mod_mul_left]
 refine⟨?_,?_,?_⟩
 ·rw[h3]
  exact(Nat.two_pow_add_eq_or_of_lt (Nat.pow_lt_pow_right (by omega) (by omega)) _).symm
 ·have h4:Q%2^(31-J%32)+1<=2^(31-J%32):=Nat.mod_lt _ (Nat.pow_pos (by omega))
  have h5:2^(J%32+1)*(Q%2^(31-J%32)+1)<=2^(J%32+1)*2^(31-J%32):=Nat.mul_le_mul_left _ h4
  rw[<- Nat.pow_add,show J%32+1+(31-J%32)=32 by omega,Nat.mul_add,Nat.mul_one,<- h3]at h5
  have h6:0<2^(J%32):=Nat.pow_pos (by omega)
  have h7:2^(J%32+1)=2^(J%32)+2^(J%32):=by rw[Nat.pow_succ];omega
  have h8:(2:Nat)^32=4294967296:=rfl
  omega
 ·rw[wth_set_add q h,hv,<- pow_32 J,Nat.pow_succ,Nat.add_mul,Nat.one_mul,Nat.mul_comm (2^J) 2,<- Nat.mul_assoc,Nat.mul_comm Q 2]
theorem bit_step {X y J r b:Nat} (hy:0<y) (hr:r=X/2^(J+1)%y) (hb:b=X/2^J%2) :
  X/2^J%y=(if y<=r*2+b then r*2+b-y else r*2+b)/\X/2^J/y=2*(X/2^(J+1)/y)+(if y<=r*2+b then 1 else 0):=by
 have e1:X/2^J=2*(X/2^(J+1))+b:=by
  rw[Nat.pow_succ,<- Nat.div_div_eq_div_mul,hb,Nat.add_comm,Nat.mod_add_div]
 have e2:=Nat.div_add_mod (X/2^(J+1)) y
 rw[<- hr]at e2
 generalize X/2^(J+1)/y=Q at *
 have hr':r<y:=by rw[hr];exact Nat.mod_lt _ hy
 have hb':b<2:=by rw[hb];exact Nat.mod_lt _ (by omega)
 clear hr hb
 have e3:X/2^J=y*(2*Q)+(r*2+b):=by
  rw[e1,<- e2,Nat.mul_add,Nat.mul_left_comm]
  omega
 generalize X/2^J=A at *
 subst e3
 split
 ·rename_i h
  have e4:y*(2*Q)+(r*2+b)=y*(2*Q+1)+(r*2+b-y):=by rw[Nat.mul_add,Nat.mul_one];omega
  rw[e4,Nat.mul_add_mod,Nat.mul_add_div hy,Nat.mod_eq_of_lt (by omega),Nat.div_eq_of_lt (by omega),Nat.add_zero]
  exact⟨rfl,rfl⟩
 ·rename_i h
  rw[Nat.mul_add_mod,Nat.mul_add_div hy,Nat.mod_eq_of_lt (by omega),Nat.div_eq_of_lt (by omega)]
  exact⟨rfl,rfl⟩
theorem and_one (x:Nat):x &&& 1=x%2:=Nat.and_two_pow_sub_one_eq_mod x 1
set_option maxHeartbeats 4000000 in
theorem ref1_DivMod (xs ys:List Nat) (hx:okL xs) (hy:okL ys) (hl:xs.length<=16777216) (hm:ys.length<=16777216) :
  Go.Ev.Fn CX 27 [natV xs,natV ys] (.tup [natV (lim (wth xs/wth ys)),natV (lim (remN (wth xs) (wth ys))),.bool (decide (wth ys≠0))]):=by
 refine fni Tryz.f27 ?_;unfold Tryz.f27;simp only[Option.get!_some]
 have hTo:=ref1_To xs hx (by omega)
 have hTo2:=ref1_To ys hy (by omega)
 have hsm:=ref1_small xs (wth ys) hx (by omega)
 generalize hX:wth xs=X at *
 generalize hY:wth ys=Y at *
 repeat (first|simp only[go_sem]|simp (disch:=first|exact oa|fail) only[AX]|refine wki ?_|refine wqn ?_|refine vpx [] ?_)
 refine vf_of (ref1_Trim ys hy (by omega)) ?_;repeat (first|simp only[go_sem]|simp (disch:=first|exact oa|fail) only[AX]|refine wki ?_|refine wqn ?_|refine vpx [] ?_)
 rw[hY]
 rcases Nat.eq_zero_or_pos Y with h0|h0
 ·subst h0
  rw[lim_zero,Nat.div_zero,lim_zero,show remN X 0=0 by rfl,lim_zero]
  repeat (first|simp only[go_sem]|simp (disch:=first|exact oa|fail) only[AX]|refine wki ?_|refine wqn ?_|refine vpx [] ?_)
  rfl
 have e0:remN X Y=X%Y:=if_neg (by omega)
 have e1:decide (Y≠0)=true:=decide_eq_true (by omega)
 have hn0:0<(lim Y).length:=List.length_pos_iff.2 (fun h=>by have:=lim_eq_nil.1 h;omega)
 rw[e0,e1]
 repeat (first|simp only[go_sem]|simp (disch:=first|exact oa|fail) only[AX]|refine wki ?_|refine wqn ?_|refine vpx [] ?_|refine vf_of (by first|exact hTo|exact hTo2) ?_)
 by_cases hX2:X<18446744073709551616/\Y<18446744073709551616
 ·obtain⟨hX3,hY3⟩:=hX2
  have hq:X/Y<18446744073709551616:=Nat.lt_of_le_of_lt (Nat.div_le_self _ _) hX3
  have hr:X%Y<18446744073709551616:=Nat.lt_trans (Nat.mod_lt _ h0) hY3
  have hY4:Y≠0:=by omega
  rw[if_pos hX3,if_pos hY3,decide_eq_true hX3,decide_eq_true hY3]
  have oQ:=ref1_Of (X/Y) hq
  have oR:=ref1_Of (X%Y) hr
  have hqm:X/Y%18446744073709551616=X/Y:=Nat.mod_eq_of_lt hq
  repeat (first|simp only[go_sem,hqm]|simp (disch:=first|exact oa|fail) only[AX,hqm]|refine wki ?_|refine wqn ?_|refine vpx [] ?_|refine vf_of (by first|exact oQ|exact oR) ?_)
 ·have hdec:(decide (X<18446744073709551616)&&decide (Y<18446744073709551616))=false:=by
   rw[<- Bool.decide_and];exact decide_eq_false hX2
  by_cases hY1:Y<4294967296
  ·have hY3:Y<18446744073709551616:=by omega
   have hX3 : ¬X<18446744073709551616:=fun h=>hX2 ⟨h,hY3⟩
   have hr:X%Y<18446744073709551616:=Nat.lt_trans (Nat.mod_lt _ h0) hY3
   have hsm:=hsm h0 hY1
   have oR:=ref1_Of (X%Y) hr
   rw[if_pos hY3,if_neg hX3,decide_eq_true hY3,decide_eq_false hX3]
   repeat (first|simp only[go_sem]|simp (disch:=first|exact oa|fail) only[AX]|refine wki ?_|refine wqn ?_|refine vpx [] ?_|refine vf_of (by first|exact hsm|exact oR) ?_)
  ·clear hsm hTo hTo2
   have hcases:(¬X<18446744073709551616/\Y<18446744073709551616)\/(X<18446744073709551616 /\ ¬Y<18446744073709551616)\/(¬X<18446744073709551616 /\ ¬Y<18446744073709551616):=by omega
   rcases hcases with⟨hX3,hY3⟩|⟨hX3,hY3⟩|⟨hX3,hY3⟩
   all_goals
    simp only[hX3,hY3,if_true,if_false,decide_true,decide_false]
    repeat (first|simp only[go_sem]|simp (disch:=first|exact oa|fail) only[AX]|refine wki ?_|refine wqn ?_)
    refine vp_loop_inv (fun s=>s.tmp 0 = .sv (natV xs)/\s.tmp 1 = .sv (natV ys)/\s.tmp 13 = .ref 58 0 1 0 xs.length /\ ∃q:List Nat,∃I R:Nat,s.obj 58 0=some (q.map limb)/\s.tmp 15 = .sv (.int .i64 ((I:Int)-1))/\((s.tmp 14 = .nil/\R=0)\/s.tmp 14 = .sv (natV (lim R))) /\
      q.length=xs.length/\okL q/\I<=32*xs.length/\R=X/2^I%Y/\wth q=X/2^I/Y*2^I)
     (fun s=>match s.tmp 15 with | .sv (.int _ i)=>(i+1).toNat|_=>0) ?_ ?_
    ·have hXlt:=wth_lt hx
     rw[hX]at hXlt
     have h32:(4294967296:Nat)^xs.length=2^(32*xs.length):=by rw[Nat.pow_mul]
     rw[h32]at hXlt
     refine⟨rfl,rfl,rfl,List.replicate xs.length 0,32*xs.length,0,rfl,rfl,.inl ⟨rfl,rfl⟩,List.length_replicate ..,okL_replicate _,Nat.le_refl _,?_,?_⟩
     ·rw[Nat.div_eq_of_lt hXlt,Nat.zero_mod]
     ·rw[Nat.div_eq_of_lt hXlt,Nat.zero_div,Nat.zero_mul,wth_replicate]
    rintro s ⟨i0,i1,i13,q,I,R,iO,i15,hR,hql,hqk,hI,hRv,hqv⟩
    rcases Nat.eq_zero_or_pos I with rfl|hI0
    ·rw[Nat.pow_zero,Nat.div_one]at hRv hqv
     rw[Nat.mul_one]at hqv
     subst hRv
     rcases hR with⟨i14,hR0⟩|i14
     ·repeat (first|simp only[go_sem,i0,i1,i13,iO,i15,i14]|simp (disch:=first|exact oa|fail) only[AX,i0,i1,i13,iO,i15,i14]|refine wki ?_|refine wqn ?_|refine vpx [] ?_)
      refine vf_of (fn_natV (ref1_Trim q hqk (by omega)) hql) ?_;repeat (first|simp only[go_sem,i0,i1,i13,iO,i15,i14]|simp (disch:=first|exact oa|fail) only[AX,i0,i1,i13,iO,i15,i14]|refine wki ?_|refine wqn ?_|refine vpx [] ?_)
      refine vf_of (ref1_Trim [] okL_nil (by simp)) ?_;repeat (first|simp only[go_sem,i0,i1,i13,iO,i15,i14]|simp (disch:=first|exact oa|fail) only[AX,i0,i1,i13,iO,i15,i14]|refine wki ?_|refine wqn ?_|refine vpx [] ?_)
      rw[hqv,hR0,lim_zero,wth_nil,lim_zero]
      exact⟨rfl,rfl⟩
     ·have hRl:(lim (X%Y)).length<=ys.length:=by
       have h1:(lim Y).length<=ys.length:=by rw[<- hY];exact lim_length_le hy
       have h2:=Nat.mod_lt X h0
       have h3:=trimL_length (okL_lim (X%Y)) (okL_lim Y) (trimL_lim _) (by rw[wth_lim,wth_lim];omega)
       omega
      repeat (first|simp only[go_sem,i0,i1,i13,iO,i15,i14]|simp (disch:=first|exact oa|fail) only[AX,i0,i1,i13,iO,i15,i14]|refine wki ?_|refine wqn ?_|refine vpx [] ?_)
      refine vf_of (fn_natV (ref1_Trim q hqk (by omega)) hql) ?_;repeat (first|simp only[go_sem,i0,i1,i13,iO,i15,i14]|simp (disch:=first|exact oa|fail) only[AX,i0,i1,i13,iO,i15,i14]|refine wki ?_|refine wqn ?_|refine vpx [] ?_)
      refine vf_of (ref1_Trim (lim (X%Y)) (okL_lim _) (by omega)) ?_;repeat (first|simp only[go_sem,i0,i1,i13,iO,i15,i14]|simp (disch:=first|exact oa|fail) only[AX,i0,i1,i13,iO,i15,i14]|refine wki ?_|refine wqn ?_|refine vpx [] ?_)
      rw[hqv,wth_lim]
      exact⟨rfl,rfl⟩
    ·obtain⟨J,rfl⟩ : ∃J,I=J+1:=⟨I-1,by omega⟩
     have h5:((J+1:Nat):Int)-1=(J:Int):=by omega
     rw[h5]at i15
     have hRY:R<Y:=by rw[hRv];exact Nat.mod_lt _ h0
     have hlY:(lim Y).length<=ys.length:=by rw[<- hY];exact lim_length_le hy
     have hRl:(lim R).length<=(lim Y).length:=trimL_length (okL_lim _) (okL_lim _) (trimL_lim _) (by rw[wth_lim,wth_lim];omega)
     have hS:=ref1_shift_up (lim R) 1 (okL_lim R) (by omega) 1 rfl (by omega)
     rw[wth_lim,Nat.pow_one]at hS
     have hlen : ∀z,z<=R*2+1->(lim z).length<=ys.length+1:=by
      intro z hz
      have h1:=trimL_length (xs:=lim z) (ys:=0::lim Y) (okL_lim _) (okL_cons.2 ⟨by omega,okL_lim _⟩) (trimL_lim _) (by rw[wth_cons,wth_lim,wth_lim];omega)
      rw[List.length_cons]at h1
      omega
     have hw:J/32<xs.length:=by omega
     have hbg:=bit_get xs hx J hw
     have hbs:=bit_set q hqk J (X/2^(J+1)/Y) (by omega) hqv
     rw[hX]at hbg
     obtain⟨hst1,hst2⟩:=bit_step h0 hRv rfl
     have hb2:X/2^J%2<2:=Nat.mod_lt _ (by omega)
     have hx1:=getD_lt hx (J/32)
     have hq1:=getD_lt hqk (J/32)
     have hj:J%32<32:=Nat.mod_lt _ (by omega)
     generalize hB:X/2^J%2=B at *
     generalize hxw:xs.getD (J/32) 0=x at *
     have hxj:x/2^(J%32)<4294967296:=Nat.lt_of_le_of_lt (Nat.div_le_self _ _) hx1
     have hand:bitsSV .and .u32 ((x/2^(J%32):Nat):Int) 1=some (.int .u32 (B:Int)):=by
      have:=b_and32 (a:=x/2^(J%32)) (b:=1) hxj (by omega)
      rw[and_one,hbg]at this
      exact this
     have hmin:min (J%32) 32=J%32:=Nat.min_eq_left (by omega)
     clear hbg hRv hI0
     rcases hR with⟨i14,hR0⟩|i14
     all_goals (first|(have hR1:lim R=[]:=by rw[hR0,lim_zero]);rw[hR1]at hS|skip)
     all_goals
      repeat (first|simp only[go_sem,i0,i1,i13,iO,i15,i14,tdiv32,tmod32,hxw,hmin,hand]|simp (disch:=first|exact oa|fail) only[AX,i0,i1,i13,iO,i15,i14,tdiv32,tmod32,hxw,hmin,hand]|refine wki ?_|refine wqn ?_|refine vpx [] ?_|refine vf_of (by first|exact hS) ?_)
      refine vc_cut (Mid:=fun s'=>s'.tmp 0 = .sv (natV xs)/\s'.tmp 1 = .sv (natV ys)/\s'.tmp 13 = .ref 58 0 1 0 xs.length/\s'.obj 58 0=some (q.map limb)/\s'.tmp 15 = .sv (.int .i64 (J:Int))/\s'.tmp 14 = .sv (natV (lim (R*2+B)))) ?_ ?_
      ·have hB01:B=0\/B=1:=by omega
       rcases hB01 with hB0|hB1
       ·have hbq:((B:Int)==1)=false:=beqF (by omega)
        repeat (first|simp only[go_sem,i0,i1,i13,iO,i15,i14,hbq]|simp (disch:=first|exact oa|fail) only[AX,i0,i1,i13,iO,i15,i14,hbq]|refine wki ?_|refine wqn ?_|refine vpx [] ?_)
        rw[hB0,Nat.add_zero]
       ·have hbq:((B:Int)==1)=true:=beqT (by omega)
        have hA:=ref1_Add (lim (R*2)) [1] (okL_lim _) (by simp[okL]) (by have:=hlen (R*2) (by omega);omega) (by simp)
        rw[wth_lim,show wth [1]=B by rw[hB1];rfl]at hA
        repeat (first|simp only[go_sem,i0,i1,i13,iO,i15,i14,hbq]|simp (disch:=first|exact oa|fail) only[AX,i0,i1,i13,iO,i15,i14,hbq]|refine wki ?_|refine wqn ?_|refine vpx [] ?_|refine vf_of (by first|exact hA) ?_)
      rintro s' ⟨j0,j1,j13,jO,j15,j14⟩
      have hrl:=hlen (R*2+B) (by omega)
      have hC:=ref1_Cmp (lim (R*2+B)) ys (okL_lim _) hy (by omega) (by omega)
      have hSb:=ref1_Sub (lim (R*2+B)) ys (okL_lim _) hy (by omega) (by omega)
      rw[wth_lim,hY]at hC hSb
      clear hlen hrl hS hand
      by_cases hYR:Y<=R*2+B
      ·have hc:decide (cmpN (R*2+B) Y>=0)=true:=by
        have:=cmpN_ge hYR
        rw[decide_eq_false_iff_not]at this
        exact decide_eq_true (by omega)
       rw[if_pos hYR]at hst1 hst2
       obtain⟨hb1,hb3,hb4⟩:=hbs
       have hp2:2^(J%32)<4294967296:=show 2^(J%32)<2^32 from Nat.pow_lt_pow_right (by omega) hj
       have hsh:IntKind.u32.wrap (1*((2^(J%32):Nat):Int))=((2^(J%32):Nat):Int):=by rw[Int.one_mul,u32_nat,Nat.mod_eq_of_lt hp2]
       first|(exfalso;omega)|skip
       all_goals
        repeat (first|simp only[go_sem,j0,j1,j13,jO,j15,j14,hc,tdiv32,tmod32,hmin,hsh,hb1]|simp (disch:=first|exact oa|fail) only[AX,j0,j1,j13,jO,j15,j14,hc,tdiv32,tmod32,hmin,hsh,hb1]|refine wki ?_|refine wqn ?_|refine vpx [] ?_|refine vf_of (by first|exact hC|exact hSb) ?_)
        refine⟨⟨q.set (J/32) (q.getD (J/32) 0+2^(J%32)),J,R*2+B-Y,rfl,rfl,.inr rfl,by rw[List.length_set];exact hql,okL_set hqk _ _ hb3,by omega,hst1.symm,?_⟩,by omega⟩
        rw[hb4,hst2]
      ·have hc:decide (cmpN (R*2+B) Y>=0)=false:=by
        rw[cmpN_lt (by omega)];rfl
       rw[if_neg hYR]at hst1 hst2
       repeat (first|simp only[go_sem,j0,j1,j13,jO,j15,j14,hc]|simp (disch:=first|exact oa|fail) only[AX,j0,j1,j13,jO,j15,j14,hc]|refine wki ?_|refine wqn ?_|refine vpx [] ?_|refine vf_of (by first|exact hC) ?_)
       refine⟨⟨q,J,R*2+B,rfl,rfl,.inr rfl,hql,hqk,by omega,hst1.symm,?_⟩,by omega⟩
       rw[hqv,hst2]
       show X/2^(J+1)/Y*2^(J+1)=2*(X/2^(J+1)/Y)*2^J
       generalize X/2^(J+1)/Y=Qv
       rw[Nat.pow_succ',<- Nat.mul_assoc,Nat.mul_comm Qv]
theorem ref1_Gcd (xs ys:List Nat) (hx:okL xs) (hy:okL ys) (hl:xs.length<=16777216) (hm:ys.length<=16777216) :
  Go.Ev.Fn CX 26 [natV xs,natV ys] (natV (lim (Nat.gcd (wth xs) (wth ys)))):=by
 refine fni Tryz.f26 ?_;unfold Tryz.f26;simp only[Option.get!_some]
 have lx:=lim_length_le hx
 have ly:=lim_length_le hy
 repeat (first|simp only[go_sem]|simp (disch:=first|exact oa|fail) only[AX]|refine wki ?_|refine wqn ?_|refine vpx [] ?_)
 refine vf_of (ref1_Trim xs hx (by omega)) ?_;repeat (first|simp only[go_sem]|simp (disch:=first|exact oa|fail) only[AX]|refine wki ?_|refine wqn ?_|refine vpx [] ?_)
 refine vf_of (ref1_Trim ys hy (by omega)) ?_;repeat (first|simp only[go_sem]|simp (disch:=first|exact oa|fail) only[AX]|refine wki ?_|refine wqn ?_|refine vpx [] ?_)
 refine vp_loop_inv (fun s => ∃a b:Nat,s.tmp 5 = .sv (natV (lim a))/\s.tmp 6 = .sv (natV (lim b))/\(lim a).length<=16777216/\(lim b).length<=16777216/\Nat.gcd a b=Nat.gcd (wth xs) (wth ys))
  (fun s=>match s.tmp 6 with | .sv (.sl _ cs)=>(match decL cs with|some l=>wth l|none=>0)|_=>0) ⟨_,_,rfl,rfl,by omega,by omega,rfl⟩ ?_
 rintro s ⟨a,b,i0,i1,la,lb,hg⟩
 by_cases hb:b=0
 ·subst hb
  rw[lim_zero]at i1
  rw[<- hg,Nat.gcd_zero_right]
  repeat (first|simp only[go_sem,i0,i1]|simp (disch:=first|exact oa|fail) only[AX,i0,i1]|refine wki ?_|refine wqn ?_|refine vpx [] ?_)
 ·have h1:0<(lim b).length:=List.length_pos_iff.2 (fun h=>hb (lim_eq_nil.1 h))
  repeat (first|simp only[go_sem,i0,i1]|simp (disch:=first|exact oa|fail) only[AX,i0,i1]|refine wki ?_|refine wqn ?_|refine vpx [] ?_)
  refine vf_of (ref1_DivMod (lim a) (lim b) (okL_lim a) (okL_lim b) la lb) ?_;repeat (first|simp only[go_sem,i0,i1]|simp (disch:=first|exact oa|fail) only[AX,i0,i1]|refine wki ?_|refine wqn ?_|refine vpx [] ?_)
  have e1:remN (wth (lim a)) (wth (lim b))=a%b:=by rw[wth_lim,wth_lim];exact if_neg hb
  rw[e1,decL_map (okL_lim _),decL_map (okL_lim _)]
  dsimp only
  rw[wth_lim,wth_lim]
  have h2:a%b<b:=Nat.mod_lt _ (by omega)
  have h3:=trimL_length (okL_lim (a%b)) (okL_lim b) (trimL_lim _) (by rw[wth_lim,wth_lim];omega)
  refine⟨⟨b,a%b,rfl,rfl,lb,by omega,?_⟩,h2⟩
  rw[<- hg,Nat.gcd_comm b,<- Nat.gcd_rec,Nat.gcd_comm]
end Go.Proofs.YtheclpmgipiejaaGreatDoor
namespace Go.Proofs.YtheclpmgipiejaaGreatDoor
open Go.Ev
attribute [go_sem] List.head?_cons List.head?_nil
theorem nat_GcdL {N D:Nat} (hl:(lim N).length<=536870912) (hm:(lim D).length<=536870912):Go.Ev.Fn CX 139 [natV (lim N),natV (lim D)] (natV (lim (N.gcd D))):=by
 have h:=nat_Gcd (lim N) (lim D) (okL_lim _) (okL_lim _) hl hm
 rwa [wth_lim,wth_lim]at h
theorem nat_DivL {N D:Nat} (hD:D≠0) (hl:(lim N).length<=536870912) (hm:(lim D).length<=536870912):Go.Ev.Fn CX 140 [natV (lim N),natV (lim D)] (.tup [natV (lim (N/D)),natV (lim (N%D)),.bool true]):=by
 have h:=nat_DivMod (lim N) (lim D) (okL_lim _) (okL_lim _) hl hm
 rwa [wth_lim,wth_lim,show remN N D=N%D from if_neg hD,decide_eq_true hD]at h
theorem nat_MulL {N D:Nat} (hl:(lim N).length<=536870912) (hm:(lim D).length<=536870912):Go.Ev.Fn CX 94 [natV (lim N),natV (lim D)] (natV (lim (N*D))):=by
 have h:=nat_Mul (lim N) (lim D) (okL_lim _) (okL_lim _) (by omega) (by omega)
 rwa [wth_lim,wth_lim]at h
theorem nat_AddL {N D:Nat} (hl:(lim N).length<=536870912) (hm:(lim D).length<=536870912):Go.Ev.Fn CX 137 [natV (lim N),natV (lim D)] (natV (lim (N+D))):=by
 have h:=nat_Add (lim N) (lim D) (okL_lim _) (okL_lim _) (by omega) (by omega)
 rwa [wth_lim,wth_lim]at h
theorem nat_SubL {N D:Nat} (hl:(lim N).length<=536870912) (hm:(lim D).length<=536870912):Go.Ev.Fn CX 147 [natV (lim N),natV (lim D)] (.tup [natV (lim (N-D)),.bool (decide (D<=N))]):=by
 have h:=nat_Sub (lim N) (lim D) (okL_lim _) (okL_lim _) (by omega) (by omega)
 rw[wth_lim,wth_lim]at h
 by_cases hlt:N<D
 ·rw[if_pos hlt]at h
  rwa [show N-D=0 by omega,lim_zero,decide_eq_false (by omega)]
 ·rw[if_neg hlt]at h
  rwa [decide_eq_true (by omega:D<=N)]
theorem ref1_GcdL {N D:Nat} (hl:(lim N).length<=16777216) (hm:(lim D).length<=16777216):Go.Ev.Fn CX 26 [natV (lim N),natV (lim D)] (natV (lim (N.gcd D))):=by
 have h:=ref1_Gcd (lim N) (lim D) (okL_lim _) (okL_lim _) hl hm
 rwa [wth_lim,wth_lim]at h
theorem ref1_DivL {N D:Nat} (hD:D≠0) (hl:(lim N).length<=16777216) (hm:(lim D).length<=16777216):Go.Ev.Fn CX 27 [natV (lim N),natV (lim D)] (.tup [natV (lim (N/D)),natV (lim (N%D)),.bool true]):=by
 have h:=ref1_DivMod (lim N) (lim D) (okL_lim _) (okL_lim _) hl hm
 rwa [wth_lim,wth_lim,show remN N D=N%D from if_neg hD,decide_eq_true hD]at h
theorem ref1_MulL {N D:Nat} (hl:(lim N).length<=16777216) (hm:(lim D).length<=16777216):Go.Ev.Fn CX 52 [natV (lim N),natV (lim D)] (natV (lim (N*D))):=by
 have h:=ref1_Mul (lim N) (lim D) (okL_lim _) (okL_lim _) (by omega) (by omega)
 rwa [wth_lim,wth_lim]at h
theorem ref1_AddL {N D:Nat} (hl:(lim N).length<=16777216) (hm:(lim D).length<=16777216):Go.Ev.Fn CX 51 [natV (lim N),natV (lim D)] (natV (lim (N+D))):=by
 have h:=ref1_Add (lim N) (lim D) (okL_lim _) (okL_lim _) (by omega) (by omega)
 rwa [wth_lim,wth_lim]at h
theorem nat_CmpL {N D:Nat} (hl:(lim N).length<=536870912) (hm:(lim D).length<=536870912):Go.Ev.Fn CX 164 [natV (lim N),natV (lim D)] (.int .i64 (cmpN N D)):=by
 have h:=nat_Cmp (lim N) (lim D) (okL_lim _) (okL_lim _) (by omega) (by omega)
 rwa [wth_lim,wth_lim]at h
theorem lim_pos {N:Nat} (h:N≠0):0<(lim N).length:=List.length_pos_iff.2 (fun e=>h (lim_eq_nil.1 e))
theorem rat_Of (s:Bool) (n d:List Nat) (hn:okL n) (hd:okL d) (hl:n.length<=536870912) (hm:d.length<=536870912) :
  Go.Ev.Fn CX 89 [.bool s,natV n,natV d] (rv (mkRat (sgn s (wth n)) (wth d))):=by
 refine fni Tryz.f89 ?_;unfold Tryz.f89;simp only[Option.get!_some]
 have lx:=lim_length_le hn
 have ly:=lim_length_le hd
 repeat (first|simp only[go_sem]|simp (disch:=first|exact oa|fail) only[AX]|refine wki ?_|refine wqn ?_|refine vpx [] ?_)
 refine vf_of (nat_Trim n hn (by omega)) ?_;repeat (first|simp only[go_sem]|simp (disch:=first|exact oa|fail) only[AX]|refine wki ?_|refine wqn ?_|refine vpx [] ?_)
 refine vf_of (nat_Trim d hd (by omega)) ?_;repeat (first|simp only[go_sem]|simp (disch:=first|exact oa|fail) only[AX]|refine wki ?_|refine wqn ?_|refine vpx [] ?_)
 generalize wth n=N at *
 generalize wth d=D at *
 have oN:=okL_lim N
 have oD:=okL_lim D
 by_cases h:N=0\/D=0
 ·rw[mk_zero s h,rv_zero]
  have o1:=nat_Of 1 (by omega)
  rw[lim_one]at o1
  by_cases hN:N=0
  ·have h0:(lim N).length=0:=by rw[hN,lim_zero];rfl
   repeat (first|simp only[go_sem]|simp (disch:=first|exact oa|fail) only[AX]|refine wki ?_|refine wqn ?_|refine vpx [] ?_|refine vf_of (by first|exact o1) ?_)
   rfl
  ·have h0:(lim D).length=0:=by rw[h.resolve_left hN,lim_zero];rfl
   have h1:=lim_pos hN
   repeat (first|simp only[go_sem]|simp (disch:=first|exact oa|fail) only[AX]|refine wki ?_|refine wqn ?_|refine vpx [] ?_|refine vf_of (by first|exact o1) ?_)
   rfl
 ·have hN:N≠0:=fun e=>h (.inl e)
  have hD:D≠0:=fun e=>h (.inr e)
  rw[mk_parts s hN hD]
  have h1:=lim_pos hN
  have h2:=lim_pos hD
  have hg:N.gcd D≠0:=Nat.ne_of_gt (Nat.gcd_pos_of_pos_left _ (by omega))
  have h3:=lim_len_mono (Nat.gcd_le_left D (by omega:0<N))
  repeat (first|simp only[go_sem]|simp (disch:=first|exact oa|fail) only[AX]|refine wki ?_|refine wqn ?_|refine vpx [] ?_)
  refine vf_of (nat_GcdL (by omega) (by omega)) ?_;repeat (first|simp only[go_sem]|simp (disch:=first|exact oa|fail) only[AX]|refine wki ?_|refine wqn ?_|refine vpx [] ?_)
  refine vf_of (nat_DivL hg (by omega) (by omega)) ?_;repeat (first|simp only[go_sem]|simp (disch:=first|exact oa|fail) only[AX]|refine wki ?_|refine wqn ?_|refine vpx [] ?_)
  refine vf_of (nat_DivL hg (by omega) (by omega)) ?_;repeat (first|simp only[go_sem]|simp (disch:=first|exact oa|fail) only[AX]|refine wki ?_|refine wqn ?_|refine vpx [] ?_)
theorem rat_Norm {v:SV} {q:Rat} {L:Nat} (h:RatA v q L) (hL:L<=536870912):Go.Ev.Fn CX 93 [v] (rv q):=by
 obtain⟨s,n,d,rfl,hn,hd,hl,hm,rfl⟩:=h
 refine fni Tryz.f93 ?_;unfold Tryz.f93;simp only[Option.get!_some]
 repeat (first|simp only[go_sem]|simp (disch:=first|exact oa|fail) only[AX]|refine wki ?_|refine wqn ?_|refine vpx [] ?_)
 refine vf_of (rat_Of s n d hn hd (by omega) (by omega)) ?_;repeat (first|simp only[go_sem]|simp (disch:=first|exact oa|fail) only[AX]|refine wki ?_|refine wqn ?_|refine vpx [] ?_)
theorem int_u64 {n:Int} (h : -9223372036854775808<=n/\n<9223372036854775808):IntKind.u64.wrap n=((if n<0 then 18446744073709551616-n.natAbs else n.natAbs:Nat):Int):=by
 rw[IntKind.wrap_u64]
 split<;>omega
theorem rat_Int (n:Int) (h : -9223372036854775808<=n/\n<9223372036854775808):Go.Ev.Fn CX 38 [.int .i64 n] (rv (n:Rat)):=by
 refine fni Tryz.f38 ?_;unfold Tryz.f38;simp only[Option.get!_some]
 have o1:=nat_Of 1 (by omega)
 have oN:=nat_Of n.natAbs (by omega)
 have e1:=int_u64 h
 show WP CX _ _ (RQ _ _ (ratV (decide (n<0)) (lim n.natAbs) (lim 1)))
 by_cases h0:n<0
 ·rw[if_pos h0]at e1
  have e2:IntKind.u64.wrap (0-((18446744073709551616-n.natAbs:Nat):Int))=(n.natAbs:Int):=by rw[IntKind.wrap_u64];omega
  repeat (first|simp only[go_sem,e1,e2]|simp (disch:=first|exact oa|fail) only[AX,e1,e2]|refine wki ?_|refine wqn ?_|refine vpx [] ?_|refine vf_of (by first|exact oN|exact o1) ?_)
 ·rw[if_neg h0]at e1
  repeat (first|simp only[go_sem,e1]|simp (disch:=first|exact oa|fail) only[AX,e1]|refine wki ?_|refine wqn ?_|refine vpx [] ?_|refine vf_of (by first|exact oN|exact o1) ?_)
end Go.Proofs.YtheclpmgipiejaaGreatDoor
namespace Go.Proofs.YtheclpmgipiejaaGreatDoor
open Go.Ev
theorem rat_OfL {s:Bool} {n d:Nat} (hl:(lim n).length<=536870912) (hm:(lim d).length<=536870912) :
  Go.Ev.Fn CX 89 [.bool s,natV (lim n),natV (lim d)] (rv (mkRat (sgn s n) d)):=by
 have h:=rat_Of s (lim n) (lim d) (okL_lim _) (okL_lim _) hl hm
 rwa [wth_lim,wth_lim]at h
theorem mul_parts (q r:Rat):mkRat (sgn (!(decide (q.num<0)==decide (r.num<0))) (q.num.natAbs*r.num.natAbs)) (q.den*r.den)=q*r:=by
 have h:=sgn_mul q.num r.num
 rw[show (!(decide (q.num<0)==decide (r.num<0)))=(decide (q.num<0) != decide (r.num<0)) from rfl,h,<- Rat.mkRat_mul_mkRat,Rat.mkRat_self,Rat.mkRat_self]
theorem rat_Mul {v w:SV} {q r:Rat} {L M:Nat} (hv:RatA v q L) (hw:RatA w r M) (hL:1<=L) (hM:1<=M) (h:L+M<=268435456):Go.Ev.Fn CX 45 [v,w] (rv (q*r)):=by
 have hnv:=rat_Norm hv (by omega)
 have hnw:=rat_Norm hw (by omega)
 obtain⟨z1,z2⟩:=szR_of hv hL
 obtain⟨y1,y2⟩:=szR_of hw hM
 have g1:=lim_len_mul (a:=q.num.natAbs) (b:=r.num.natAbs)
 have g2:=lim_len_mul (a:=q.den) (b:=r.den)
 have hOf:=rat_OfL (s := !(decide (q.num<0)==decide (r.num<0))) (n:=q.num.natAbs*r.num.natAbs) (d:=q.den*r.den) (by omega) (by omega)
 rw[mul_parts]at hOf
 obtain⟨s,n,d,rfl,-⟩:=hv
 obtain⟨s',n',d',rfl,-⟩:=hw
 refine fni Tryz.f45 ?_;unfold Tryz.f45;simp only[Option.get!_some]
 repeat (first|simp only[go_sem]|simp (disch:=first|exact oa|fail) only[AX]|refine wki ?_|refine wqn ?_|refine vpd 1 [] ?_|refine vpd 2 [15,17,20,22,18,23] ?_|refine vf_of (by first|exact hnv|exact hnw) ?_)
 refine vf_of (nat_MulL (by omega) (by omega)) ?_;repeat (first|simp only[go_sem]|simp (disch:=first|exact oa|fail) only[AX]|refine wki ?_|refine wqn ?_|refine vpd 1 [] ?_|refine vpd 2 [15,17,20,22,18,23] ?_)
 refine vf_of (nat_MulL (by omega) (by omega)) ?_;repeat (first|simp only[go_sem]|simp (disch:=first|exact oa|fail) only[AX]|refine wki ?_|refine wqn ?_|refine vpd 1 [] ?_|refine vpd 2 [15,17,20,22,18,23] ?_)
 refine vf_of (hOf) ?_;repeat (first|simp only[go_sem]|simp (disch:=first|exact oa|fail) only[AX]|refine wki ?_|refine wqn ?_|refine vpd 1 [] ?_|refine vpd 2 [15,17,20,22,18,23] ?_)
theorem sgn_mul_nat (s:Bool) (a b:Nat):sgn s a*(b:Int)=sgn s (a*b):=by
 unfold sgn
 split
 ·rw[Int.neg_mul,Int.natCast_mul]
 ·rw[Int.natCast_mul]
theorem add_parts (q r:Rat):q+r=mkRat (sgn (decide (q.num<0)) (q.num.natAbs*r.den)+sgn (decide (r.num<0)) (r.num.natAbs*q.den)) (q.den*r.den):=by
 conv=>lhs;rw[<- Rat.mkRat_self q,<- Rat.mkRat_self r,Rat.mkRat_add_mkRat _ _ q.den_nz r.den_nz]
 congr 1
 rw[<- sgn_mul_nat,<- sgn_mul_nat,sgn_self,sgn_self]
theorem add_same (q r:Rat) (h:decide (q.num<0)=decide (r.num<0)):mkRat (sgn (decide (q.num<0)) (q.num.natAbs*r.den+r.num.natAbs*q.den)) (q.den*r.den)=q+r:=by
 rw[add_parts,<- h]
 congr 1
 unfold sgn
 split<;>omega
theorem add_ge (q r:Rat) (h : ¬decide (q.num<0)=decide (r.num<0)) (h2:r.num.natAbs*q.den<=q.num.natAbs*r.den):mkRat (sgn (decide (q.num<0)) (q.num.natAbs*r.den-r.num.natAbs*q.den)) (q.den*r.den)=q+r:=by
 rw[add_parts]
 congr 1
 have e:decide (r.num<0) = !decide (q.num<0):=by
  revert h
  cases decide (q.num<0)<;>cases decide (r.num<0)<;>simp
 rw[e]
 generalize q.num.natAbs*r.den=X at *
 generalize r.num.natAbs*q.den=Y at *
 unfold sgn
 cases decide (q.num<0)
 ·simp;omega
 ·simp;omega
theorem add_lt (q r:Rat) (h : ¬decide (q.num<0)=decide (r.num<0)) (h2:q.num.natAbs*r.den<r.num.natAbs*q.den):mkRat (sgn (decide (r.num<0)) (r.num.natAbs*q.den-q.num.natAbs*r.den)) (q.den*r.den)=q+r:=by
 have h3:=add_ge r q (fun e=>h e.symm) (Nat.le_of_lt h2)
 rw[Nat.mul_comm r.den,Rat.add_comm r q]at h3
 exact h3
theorem beq_bool (a b:Bool):(a==b)=decide (a=b):=by cases a<;>cases b<;>rfl
theorem lim_len_add2 {a b L:Nat} (ha:(lim a).length<=L) (hb:(lim b).length<=L):(lim (a+b)).length<=L+1:=lim_len_add ha hb
theorem rat_Add {v w:SV} {q r:Rat} {L M:Nat} (hv:RatA v q L) (hw:RatA w r M) (hL:1<=L) (hM:1<=M) (h:L+M<=268435456):Go.Ev.Fn CX 185 [v,w] (rv (q+r)):=by
 have hnv:=rat_Norm hv (by omega)
 have hnw:=rat_Norm hw (by omega)
 obtain⟨z1,z2⟩:=szR_of hv hL
 obtain⟨y1,y2⟩:=szR_of hw hM
 have g1:=lim_len_mul (a:=q.num.natAbs) (b:=r.den)
 have g2:=lim_len_mul (a:=r.num.natAbs) (b:=q.den)
 have g3:=lim_len_mul (a:=q.den) (b:=r.den)
 have g4:=lim_len_add2 (a:=q.num.natAbs*r.den) (b:=r.num.natAbs*q.den) (L:=L+M) (by omega) (by omega)
 have g5:=lim_len_mono (Nat.sub_le (q.num.natAbs*r.den) (r.num.natAbs*q.den))
 have g6:=lim_len_mono (Nat.sub_le (r.num.natAbs*q.den) (q.num.natAbs*r.den))
 obtain⟨s,n,d,rfl,-⟩:=hv
 obtain⟨s',n',d',rfl,-⟩:=hw
 have hbb:=beq_bool (decide (q.num<0)) (decide (r.num<0))
 refine fni Tryz.f185 ?_;unfold Tryz.f185;simp only[Option.get!_some]
 repeat (first|simp only[go_sem]|simp (disch:=first|exact oa|fail) only[AX]|refine wki ?_|refine wqn ?_|refine vpd 1 [] ?_|refine vpd 2 [17,19,22,24,27,29] ?_|refine vpd 4 [5,6,40,7] ?_|refine vf_of (by first|exact hnv|exact hnw) ?_)
 refine vf_of (nat_MulL (by omega) (by omega)) ?_;repeat (first|simp only[go_sem]|simp (disch:=first|exact oa|fail) only[AX]|refine wki ?_|refine wqn ?_|refine vpd 1 [] ?_|refine vpd 2 [17,19,22,24,27,29] ?_|refine vpd 4 [5,6,40,7] ?_)
 refine vf_of (nat_MulL (by omega) (by omega)) ?_;repeat (first|simp only[go_sem]|simp (disch:=first|exact oa|fail) only[AX]|refine wki ?_|refine wqn ?_|refine vpd 1 [] ?_|refine vpd 2 [17,19,22,24,27,29] ?_|refine vpd 4 [5,6,40,7] ?_)
 refine vf_of (nat_MulL (by omega) (by omega)) ?_;repeat (first|simp only[go_sem,hbb]|simp (disch:=first|exact oa|fail) only[AX,hbb]|refine wki ?_|refine wqn ?_|refine vpd 1 [] ?_|refine vpd 2 [17,19,22,24,27,29] ?_|refine vpd 4 [5,6,40,7] ?_)
 by_cases hs:decide (q.num<0)=decide (r.num<0)
 ·have hOf:=rat_OfL (s:=decide (q.num<0)) (n:=q.num.natAbs*r.den+r.num.natAbs*q.den) (d:=q.den*r.den) (by omega) (by omega)
  rw[add_same q r hs]at hOf
  rw[decide_eq_true hs]
  repeat (first|simp only[go_sem]|simp (disch:=first|exact oa|fail) only[AX]|refine wki ?_|refine wqn ?_|refine vpd 1 [] ?_|refine vpd 2 [17,19,22,24,27,29] ?_|refine vpd 4 [5,6,40,7] ?_)
  refine vf_of (nat_AddL (by omega) (by omega)) ?_;repeat (first|simp only[go_sem]|simp (disch:=first|exact oa|fail) only[AX]|refine wki ?_|refine wqn ?_|refine vpd 1 [] ?_|refine vpd 2 [17,19,22,24,27,29] ?_|refine vpd 4 [5,6,40,7] ?_)
  refine vf_of (hOf) ?_;repeat (first|simp only[go_sem]|simp (disch:=first|exact oa|fail) only[AX]|refine wki ?_|refine wqn ?_|refine vpd 1 [] ?_|refine vpd 2 [17,19,22,24,27,29] ?_|refine vpd 4 [5,6,40,7] ?_)
 ·rw[decide_eq_false hs]
  repeat (first|simp only[go_sem]|simp (disch:=first|exact oa|fail) only[AX]|refine wki ?_|refine wqn ?_|refine vpd 1 [] ?_|refine vpd 2 [17,19,22,24,27,29] ?_|refine vpd 4 [5,6,40,7] ?_)
  refine vf_of (nat_SubL (by omega) (by omega)) ?_;repeat (first|simp only[go_sem]|simp (disch:=first|exact oa|fail) only[AX]|refine wki ?_|refine wqn ?_|refine vpd 1 [] ?_|refine vpd 2 [17,19,22,24,27,29] ?_|refine vpd 4 [5,6,40,7] ?_)
  by_cases h2:r.num.natAbs*q.den<=q.num.natAbs*r.den
  ·have hOf:=rat_OfL (s:=decide (q.num<0)) (n:=q.num.natAbs*r.den-r.num.natAbs*q.den) (d:=q.den*r.den) (by omega) (by omega)
   rw[add_ge q r hs h2]at hOf
   rw[decide_eq_true h2]
   repeat (first|simp only[go_sem]|simp (disch:=first|exact oa|fail) only[AX]|refine wki ?_|refine wqn ?_|refine vpd 1 [] ?_|refine vpd 2 [17,19,22,24,27,29] ?_|refine vpd 4 [5,6,40,7] ?_|refine vf_of (by first|exact hOf) ?_)
  ·have hOf:=rat_OfL (s:=decide (r.num<0)) (n:=r.num.natAbs*q.den-q.num.natAbs*r.den) (d:=q.den*r.den) (by omega) (by omega)
   rw[add_lt q r hs (by omega)]at hOf
   rw[decide_eq_false h2]
   repeat (first|simp only[go_sem]|simp (disch:=first|exact oa|fail) only[AX]|refine wki ?_|refine wqn ?_|refine vpd 1 [] ?_|refine vpd 2 [17,19,22,24,27,29] ?_|refine vpd 4 [5,6,40,7] ?_)
   refine vf_of (nat_SubL (by omega) (by omega)) ?_;repeat (first|simp only[go_sem]|simp (disch:=first|exact oa|fail) only[AX]|refine wki ?_|refine wqn ?_|refine vpd 1 [] ?_|refine vpd 2 [17,19,22,24,27,29] ?_|refine vpd 4 [5,6,40,7] ?_)
   refine vf_of (hOf) ?_;repeat (first|simp only[go_sem]|simp (disch:=first|exact oa|fail) only[AX]|refine wki ?_|refine wqn ?_|refine vpd 1 [] ?_|refine vpd 2 [17,19,22,24,27,29] ?_|refine vpd 4 [5,6,40,7] ?_)
theorem neg_parts (q:Rat):rv (-q)=ratV (!decide (q.num<0)&&decide (0<(lim q.num.natAbs).length)) (lim q.num.natAbs) (lim q.den):=by
 show ratV (decide ((-q).num<0)) (lim (-q).num.natAbs) (lim (-q).den)=_
 rw[Rat.neg_num,Rat.neg_den,Int.natAbs_neg]
 congr 3
 by_cases h:q.num=0
 ·rw[h];rfl
 ·have h1:=lim_pos (N:=q.num.natAbs) (by omega)
  rw[decide_eq_true h1,Bool.and_true]
  by_cases h2:q.num<0
  ·rw[decide_eq_true h2,decide_eq_false (by omega)];rfl
  ·rw[decide_eq_false h2,decide_eq_true (by omega)];rfl
theorem rat_signed (s t:Bool) (n d:List Nat) (hn:n.length<=1099511627776):Go.Ev.Fn CX 297 [.bool s,ratV t n d] (ratV (s&&decide (0<n.length)) n d):=by
 refine fni Tryz.f297 ?_;unfold Tryz.f297;simp only[Option.get!_some]
 cases s
 ·repeat (first|simp only[go_sem]|simp (disch:=first|exact oa|fail) only[AX]|refine wki ?_|refine wqn ?_)
  rfl
 ·by_cases h:0<n.length
  ·rw[decide_eq_true h]
   repeat (first|simp only[go_sem]|simp (disch:=first|exact oa|fail) only[AX]|refine wki ?_|refine wqn ?_)
  ·rw[decide_eq_false h]
   repeat (first|simp only[go_sem]|simp (disch:=first|exact oa|fail) only[AX]|refine wki ?_|refine wqn ?_)
theorem rat_Neg {v:SV} {q:Rat} {L:Nat} (hv:RatA v q L) (hL:1<=L) (h:L<=268435456):Go.Ev.Fn CX 231 [v] (rv (-q)):=by
 have hnv:=rat_Norm hv (by omega)
 obtain⟨z1,z2⟩:=szR_of hv hL
 have hs:=rat_signed (!decide (q.num<0)) (decide (q.num<0)) (lim q.num.natAbs) (lim q.den) (by omega)
 rw[<- neg_parts]at hs
 obtain⟨s,n,d,rfl,-⟩:=hv
 refine fni Tryz.f231 ?_;unfold Tryz.f231;simp only[Option.get!_some]
 repeat (first|simp only[go_sem]|simp (disch:=first|exact oa|fail) only[AX]|refine wki ?_|refine wqn ?_|refine vf_of (by first|exact hnv|exact hs) ?_)
theorem szR_neg {q:Rat} {L:Nat} (h:szR q L):szR (-q) L:=by
 unfold szR
 rw[Rat.neg_num,Rat.neg_den,Int.natAbs_neg]
 exact h
theorem rat_Sub {v w:SV} {q r:Rat} {L M:Nat} (hv:RatA v q L) (hw:RatA w r M) (hL:1<=L) (hM:1<=M) (h:L+M<=268435456):Go.Ev.Fn CX 215 [v,w] (rv (q-r)):=by
 have hN:=rat_Neg hw hM (by omega)
 have hA:=rat_Add hv (RatA_rv (szR_neg (szR_of hw hM))) hL hM h
 rw[<- Rat.sub_eq_add_neg]at hA
 obtain⟨s,n,d,rfl,-⟩:=hv
 obtain⟨s',n',d',rfl,-⟩:=hw
 refine fni Tryz.f215 ?_;unfold Tryz.f215;simp only[Option.get!_some]
 repeat (first|simp only[go_sem]|simp (disch:=first|exact oa|fail) only[AX]|refine wki ?_|refine wqn ?_|refine vpd 1 [] ?_|refine vf_of (by first|exact hN|exact hA) ?_)
theorem num_zero {q:Rat}:q.num=0↔q=0:=Rat.num_eq_zero
theorem div_parts {q r:Rat} (hr:r≠0):q/r=q*mkRat (sgn (decide (r.num<0)) r.den) r.num.natAbs:=by
 rw[Rat.div_def]
 congr 1
 rw[Rat.inv_def]
 have h0:r.num≠0:=fun e=>hr (num_zero.1 e)
 by_cases h:r.num<0
 ·rw[decide_eq_true h]
  obtain⟨k,hk⟩ : ∃k:Nat,r.num=Int.negSucc k:=⟨r.num.natAbs-1,by omega⟩
  rw[hk,show (Int.negSucc k).natAbs=k+1 from rfl]
  show Rat.normalize (-(r.den:Int)) (k+1) (Nat.succ_ne_zero k)=mkRat (-(r.den:Int)) (k+1)
  rw[Rat.normalize_eq_mkRat]
 ·rw[decide_eq_false h]
  obtain⟨m,hm⟩ : ∃m:Nat,r.num=(m:Int):=⟨r.num.natAbs,by omega⟩
  rw[hm,Int.natAbs_natCast,Rat.divInt_ofNat]
  rfl
theorem rat_Div {v w:SV} {q r:Rat} {L M:Nat} (hv:RatA v q L) (hw:RatA w r M) (hL:1<=L) (hM:1<=M) (h:L+M<=268435456):Go.Ev.Fn CX 43 [v,w] (.tup [rv (q/r),.bool (decide (r≠0))]):=by
 have hnw:=rat_Norm hw (by omega)
 obtain⟨y1,y2⟩:=szR_of hw hM
 have h0:=rat_Int 0 (by omega)
 have hMul:r≠0->_:=fun hr=>rat_Mul (w:=ratV (decide (r.num<0)) (lim r.den) (lim r.num.natAbs)) hv ⟨_,_,_,rfl,okL_lim _,okL_lim _,y2,y1,by rw[wth_lim,wth_lim]⟩ hL hM h
 obtain⟨s,n,d,rfl,-⟩:=hv
 obtain⟨s',n',d',rfl,-⟩:=hw
 refine fni Tryz.f43 ?_;unfold Tryz.f43;simp only[Option.get!_some]
 by_cases hr:r=0
 ·have hl:(lim r.num.natAbs).length=0:=by rw[num_zero.2 hr];simp[lim_zero]
  rw[decide_eq_false (fun e=>e hr),hr,Rat.div_def,Rat.inv_zero,Rat.mul_zero]
  subst hr
  repeat (first|simp only[go_sem]|simp (disch:=first|exact oa|fail) only[AX]|refine wki ?_|refine wqn ?_|refine vf_of (by first|exact hnw|exact h0) ?_)
  rfl
 ·have hl:=lim_pos (N:=r.num.natAbs) (fun e=>hr (num_zero.1 (by omega)))
  have hMul:=hMul hr
  rw[<- div_parts hr]at hMul
  rw[decide_eq_true hr]
  repeat (first|simp only[go_sem]|simp (disch:=first|exact oa|fail) only[AX]|refine wki ?_|refine wqn ?_|refine vf_of (by first|exact hnw|exact hMul) ?_)
end Go.Proofs.YtheclpmgipiejaaGreatDoor
namespace Go.Proofs.YtheclpmgipiejaaGreatDoor
open Go.Ev
theorem ref2_Norm {v:SV} {q:Rat} {L:Nat} (h:RatA v q L) (hL:L<=16777216):Go.Ev.Fn CX 13 [v] (rv q):=by
 obtain⟨s,n,d,rfl,hn,hd,hl,hm,rfl⟩:=h
 have lx:=lim_length_le hn
 have ly:=lim_length_le hd
 have tn:=ref1_Trim n hn (by omega)
 have td:=ref1_Trim d hd (by omega)
 refine fni Tryz.f13 ?_;unfold Tryz.f13;simp only[Option.get!_some]
 generalize wth n=N at *
 generalize wth d=D at *
 repeat (first|simp only[go_sem]|simp (disch:=first|exact oa|fail) only[AX]|refine wki ?_|refine wqn ?_|refine vpd 1 [7,10] ?_|refine vf_of (by first|exact tn|exact td) ?_)
 by_cases h:N=0\/D=0
 ·rw[mk_zero s h,rv_zero]
  by_cases hD:D=0
  ·have h0:(lim D).length=0:=by rw[hD,lim_zero];rfl
   repeat (first|simp only[go_sem]|simp (disch:=first|exact oa|fail) only[AX]|refine wki ?_|refine wqn ?_|refine vpd 1 [7,10] ?_)
   rfl
  ·have h0:(lim N).length=0:=by rw[h.resolve_right hD,lim_zero];rfl
   have h1:=lim_pos hD
   repeat (first|simp only[go_sem]|simp (disch:=first|exact oa|fail) only[AX]|refine wki ?_|refine wqn ?_|refine vpd 1 [7,10] ?_)
   rfl
 ·have hN:N≠0:=fun e=>h (.inl e)
  have hD:D≠0:=fun e=>h (.inr e)
  rw[mk_parts s hN hD]
  have h1:=lim_pos hN
  have h2:=lim_pos hD
  have hg:N.gcd D≠0:=Nat.ne_of_gt (Nat.gcd_pos_of_pos_left _ (by omega))
  have h3:=lim_len_mono (Nat.gcd_le_left D (by omega:0<N))
  repeat (first|simp only[go_sem]|simp (disch:=first|exact oa|fail) only[AX]|refine wki ?_|refine wqn ?_|refine vpd 1 [7,10] ?_)
  refine vf_of (ref1_GcdL (by omega) (by omega)) ?_;repeat (first|simp only[go_sem]|simp (disch:=first|exact oa|fail) only[AX]|refine wki ?_|refine wqn ?_|refine vpd 1 [7,10] ?_)
  refine vf_of (ref1_DivL hg (by omega) (by omega)) ?_;repeat (first|simp only[go_sem]|simp (disch:=first|exact oa|fail) only[AX]|refine wki ?_|refine wqn ?_|refine vpd 1 [7,10] ?_)
  refine vf_of (ref1_DivL hg (by omega) (by omega)) ?_;repeat (first|simp only[go_sem]|simp (disch:=first|exact oa|fail) only[AX]|refine wki ?_|refine wqn ?_|refine vpd 1 [7,10] ?_)
theorem ref2_Of (s:Bool) (n d:List Nat) (hn:okL n) (hd:okL d) (hl:n.length<=16777216) (hm:d.length<=16777216) :
  Go.Ev.Fn CX 46 [.bool s,natV n,natV d] (rv (mkRat (sgn s (wth n)) (wth d))):=by
 have hN:=ref2_Norm (v:=ratV s n d) (L:=16777216) ⟨s,n,d,rfl,hn,hd,hl,hm,rfl⟩ (by omega)
 refine fni Tryz.f46 ?_;unfold Tryz.f46;simp only[Option.get!_some]
 repeat (first|simp only[go_sem]|simp (disch:=first|exact oa|fail) only[AX]|refine wki ?_|refine wqn ?_|refine vf_of (by first|exact hN) ?_)
theorem ref2_OfL {s:Bool} {n d:Nat} (hl:(lim n).length<=16777216) (hm:(lim d).length<=16777216) :
  Go.Ev.Fn CX 46 [.bool s,natV (lim n),natV (lim d)] (rv (mkRat (sgn s n) d)):=by
 have h:=ref2_Of s (lim n) (lim d) (okL_lim _) (okL_lim _) hl hm
 rwa [wth_lim,wth_lim]at h
theorem ref2_Mul {v w:SV} {q r:Rat} {L M:Nat} (hv:RatA v q L) (hw:RatA w r M) (hL:1<=L) (hM:1<=M) (h:L+M<=8388608):Go.Ev.Fn CX 22 [v,w] (rv (q*r)):=by
 have hnv:=ref2_Norm hv (by omega)
 have hnw:=ref2_Norm hw (by omega)
 obtain⟨z1,z2⟩:=szR_of hv hL
 obtain⟨y1,y2⟩:=szR_of hw hM
 have g1:=lim_len_mul (a:=q.num.natAbs) (b:=r.num.natAbs)
 have g2:=lim_len_mul (a:=q.den) (b:=r.den)
 have hOf:=ref2_OfL (s := !(decide (q.num<0)==decide (r.num<0))) (n:=q.num.natAbs*r.num.natAbs) (d:=q.den*r.den) (by omega) (by omega)
 rw[mul_parts]at hOf
 obtain⟨s,n,d,rfl,-⟩:=hv
 obtain⟨s',n',d',rfl,-⟩:=hw
 refine fni Tryz.f22 ?_;unfold Tryz.f22;simp only[Option.get!_some]
 repeat (first|simp only[go_sem]|simp (disch:=first|exact oa|fail) only[AX]|refine wki ?_|refine wqn ?_|refine vpd 1 [] ?_|refine vpd 2 [17,19,22,24,20,25] ?_|refine vf_of (by first|exact hnv|exact hnw) ?_)
 refine vf_of (ref1_MulL (by omega) (by omega)) ?_;repeat (first|simp only[go_sem]|simp (disch:=first|exact oa|fail) only[AX]|refine wki ?_|refine wqn ?_|refine vpd 1 [] ?_|refine vpd 2 [17,19,22,24,20,25] ?_)
 refine vf_of (ref1_MulL (by omega) (by omega)) ?_;repeat (first|simp only[go_sem]|simp (disch:=first|exact oa|fail) only[AX]|refine wki ?_|refine wqn ?_|refine vpd 1 [] ?_|refine vpd 2 [17,19,22,24,20,25] ?_)
 refine vf_of (hOf) ?_;repeat (first|simp only[go_sem]|simp (disch:=first|exact oa|fail) only[AX]|refine wki ?_|refine wqn ?_|refine vpd 1 [] ?_|refine vpd 2 [17,19,22,24,20,25] ?_)
theorem ref2_limbs (a b:List Nat) (ha:a.length<=274877906944) (hb:b.length<=274877906944):Go.Ev.Fn CX 14 [natV a,natV b] (.bool (decide (a=b))):=by
 refine fni Tryz.f14 ?_;unfold Tryz.f14;simp only[Option.get!_some]
 by_cases hl:a.length=b.length
 ·repeat (first|simp only[go_sem]|simp (disch:=first|exact oa|fail) only[AX]|refine wki ?_|refine wqn ?_|refine vpd 6 [] ?_)
  refine vp_loop_inv (fun s=>s.tmp 0 = .sv (natV a)/\s.tmp 1 = .sv (natV b) /\ ∃i:Nat,s.tmp 5 = .sv (.int .i64 i)/\i<=a.length/\a.take i=b.take i) (fun s=>match s.tmp 5 with | .sv (.int _ i)=>a.length-i.toNat|_=>0) ⟨rfl,rfl,0,rfl,by omega,rfl⟩ ?_
  rintro s ⟨i0,i1,i,i5,hi,ht⟩
  by_cases hend:i=a.length
  ·subst hend
   rw[List.take_length,hl,List.take_length]at ht
   rw[decide_eq_true ht]
   repeat (first|simp only[go_sem,i0,i1,i5]|simp (disch:=first|exact oa|fail) only[AX,i0,i1,i5]|refine wki ?_|refine wqn ?_|refine vpd 6 [] ?_)
  ·have e : ∀c:List Nat,i<c.length->c.take (i+1)=c.take i++[c.getD i 0]:=by
    intro c hc
    rw[List.take_add_one,List.getD_eq_getElem?_getD,List.getElem?_eq_getElem hc]
    rfl
   by_cases hx:a.getD i 0=b.getD i 0
   ·repeat (first|simp only[go_sem,i0,i1,i5]|simp (disch:=first|exact oa|fail) only[AX,i0,i1,i5]|refine wki ?_|refine wqn ?_|refine vpd 6 [] ?_)
    exact⟨⟨i+1,rfl,by omega,by rw[e a (by omega),e b (by omega),ht,hx]⟩,by omega⟩
   ·rw[decide_eq_false (fun h=>hx (by rw[h]))]
    repeat (first|simp only[go_sem,i0,i1,i5]|simp (disch:=first|exact oa|fail) only[AX,i0,i1,i5]|refine wki ?_|refine wqn ?_|refine vpd 6 [] ?_)
 ·rw[decide_eq_false (fun h=>hl (by rw[h]))]
  repeat (first|simp only[go_sem]|simp (disch:=first|exact oa|fail) only[AX]|refine wki ?_|refine wqn ?_|refine vpd 6 [] ?_)
theorem rv_eq {q r:Rat} (h1:decide (q.num<0)=decide (r.num<0)) (h2:lim q.num.natAbs=lim r.num.natAbs) (h3:lim q.den=lim r.den):q=r:=by
 have h4:=lim_inj h2
 have h5:=lim_inj h3
 refine Rat.ext ?_ h5
 by_cases h:q.num<0
 ·rw[decide_eq_true h]at h1
  have:=of_decide_eq_true h1.symm
  omega
 ·rw[decide_eq_false h]at h1
  have:=of_decide_eq_false h1.symm
  omega
theorem ref2_Same {v w:SV} {q r:Rat} {L M:Nat} (hv:RatA v q L) (hw:RatA w r M) (hL:1<=L) (hM:1<=M) (h:L+M<=8388608):Go.Ev.Fn CX 6 [v,w] (.bool (decide (q=r))):=by
 have hnv:=ref2_Norm hv (by omega)
 have hnw:=ref2_Norm hw (by omega)
 obtain⟨z1,z2⟩:=szR_of hv hL
 obtain⟨y1,y2⟩:=szR_of hw hM
 have l1:=ref2_limbs (lim q.num.natAbs) (lim r.num.natAbs) (by omega) (by omega)
 have l2:=ref2_limbs (lim q.den) (lim r.den) (by omega) (by omega)
 have hbb:=beq_bool (decide (q.num<0)) (decide (r.num<0))
 obtain⟨s,n,d,rfl,-⟩:=hv
 obtain⟨s',n',d',rfl,-⟩:=hw
 refine fni Tryz.f6 ?_;unfold Tryz.f6;simp only[Option.get!_some]
 repeat (first|simp only[go_sem,hbb]|simp (disch:=first|exact oa|fail) only[AX,hbb]|refine wki ?_|refine wqn ?_|refine vpd 1 [] ?_|refine vf_of (by first|exact hnv|exact hnw) ?_)
 by_cases h1:decide (q.num<0)=decide (r.num<0)
 ·rw[decide_eq_true h1]
  by_cases h2:lim q.num.natAbs=lim r.num.natAbs
  ·rw[decide_eq_true h2]at l1
   repeat (first|simp only[go_sem]|simp (disch:=first|exact oa|fail) only[AX]|refine wki ?_|refine wqn ?_|refine vpd 1 [] ?_)
   have e:decide (lim q.den=lim r.den)=decide (q=r):=by
    by_cases h3:lim q.den=lim r.den
    ·rw[decide_eq_true h3,decide_eq_true (rv_eq h1 h2 h3)]
    ·rw[decide_eq_false h3,decide_eq_false (fun e=>h3 (by rw[e]))]
   rw[e]at l2
   repeat (first|simp only[go_sem]|simp (disch:=first|exact oa|fail) only[AX]|refine wki ?_|refine wqn ?_|refine vpd 1 [] ?_|refine vf_of (by first|exact l1|exact l2) ?_)
  ·rw[decide_eq_false h2]at l1
   have hne:q≠r:=fun e=>h2 (by rw[e])
   rw[decide_eq_false hne]
   repeat (first|simp only[go_sem]|simp (disch:=first|exact oa|fail) only[AX]|refine wki ?_|refine wqn ?_|refine vpd 1 [] ?_|refine vf_of (by first|exact l1) ?_)
 ·have hne:q≠r:=fun e=>h1 (by rw[e])
  rw[decide_eq_false h1,decide_eq_false hne]
  repeat (first|simp only[go_sem]|simp (disch:=first|exact oa|fail) only[AX]|refine wki ?_|refine wqn ?_|refine vpd 1 [] ?_)
theorem ref2_Int (n:Int) (h : -9223372036854775808<=n/\n<9223372036854775808):Go.Ev.Fn CX 18 [.int .i64 n] (rv (n:Rat)):=by
 have oN:=ref1_Of n.natAbs (by omega)
 have e1:=int_u64 h
 have hl:=lim_two (v:=n.natAbs) |>.2 (by omega)
 have hOf:=ref2_OfL (s:=decide (n<0)) (n:=n.natAbs) (d:=1) (by omega) (by rw[lim_one];simp)
 rw[lim_one,sgn_self,show mkRat n 1=(n:Rat) from Rat.mkRat_one n]at hOf
 refine fni Tryz.f18 ?_;unfold Tryz.f18;simp only[Option.get!_some]
 by_cases h0:n<0
 ·rw[if_pos h0]at e1
  rw[decide_eq_true h0]at hOf
  have e2:IntKind.u64.wrap (0-((18446744073709551616-n.natAbs:Nat):Int))=(n.natAbs:Int):=by rw[IntKind.wrap_u64];omega
  repeat (first|simp only[go_sem,e1,e2]|simp (disch:=first|exact oa|fail) only[AX,e1,e2]|refine wki ?_|refine wqn ?_|refine vf_of (by first|exact oN|exact hOf) ?_)
 ·rw[if_neg h0]at e1
  rw[decide_eq_false h0]at hOf
  repeat (first|simp only[go_sem,e1]|simp (disch:=first|exact oa|fail) only[AX,e1]|refine wki ?_|refine wqn ?_|refine vf_of (by first|exact oN|exact hOf) ?_)
end Go.Proofs.YtheclpmgipiejaaGreatDoor
namespace Go.Proofs.YtheclpmgipiejaaGreatDoor
open Go.Ev
theorem szR_zero {L:Nat} (h:1<=L):szR 0 L:=⟨by rw[show (0:Rat).num.natAbs=0 by rfl,lim_zero];simp,by rw[show (0:Rat).den=1 by rfl,lim_one];exact h⟩
theorem szR_mul {q r:Rat} {L M:Nat} (h1:szR q L) (h2:szR r M) (hL:1<=L):szR (q*r) (L+M):=by
 rw[<- mul_parts]
 have g1:=lim_len_mul (a:=q.num.natAbs) (b:=r.num.natAbs)
 have g2:=lim_len_mul (a:=q.den) (b:=r.den)
 obtain⟨a1,a2⟩:=h1
 obtain⟨b1,b2⟩:=h2
 exact szR_mk (by omega) (by omega) (by omega)
theorem szR_add {q r:Rat} {L M:Nat} (h1:szR q L) (h2:szR r M) (hL:1<=L):szR (q+r) (L+M+1):=by
 have g1:=lim_len_mul (a:=q.num.natAbs) (b:=r.den)
 have g2:=lim_len_mul (a:=r.num.natAbs) (b:=q.den)
 have g3:=lim_len_mul (a:=q.den) (b:=r.den)
 obtain⟨a1,a2⟩:=h1
 obtain⟨b1,b2⟩:=h2
 have g4:=lim_len_add2 (a:=q.num.natAbs*r.den) (b:=r.num.natAbs*q.den) (L:=L+M) (by omega) (by omega)
 have e:q+r=mkRat (sgn (decide (sgn (decide (q.num<0)) (q.num.natAbs*r.den)+sgn (decide (r.num<0)) (r.num.natAbs*q.den)<0)) (sgn (decide (q.num<0)) (q.num.natAbs*r.den)+sgn (decide (r.num<0)) (r.num.natAbs*q.den)).natAbs) (q.den*r.den):=by
  rw[sgn_self];exact add_parts q r
 rw[e]
 refine szR_mk (Nat.le_trans (lim_len_mono ?_) g4) (by omega) (by omega)
 have:=Int.natAbs_add_le (sgn (decide (q.num<0)) (q.num.natAbs*r.den)) (sgn (decide (r.num<0)) (r.num.natAbs*q.den))
 rw[sgn_abs,sgn_abs]at this
 exact this
theorem szR_sub {q r:Rat} {L M:Nat} (h1:szR q L) (h2:szR r M) (hL:1<=L):szR (q-r) (L+M+1):=by
 rw[Rat.sub_eq_add_neg]
 exact szR_add h1 (szR_neg h2) hL
theorem szR_div {q r:Rat} {L M:Nat} (h1:szR q L) (h2:szR r M) (hL:1<=L) (hM:1<=M):szR (q/r) (L+M):=by
 by_cases hr:r=0
 ·rw[hr,Rat.div_def,Rat.inv_zero,Rat.mul_zero]
  exact szR_zero (by omega)
 ·rw[div_parts hr]
  exact szR_mul h1 (szR_mk h2.2 h2.1 hM) hL
theorem sgn_mul2 (s t:Bool) (a b:Nat):sgn s a*sgn t b=sgn (!(s==t)) (a*b):=by
 cases s<;>cases t<;>simp[sgn,Int.neg_mul,Int.mul_neg]
theorem quo_parts {q r:Rat} (hr:r≠0):mkRat (sgn (!(decide (q.num<0)==decide (r.num<0))) (q.num.natAbs*r.den)) (q.den*r.num.natAbs)=q/r:=by
 rw[div_parts hr,<- sgn_mul2,<- Rat.mkRat_mul_mkRat,sgn_self,Rat.mkRat_self]
theorem ref2_Div {v w:SV} {q r:Rat} {L M:Nat} (hv:RatA v q L) (hw:RatA w r M) (hL:1<=L) (hM:1<=M) (h:L+M<=8388608):Go.Ev.Fn CX 24 [v,w] (.tup [rv (q/r),.bool (decide (r≠0))]):=by
 have hnv:=ref2_Norm hv (by omega)
 have hnw:=ref2_Norm hw (by omega)
 obtain⟨z1,z2⟩:=szR_of hv hL
 obtain⟨y1,y2⟩:=szR_of hw hM
 have g1:=lim_len_mul (a:=q.num.natAbs) (b:=r.den)
 have g2:=lim_len_mul (a:=q.den) (b:=r.num.natAbs)
 obtain⟨s,n,d,rfl,-⟩:=hv
 obtain⟨s',n',d',rfl,-⟩:=hw
 have h0:=ref2_Norm (v:=ratV false [] []) (q:=0) (L:=1) ⟨_,_,_,rfl,okL_nil,okL_nil,by simp,by simp,by rw[wth_nil];exact(mk_zero false (.inl rfl)).symm⟩ (by omega)
 refine fni Tryz.f24 ?_;unfold Tryz.f24;simp only[Option.get!_some]
 repeat (first|simp only[go_sem]|simp (disch:=first|exact oa|fail) only[AX]|refine wki ?_|refine wqn ?_|refine vpd 1 [] ?_|refine vpd 4 [24,26,29,31,27,32] ?_|refine vf_of (by first|exact hnv|exact hnw) ?_)
 by_cases hr:r=0
 ·have hl:(lim r.num.natAbs).length=0:=by rw[num_zero.2 hr];simp[lim_zero]
  rw[show decide (r≠0)=false from decide_eq_false (fun e=>e hr),hr,Rat.div_def,Rat.inv_zero,Rat.mul_zero]
  subst hr
  repeat (first|simp only[go_sem]|simp (disch:=first|exact oa|fail) only[AX]|refine wki ?_|refine wqn ?_|refine vpd 1 [] ?_|refine vpd 4 [24,26,29,31,27,32] ?_|refine vf_of (by first|exact h0) ?_)
 ·have hl:=lim_pos (N:=r.num.natAbs) (fun e=>hr (num_zero.1 (by omega)))
  have hOf:=ref2_OfL (s := !(decide (q.num<0)==decide (r.num<0))) (n:=q.num.natAbs*r.den) (d:=q.den*r.num.natAbs) (by omega) (by omega)
  rw[quo_parts hr]at hOf
  rw[decide_eq_true hr]
  repeat (first|simp only[go_sem]|simp (disch:=first|exact oa|fail) only[AX]|refine wki ?_|refine wqn ?_|refine vpd 1 [] ?_|refine vpd 4 [24,26,29,31,27,32] ?_)
  refine vf_of (ref1_MulL (by omega) (by omega)) ?_;repeat (first|simp only[go_sem]|simp (disch:=first|exact oa|fail) only[AX]|refine wki ?_|refine wqn ?_|refine vpd 1 [] ?_|refine vpd 4 [24,26,29,31,27,32] ?_)
  refine vf_of (ref1_MulL (by omega) (by omega)) ?_;repeat (first|simp only[go_sem]|simp (disch:=first|exact oa|fail) only[AX]|refine wki ?_|refine wqn ?_|refine vpd 1 [] ?_|refine vpd 4 [24,26,29,31,27,32] ?_)
  refine vf_of (hOf) ?_;repeat (first|simp only[go_sem]|simp (disch:=first|exact oa|fail) only[AX]|refine wki ?_|refine wqn ?_|refine vpd 1 [] ?_|refine vpd 4 [24,26,29,31,27,32] ?_)
end Go.Proofs.YtheclpmgipiejaaGreatDoor
namespace Go.Proofs.YtheclpmgipiejaaGreatDoor
open Go.Ev
theorem int_szR {n:Int} (h : -9223372036854775808<=n/\n<=9223372036854775808):szR (n:Rat) 2:=by
 refine⟨?_,?_⟩
 ·show (lim n.natAbs).length<=2
  exact lim_two.2 (by omega)
 ·show (lim 1).length<=2
  rw[lim_one];simp
end Go.Proofs.YtheclpmgipiejaaGreatDoor
namespace Go.Proofs.YtheclpmgipiejaaGreatDoor
open Go.Ev
def sumR (l:List Rat):Rat:=l.foldl (fun a b=>a+b) 0
def meanR (l:List Rat):Rat:=sumR l/((l.length:Int):Rat)
def offR (l:List Rat):List Rat:=l.map fun x=>x-meanR l
def sqR (l:List Rat):Rat:=sumR ((offR l).map fun x=>x*x)
def varR (l:List Rat):Rat:=sqR l/(((l.length:Int)-1:Int):Rat)
theorem foldl_add (l:List Rat) (a:Rat):l.foldl (fun a b=>a+b) a=a+sumR l:=by
 unfold sumR
 induction l generalizing a with
 |nil=>simp only[List.foldl_nil];grind
 |cons x l ih=>simp only[List.foldl_cons];rw[ih (a+x),ih (0+x)];grind
theorem sumR_nil:sumR []=0:=rfl
theorem sumR_cons (x:Rat) (l:List Rat):sumR (x::l)=x+sumR l:=by
 show List.foldl _ (0+x) l=_
 rw[foldl_add];grind
theorem sumR_append (l m:List Rat):sumR (l++m)=sumR l+sumR m:=by
 unfold sumR;rw[List.foldl_append,foldl_add];rfl
theorem sumR_snoc (l:List Rat) (x:Rat):sumR (l++[x])=sumR l+x:=by
 rw[sumR_append,sumR_cons,sumR_nil];grind
theorem take_snoc (l:List Rat) {i:Nat} (h:i<l.length):l.take (i+1)=l.take i++[l.getD i 0]:=by
 rw[List.take_add_one,List.getD_eq_getElem?_getD,List.getElem?_eq_getElem h]
 rfl
theorem sumR_take (l:List Rat) {i:Nat} (h:i<l.length):sumR (l.take (i+1))=sumR (l.take i)+l.getD i 0:=by rw[take_snoc l h,sumR_snoc]
theorem getD_mem {l:List Rat} {i:Nat} (h:i<l.length):l.getD i 0∈l:=by
 rw[List.getD_eq_getElem?_getD,List.getElem?_eq_getElem h];exact List.getElem_mem h
theorem getD_map (l:List Rat) (f:Rat->Rat) {i:Nat} (h:i<l.length):(l.map f).getD i 0=f (l.getD i 0):=by
 rw[List.getD_eq_getElem?_getD,List.getD_eq_getElem?_getD,List.getElem?_map,List.getElem?_eq_getElem h];rfl
theorem sz_sum {L:Nat} (hL:1<=L) : ∀l:List Rat,(∀x∈l,szR x L)->szR (sumR l) ((L+1)*l.length+1):=by
 intro l
 induction l with
 |nil=>intro _;exact szR_zero (by omega)
 |cons x l ih=>
  intro h
  rw[sumR_cons]
  have h1:=ih fun y hy=>h y (List.mem_cons_of_mem _ hy)
  exact szR_mono (szR_add (h x List.mem_cons_self) h1 hL) (by rw[List.length_cons,Nat.mul_succ];omega)
theorem sz_sum12 {L:Nat} {l:List Rat} (hL:1<=L) (h : ∀x∈l,szR x L) (hl:l.length<=12):szR (sumR l) (12*L+13):=
 szR_mono (sz_sum hL l h) (by have:=Nat.mul_le_mul_left (L+1) hl;omega)
theorem sz_take12 {L:Nat} {l:List Rat} (hL:1<=L) (h : ∀x∈l,szR x L) (hl:l.length<=12) (i:Nat):szR (sumR (l.take i)) (12*L+13):=
 sz_sum12 hL (fun x hx=>h x (List.mem_of_mem_take hx)) (by rw[List.length_take];omega)
theorem sz_mean {L:Nat} {l:List Rat} (hL:1<=L) (h : ∀x∈l,szR x L) (hl:l.length<=12):szR (meanR l) (12*L+15):=
 szR_div (M:=2) (sz_sum12 hL h hl) (int_szR (by omega)) (by omega) (by omega)
theorem sz_off {L:Nat} {l:List Rat} (hL:1<=L) (h : ∀x∈l,szR x L) (hl:l.length<=12) : ∀x∈offR l,szR x (13*L+16):=by
 intro x hx
 obtain⟨y,hy,rfl⟩:=List.mem_map.1 hx
 exact szR_mono (szR_sub (h y hy) (sz_mean hL h hl) hL) (by omega)
theorem sz_map {L M:Nat} {l:List Rat} {f:Rat->Rat} (h : ∀x∈l,szR x L) (hf : ∀x,szR x L->szR (f x) M) : ∀x∈l.map f,szR x M:=by
 intro x hx
 obtain⟨y,hy,rfl⟩:=List.mem_map.1 hx
 exact hf y (h y hy)
theorem sz_sq {L:Nat} {l:List Rat} (hL:1<=L) (h : ∀x∈l,szR x L) (hl:l.length<=12):szR (sqR l) (312*L+397):=by
 have h1:=sz_map (f:=fun x=>x*x) (sz_off hL h hl) (fun x hx=>szR_mul hx hx (by omega))
 exact szR_mono (sz_sum12 (by omega) h1 (by rw[List.length_map];unfold offR;rw[List.length_map];exact hl)) (by omega)
def RowC:List SV->List Rat->Nat->Prop
 |cs,[],_=>cs=[]
 |cs,q::l,L => ∃s n d rest,cs = .bool s::natV n::natV d::rest/\RatA (ratV s n d) q L/\RowC rest l L
theorem row_len {L:Nat} : ∀ {l:List Rat} {cs:List SV},RowC cs l L->cs.length=l.length*3
 | [],_,h=>by cases h;rfl
 |q::l,cs,h=>by
  obtain⟨s,n,d,rest,rfl,-,h2⟩:=h
  have:=row_len h2
  simp only[List.length_cons]
  omega
theorem row_at {L:Nat} : ∀ {l:List Rat} {cs:List SV} {i:Nat},RowC cs l L->i<l.length -> ∃s n d rest,cs.drop (i*3) = .bool s::natV n::natV d::rest/\RatA (ratV s n d) (l.getD i 0) L
 | [],_,_,_,hi=>by simp at hi
 |q::l,cs,0,h,_=>by
  obtain⟨s,n,d,rest,rfl,h1,h2⟩:=h
  exact⟨s,n,d,rest,rfl,h1⟩
 |q::l,cs,i+1,h,hi=>by
  obtain⟨s,n,d,rest,rfl,h1,h2⟩:=h
  obtain⟨s',n',d',r',h3,h4⟩:=row_at (i:=i) h2 (by simpa using hi)
  refine⟨s',n',d',r',?_,h4⟩
  have e : ∀k,(SV.bool s::natV n::natV d::rest).drop (k+3)=rest.drop k:=fun _=>rfl
  rw[show (i+1)*3=i*3+3 by omega,e,h3]
theorem row_sz {L:Nat} (hL:1<=L) : ∀ {l:List Rat} {cs:List SV},RowC cs l L -> ∀x∈l,szR x L
 | [],_,_,x,hx=>by cases hx
 |q::l,cs,h,x,hx=>by
  obtain⟨s,n,d,rest,rfl,h1,h2⟩:=h
  rcases List.mem_cons.1 hx with rfl|hx
  ·exact szR_of h1 hL
  ·exact row_sz hL h2 x hx
def rvC (q:Rat):List SV:=[.bool (decide (q.num<0)),natV (lim q.num.natAbs),natV (lim q.den)]
def rvsC (l:List Rat):List SV:=l.flatMap rvC
theorem rvsC_nil:rvsC []=[]:=rfl
theorem rvsC_snoc (l:List Rat) (q:Rat):rvsC (l++[q])=rvsC l++rvC q:=by
 unfold rvsC;rw[List.flatMap_append];simp
theorem rvsC_len (l:List Rat):(rvsC l).length=l.length*3:=by
 induction l with
 |nil=>rfl
 |cons x l ih=>show (rvC x++rvsC l).length=_;rw[List.length_append,ih,List.length_cons];show 3+_=_;omega
theorem rvsC_row {L:Nat} : ∀l:List Rat,(∀x∈l,szR x L)->RowC (rvsC l) l L
 | [],_=>rfl
 |q::l,h=>⟨_,_,_,_,rfl,RatA_rv (h q List.mem_cons_self),rvsC_row l fun x hx=>h x (List.mem_cons_of_mem _ hx)⟩
theorem rvsC_at {l:List Rat} {i:Nat} (h:i<l.length) : ∃rest,(rvsC l).drop (i*3) = .bool (decide ((l.getD i 0).num<0))::natV (lim (l.getD i 0).num.natAbs)::natV (lim (l.getD i 0).den)::rest:=by
 induction l generalizing i with
 |nil=>simp at h
 |cons x l ih=>
  cases i with
  |zero=>exact⟨_,rfl⟩
  |succ i=>
   obtain⟨r,this⟩:=ih (i:=i) (by simpa using h)
   have e : ∀k,(rvC x++rvsC l).drop (k+3)=(rvsC l).drop k:=fun _=>rfl
   refine⟨r,?_⟩
   show (rvC x++rvsC l).drop _=_
   rw[show (i+1)*3=i*3+3 by omega,e,this]
   rfl
end Go.Proofs.YtheclpmgipiejaaGreatDoor
namespace Go.Proofs.YtheclpmgipiejaaGreatDoor
open Go.Ev Go.RowKit Go.WideShapes
abbrev InR:=Bool×List Nat×List Nat
def InR.cells (p:InR):List SV:=[.bool p.1,natV p.2.1,natV p.2.2]
def InR.q (p:InR):Rat:=mkRat (sgn p.1 (wth p.2.1)) (wth p.2.2)
def InR.ok (p:InR):Prop:=okL p.2.1/\okL p.2.2
theorem open_slice {H:Type} {enc:TypeId×Value->H} {P:Program} {w:World} {sp:Nat->Bool} {held:Bool} {r:Reach} {b0:Nat} {m:Nat} {t e:TypeId} {v:Value} {d:DataW H} {ps:List MemPlace} (hp:plainT P m t=true) (hu:P.underlying t=some (.slice e))
  (hok:Value.okWide P w r b0 t v) (hd:DataW.Trod enc P w 0 sp held t v d ps) : ∃s,Rep w (fun _=>False) v s/\ShpT P m t [s]:=by
 obtain⟨a,len,cap,rfl⟩:=okWide_slice hu hok
 obtain⟨n,hn⟩:=hd
 obtain⟨ss,⟨hl,hr⟩,hs⟩:=trod_reads hp hn
 have hl1:ss.length=1:=by rw[hl];simp[Value.cells]
 match ss,hl1 with
 | [s],_=>
  refine⟨s,?_,hs⟩
  have:=hr 0 s rfl
  simpa[Value.cells,Array.getD_eq_getD_getElem?,List.getD_eq_getElem?_getD]using this
end Go.Proofs.YtheclpmgipiejaaGreatDoor
namespace Go.Proofs.YtheclpmgipiejaaGreatDoor
open Go.Ev
theorem split_cons (c:UInt8) (l:List UInt8) : ∃x xs,splitB c l=x::xs:=by
 cases h:splitB c l with
 |nil=>have:=split_len c l;rw[h]at this;simp at this
 |cons x xs=>exact⟨x,xs,rfl⟩
theorem plain_split : ∀ (l:List UInt8) (x:List UInt8) (xs:List (List UInt8)),splitB 10 l=x::xs ->
  plainL false l=frontL 35 x++Lib.joinTail [10] (xs.map (frontL 35))/\plainL true l=Lib.joinTail [10] (xs.map (frontL 35)):=by
 intro l
 induction l with
 |nil=>
  intro x xs h
  simp[splitB]at h
  obtain⟨rfl,rfl⟩:=h
  exact⟨rfl,rfl⟩
 |cons b l ih=>
  intro x xs h
  obtain⟨y,ys,hy⟩:=split_cons 10 l
  obtain⟨h1,h2⟩:=ih y ys hy
  by_cases hb:b=10
  ·subst hb
   rw[splitB]at h
   simp only[BEq.rfl,if_true]at h
   injection h with e1 e2
   subst e1
   rw[<- e2,hy,plainL,plainL]
   simp only[BEq.rfl,if_true]
   rw[h1]
   unfold Lib.joinTail
   simp[frontL]
  ·have hb':(b==10)=false:=by simpa using hb
   rw[splitB,hb',hy]at h
   simp only[Bool.false_eq_true,if_false]at h
   injection h with e1 e2
   subst e1 e2
   rw[plainL,plainL,hb']
   simp only[Bool.false_eq_true,if_false,Bool.false_or,Bool.true_or,if_true]
   refine⟨?_,h2⟩
   by_cases hc:b=35
   ·subst hc
    simp only[BEq.rfl,if_true]
    rw[h2]
    simp[frontL]
   ·have hc':(b==35)=false:=by simpa using hc
    have hn:(b != 35)=true:=by simpa using hc
    rw[hc']
    simp only[Bool.false_eq_true,if_false]
    rw[h1,show frontL 35 (b::y)=b::frontL 35 y by unfold frontL;rw[List.takeWhile_cons,hn];rfl]
    rfl
theorem plain_join (l:List UInt8):Lib.join ((splitB 10 l).map (frontL 35)) [10]=plainL false l:=by
 obtain⟨x,xs,h⟩:=split_cons 10 l
 rw[(plain_split l x xs h).1,h,List.map_cons,Lib.join_cons]
theorem plain_len (l:List UInt8) : ∀off,(plainL off l).length<=l.length:=by
 induction l with
 |nil=>intro off;cases off<;>simp[plainL]
 |cons b l ih=>
  intro off
  have h1:=ih false
  have h2:=ih true
  rw[plainL]
  split
  ·simpa using h1
  ·split
   ·simp;omega
   ·simpa using h1
theorem x_join {xs:List (List UInt8)} {n:Nat} (sep:List UInt8) (hn:xs.length=n) (h1:n<=140737488355328) (h2:(Lib.join xs sep).length<=140737488355328) :
  Go.Ev.Fn CX 65 [.sl n (xs.map strC),.str (bs sep)] (.str (bs (Lib.join xs sep))):=by
 refine⟨1,List.replicate 2 none,?_⟩
 have e : ∀ys:List (List UInt8),strsOf (ys.map strC)=some ys:=by
  intro ys
  induction ys with
  |nil=>rfl
  |cons y ys ih=>
   rw[List.map_cons]
   show (match strsOf (ys.map strC) with|some l=>some ((bs y).data.toList::l)|none=>none)=_
   rw[ih,bs_toList]
 have h:xJoin [.sv (.sl n (xs.map strC)),.sv (.str (bs sep))]=some (.sv (.str (bs (Lib.join xs sep))),List.replicate 2 none):=by
  unfold xJoin
  simp only[e,bs_toList]
  rw[if_pos ⟨hn,h1,h2⟩]
 have h4:CX.X 65 ([SV.sl n (xs.map strC),.str (bs sep)].map Arg.sv)=some (.sv (.str (bs (Lib.join xs sep))),List.replicate 2 none):=h
 unfold callN
 rw[stq_sv,h4]
theorem str_Split (l:List UInt8) (c:UInt8) (hl:l.length<=1048576) :
  FnR CX 276 [.str (bs l),.str (bs [c])] ((splitB c l).map strC) 1 0 (splitB c l).length:=by
 refine⟨1,List.replicate 2 none,?_⟩
 have h:xSplit [.sv (.str (bs l)),.sv (.str (bs [c]))]=some (.row ((splitB c l).map strC) 1 0 (splitB c l).length,List.replicate 2 none):=by
  unfold xSplit
  simp only[bs_toList]
  rw[if_pos (by rw[bs_size];exact hl)]
 have h4:CX.X 276 ([SV.str (bs l),.str (bs [c])].map Arg.sv)=some (.row ((splitB c l).map strC) 1 0 (splitB c l).length,List.replicate 2 none):=h
 unfold callN
 rw[stq_sv,h4]
theorem data_plain (l:List UInt8) (hl:l.length<=1048576):Go.Ev.Fn CX 204 [.str (bs l)] (.str (bs (plainL false l))):=by
 have hsp:=str_Split l 10 hl
 have hlen:=split_len 10 l
 have hcl:=count_le (c:=10) (l:=l)
 have hj:=x_join (xs:=(splitB 10 l).map (frontL 35)) (n:=(splitB 10 l).length) [10] (by rw[List.length_map]) (by omega) (by rw[plain_join];have:=plain_len l false;omega)
 rw[plain_join]at hj
 have hlin : ∀x∈splitB 10 l,x.length<=1099511627776:=by
  have key : ∀ (l:List UInt8),∀x∈splitB 10 l,x.length<=l.length:=by
   intro l
   induction l with
   |nil=>intro x hx;simp[splitB]at hx;subst hx;simp
   |cons b l ih=>
    intro x hx
    obtain⟨y,ys,hy⟩:=split_cons 10 l
    rw[splitB,hy]at hx
    split at hx
    ·rcases List.mem_cons.1 hx with h|h
     ·subst h;simp
     ·have:=ih x (by rw[hy];exact h)
      simp;omega
    ·rcases List.mem_cons.1 hx with h|h
     ·subst h
      have:=ih y (by rw[hy];exact List.mem_cons_self)
      simp;omega
     ·have:=ih x (by rw[hy];exact List.mem_cons_of_mem _ h)
      simp;omega
  intro x hx
  have:=key l x hx
  omega
 generalize hL:splitB 10 l=L at *
 generalize hn:L.length=n at *
 refine fni Tryz.f204 ?_;unfold Tryz.f204;simp only[Option.get!_some]
 repeat (first|simp only[go_sem,mk_bs]|simp (disch:=first|exact oa|fail) only[AX,mk_bs]|refine wki ?_|refine wqn ?_)
 refine vf_row hsp ?_
 repeat (first|simp only[go_sem]|simp (disch:=first|exact oa|fail) only[AX]|refine wki ?_|refine wqn ?_)
 refine vp_loop_inv (fun s=>s.tmp 3 = .ref 7 0 1 0 n/\s.tmp 8 = .ref 7 0 1 0 n/\s.tmp 9 = .sv (.int .i64 (n:Int)) /\
   ∃ (i:Nat) (cs:List SV),s.tmp 10 = .sv (.int .i64 (i:Int))/\s.obj 7 0=some cs/\i<=n/\cs.length=n/\cs.take i=((L.map (frontL 35)).take i).map strC/\cs.drop i=(L.drop i).map strC)
  (fun s=>match s.tmp 10 with | .sv (.int _ i)=>n-i.toNat|_=>0) ?_ ?_
 ·exact⟨rfl,rfl,rfl,0,_,rfl,rfl,by omega,by rw[List.length_map];exact hn,rfl,rfl⟩
 rintro s2 ⟨i3,i8,i9,i,cs,i10,iO,hi,hcs,ht,hd⟩
 by_cases hend:i=n
 ·subst hend
  have e:cs=(L.map (frontL 35)).map strC:=by
   rw[List.take_of_length_le (by omega),List.take_of_length_le (by rw[List.length_map];omega)]at ht
   exact ht
  have e2:cs.take i=(L.map (frontL 35)).map strC:=by rw[<- e,List.take_of_length_le (by omega)]
  repeat (first|simp only[go_sem,i3,i8,i9,i10,iO,mk_bs,e2]|simp (disch:=first|exact oa|fail) only[AX,i3,i8,i9,i10,iO,mk_bs,e2]|refine wki ?_|refine wqn ?_|refine vf_of (by first|exact hj) ?_)
 ·have hlt:i<L.length:=by omega
  have hx:=str_Cut CX_str L[i] 35 (hlin _ (List.getElem_mem hlt))
  have hh:(cs.drop i).head?=some (.str (bs L[i])):=by
   rw[hd,List.drop_eq_getElem_cons hlt]
   rfl
  have hn2:cs.take i++[SV.str (bs (frontL 35 L[i]))]++cs.drop (i+1)=cs.set i (.str (bs (frontL 35 L[i]))):=by
   rw[List.set_eq_take_append_cons_drop,if_pos (by omega)]
   simp
  repeat (first|simp only[go_sem,i3,i8,i9,i10,iO,mk_bs,hh,hcs,hn2]|simp (disch:=first|exact oa|fail) only[AX,i3,i8,i9,i10,iO,mk_bs,hh,hcs,hn2]|refine wki ?_|refine wqn ?_|refine vf_of (by first|exact hx) ?_)
  refine⟨⟨i+1,cs.set i (.str (bs (frontL 35 L[i]))),rfl,rfl,by omega,by rw[List.length_set];exact hcs,?_,?_⟩,by omega⟩
  ·rw[List.take_add_one,List.take_add_one,List.map_append,List.take_set_of_le (Nat.le_refl _),ht,List.getElem?_set_self (by omega),List.getElem?_map,List.getElem?_eq_getElem hlt]
   rfl
  ·have:=congrArg (List.drop 1) hd
   rw[List.drop_drop,<- List.map_drop,List.drop_drop]at this
   rw[List.drop_set_of_lt (by omega)]
   exact this
end Go.Proofs.YtheclpmgipiejaaGreatDoor
namespace Go.Proofs.YtheclpmgipiejaaGreatDoor
open Go.Ev
def D10:List UInt8:=[48,49,50,51,52,53,54,55,56,57]
theorem D10_dig (b:UInt8):D10.contains b=dig b:=by
 have key : ∀n:Nat,n<256->D10.contains (UInt8.ofNat n)=dig (UInt8.ofNat n):=by decide
 have:=key b.toNat b.toNat_lt
 rwa [UInt8.ofNat_toNat]at this
theorem drop_nil {p:UInt8->Bool} {l:List UInt8}:l.dropWhile p=[]↔l.all p=true:=by
 induction l with
 |nil=>simp
 |cons b l ih=>
  rw[List.dropWhile_cons,List.all_cons]
  cases p b<;>simp[ih]
theorem trim_digs (l:List UInt8):(Lib.trimS l D10==[])=digs l:=by
 have e:(fun b=>D10.contains b)=dig:=funext D10_dig
 have h1:Lib.trimS l D10=(l.reverse.dropWhile dig).reverse.dropWhile dig:=by
  unfold Lib.trimS Lib.trimLeftS Lib.trimRightS
  rw[e]
 rw[h1]
 unfold digs
 cases hl:l.all dig with
 |true=>
  have:l.reverse.dropWhile dig=[]:=drop_nil.2 (by rw[List.all_reverse];exact hl)
  rw[this]
  rfl
 |false=>
  have h2:l.reverse.dropWhile dig≠[]:=fun h=>by
   have:=drop_nil.1 h
   rw[List.all_reverse,hl]at this
   cases this
  have h3:((l.reverse.dropWhile dig).reverse.dropWhile dig)≠[]:=fun h=>by
   have h4:=drop_nil.1 h
   rw[List.all_reverse]at h4
   cases hd:l.reverse.dropWhile dig with
   |nil=>exact h2 hd
   |cons b r=>
    have h5:=List.head_dropWhile_not dig (w:=h2)
    rw[hd]at h4
    rw[List.all_cons,Bool.and_eq_true]at h4
    simp only[hd,List.head_cons]at h5
    rw[h4.1]at h5
    cases h5
  cases h:((l.reverse.dropWhile dig).reverse.dropWhile dig) with
  |nil=>exact absurd h h3
  |cons b r=>rfl
theorem x_trim (l:List UInt8) (cs:List UInt8) (h:l.length<=9223372036854775807) (h1:cs.length<4294967281) (h2:cs.all (fun b=>decide (b.toNat<128))=true) :
  Go.Ev.Fn CX 36 [.str (bs l),.str (bs cs)] (.str (bs (Lib.trimS l cs))):=by
 refine⟨1,List.replicate 2 none,?_⟩
 have h3:xTrim [.sv (.str (bs l)),.sv (.str (bs cs))]=some (.sv (.str (bs (Lib.trimS l cs))),List.replicate 2 none):=by
  unfold xTrim
  simp only[bs_toList,bs_size]
  rw[if_pos ⟨h,h1,h2⟩]
 have h4:CX.X 36 ([SV.str (bs l),.str (bs cs)].map Arg.sv)=some (.sv (.str (bs (Lib.trimS l cs))),List.replicate 2 none):=h3
 unfold callN
 rw[stq_sv,h4]
theorem x_trimLeft (l:List UInt8) (cs:List UInt8) (h1:cs.length<4294967281) (h2:cs.all (fun b=>decide (b.toNat<128))=true) :
  Go.Ev.Fn CX 91 [.str (bs l),.str (bs cs)] (.str (bs (Lib.trimLeftS l cs))):=by
 refine⟨1,List.replicate 2 none,?_⟩
 have h3:xTrimLeft [.sv (.str (bs l)),.sv (.str (bs cs))]=some (.sv (.str (bs (Lib.trimLeftS l cs))),List.replicate 2 none):=by
  unfold xTrimLeft
  simp only[bs_toList,bs_size]
  rw[if_pos ⟨h1,h2⟩]
 have h4:CX.X 91 ([SV.str (bs l),.str (bs cs)].map Arg.sv)=some (.sv (.str (bs (Lib.trimLeftS l cs))),List.replicate 2 none):=h3
 unfold callN
 rw[stq_sv,h4]
theorem natD_lt : ∀ {l:List UInt8},digs l=true->natD l<10^l.length:=by
 intro l h
 have:=natLE_lt (l:=l.reverse) (by unfold digs;rw[List.all_reverse];exact h)
 rw[<- natD_rev,List.reverse_reverse,List.length_reverse]at this
 exact this
theorem lim_small {n k:Nat} (h:n<4294967296^k):(lim n).length<=k:=by
 rcases Nat.eq_zero_or_pos (lim n).length with h0|h0
 ·omega
 ·have hne:lim n≠[]:=fun e=>by rw[e]at h0;exact absurd h0 (by simp)
  have h1:=trimL_pos (trimL_lim n) hne
  rw[wth_lim]at h1
  have h2:4294967296^((lim n).length-1)<4294967296^k:=Nat.lt_of_le_of_lt h1 h
  have h3:=(Nat.pow_lt_pow_iff_right (a:=4294967296) (by omega)).1 h2
  omega
theorem lim_ten {n k:Nat} (h:n<10^k):(lim n).length<=k:=by
 refine lim_small (Nat.lt_of_lt_of_le h (Nat.pow_le_pow_left (by omega) k))
theorem lim_ten' {n k:Nat} (h:n<10^k):(lim (n*10)).length<=k+1:=lim_ten (by rw[Nat.pow_succ];omega)
theorem natV_ten:natV (lim 10)=SV.sl 1 [.int .u32 10]:=rfl
theorem natV_zero:natV (lim 0)=SV.sl 0 []:=rfl
def parseV (l:List UInt8):SV:=match natP l with
 |some n => .tup [natV (lim n),.bool true]
 |none => .tup [.sl 0 [],.bool false]
theorem parseV_ok {l:List UInt8} (h0:l≠[]) (h1:l.length<=400) (h2:digs l=true):parseV l = .tup [natV (lim (natD l)),.bool true]:=by
 unfold parseV natP
 rw[if_neg (by simp[h0,h2];exact h1)]
theorem parseV_bad {l:List UInt8} (h:l=[]\/400<l.length\/digs l=false):parseV l = .tup [.sl 0 [],.bool false]:=by
 unfold parseV natP
 rw[if_pos h]
theorem nat_Parse (l:List UInt8) (hl:l.length<=1048576):Go.Ev.Fn CX 88 [.str (bs l)] (parseV l):=by
 have ht:=x_trim l D10 (by omega) (by decide) (by decide)
 unfold D10 at ht
 have htd:=trim_digs l
 unfold D10 at htd
 by_cases h0:l=[]
 ·rw[parseV_bad (.inl h0)]
  subst h0
  refine fni Tryz.f88 ?_;unfold Tryz.f88;simp only[Option.get!_some]
  repeat (first|simp only[go_sem,bs_list,mk_bs,nil_beq]|simp (disch:=first|exact oa|fail) only[AX,bs_list,mk_bs,nil_beq]|refine wki ?_|refine wqn ?_|refine vpd 7 [4,24,25,31] ?_)
 have hb:(l==[])=false:=by simpa using h0
 by_cases h1:400<l.length
 ·rw[parseV_bad (.inr (.inl h1))]
  refine fni Tryz.f88 ?_;unfold Tryz.f88;simp only[Option.get!_some]
  repeat (first|simp only[go_sem,bs_list,mk_bs,hb,bs_size]|simp (disch:=first|exact oa|fail) only[AX,bs_list,mk_bs,hb,bs_size]|refine wki ?_|refine wqn ?_|refine vpd 7 [4,24,25,31] ?_)
 cases h2:digs l with
 |false=>
  rw[h2]at htd
  rw[parseV_bad (.inr (.inr h2))]
  refine fni Tryz.f88 ?_;unfold Tryz.f88;simp only[Option.get!_some]
  repeat (first|simp only[go_sem,bs_list,mk_bs,hb,bs_size,htd,Bool.not_false]|simp (disch:=first|exact oa|fail) only[AX,bs_list,mk_bs,hb,bs_size,htd,Bool.not_false]|refine wki ?_|refine wqn ?_|refine vpd 7 [4,24,25,31] ?_|refine vf_of (by first|exact ht) ?_)
 |true=>
  rw[h2]at htd
  rw[parseV_ok h0 (by omega) h2]
  refine fni Tryz.f88 ?_;unfold Tryz.f88;simp only[Option.get!_some]
  repeat (first|simp only[go_sem,bs_list,mk_bs,hb,bs_size,htd,Bool.not_true]|simp (disch:=first|exact oa|fail) only[AX,bs_list,mk_bs,hb,bs_size,htd,Bool.not_true]|refine wki ?_|refine wqn ?_|refine vpd 7 [4,24,25,31] ?_|refine vf_of (by first|exact ht) ?_)
  refine vp_loop_inv (fun s=>s.tmp 0 = .sv (.str (bs l))/\s.tmp 19 = .sv (.int .i64 (l.length:Int)) /\
    ∃i:Nat,s.tmp 20 = .sv (.int .i64 (i:Int))/\i<=l.length/\((i=0/\s.tmp 4 = .nil/\s.tmp 24 = .undef/\s.tmp 25 = .undef/\s.tmp 31 = .undef)\/(s.tmp 4 = .sv (natV (lim (natD (l.take i)))) /\ ∃x y z,s.tmp 24 = .sv x/\s.tmp 25 = .sv y/\s.tmp 31 = .sv z)))
   (fun s=>match s.tmp 20 with | .sv (.int _ i)=>l.length-i.toNat|_=>0) ⟨rfl,rfl,0,rfl,by omega,.inl ⟨rfl,rfl,rfl,rfl,rfl⟩⟩ ?_
  rintro s2 ⟨i0,i19,i,i20,hi,hc⟩
  by_cases hend:i=l.length
  ·subst hend
   rcases hc with⟨h00,_⟩|⟨i4,_⟩
   ·exact absurd (List.eq_nil_of_length_eq_zero h00) h0
   ·rw[List.take_of_length_le (by omega)]at i4
    repeat (first|simp only[go_sem,i0,i19,i20,i4]|simp (disch:=first|exact oa|fail) only[AX,i0,i19,i20,i4]|refine wki ?_|refine wqn ?_|refine vpd 7 [4,24,25,31] ?_)
  ·have hlt:i<l.length:=by omega
   have hd:dig l[i]=true:=List.all_eq_true.1 h2 _ (List.getElem_mem hlt)
   unfold dig at hd
   simp only[Bool.and_eq_true,decide_eq_true_eq]at hd
   have hg:l[i]?=some l[i]:=List.getElem?_eq_getElem hlt
   have hsnoc:natD (l.take (i+1))=natD (l.take i)*10+(l[i].toNat-48):=by
    rw[List.take_add_one,hg]
    exact natD_snoc _ _
   have hs1:(lim (natD (l.take i))).length<=400:=by
    have:=lim_ten (natD_lt (l:=l.take i) (by unfold digs;exact List.all_eq_true.2 fun x hx=>List.all_eq_true.1 h2 x (List.mem_of_mem_take hx)))
    rw[List.length_take]at this
    omega
   have hs2:(lim (natD (l.take i)*10)).length<=401:=by
    have h3:=lim_ten' (natD_lt (l:=l.take i) (by unfold digs;exact List.all_eq_true.2 fun x hx=>List.all_eq_true.1 h2 x (List.mem_of_mem_take hx)))
    rw[List.length_take]at h3
    omega
   have hs3:(lim (l[i].toNat-48)).length<=2:=lim_ten (by omega)
   have m:=nat_MulL (N:=natD (l.take i)) (D:=10) (by omega) (by decide)
   rw[natV_ten]at m
   have o:=nat_Of (l[i].toNat-48) (by omega)
   have a:=nat_AddL (N:=natD (l.take i)*10) (D:=l[i].toNat-48) (by omega) (by omega)
   rw[<- hsnoc]at a
   generalize l[i]=b at *
   have e1:((b.toNat:Int)-48)=((b.toNat-48:Nat):Int):=by omega
   have e2:IntKind.u8.wrap ((b.toNat-48:Nat):Int)=((b.toNat-48:Nat):Int):=wU8 (by omega)
   have e3:IntKind.u64.wrap ((b.toNat-48:Nat):Int)=((b.toNat-48:Nat):Int):=wU64 (by omega)
   clear hs1 hs2 hs3 hsnoc
   rcases hc with⟨h00,i4,i24,i25,i31⟩|⟨i4,x,y,z,i24,i25,i31⟩
   ·subst h00
    rw[List.take_zero,natD_nil,natV_zero]at m
    rw[List.take_zero,natD_nil]at a
    repeat (first|simp only[go_sem,i0,i19,i20,i4,i24,i25,i31,vo_ix,idxB_bs,hg,e1,e2,e3]|simp (disch:=first|exact oa|fail) only[AX,i0,i19,i20,i4,i24,i25,i31,vo_ix,idxB_bs,hg,e1,e2,e3]|refine wki ?_|refine wqn ?_|refine vpd 7 [4,24,25,31] ?_|refine vf_of (by first|exact m|exact o|exact a) ?_)
    exact⟨⟨1,rfl,by omega,.inr ⟨rfl,_,_,_,rfl,rfl,rfl⟩⟩,by omega⟩
   ·repeat (first|simp only[go_sem,i0,i19,i20,i4,i24,i25,i31,vo_ix,idxB_bs,hg,e1,e2,e3]|simp (disch:=first|exact oa|fail) only[AX,i0,i19,i20,i4,i24,i25,i31,vo_ix,idxB_bs,hg,e1,e2,e3]|refine wki ?_|refine wqn ?_|refine vpd 7 [4,24,25,31] ?_)
    repeat (first|simp only[go_sem,i0,i19,i20,i4,i24,i25,i31,vo_ix,idxB_bs,hg,e1,e2,e3]|simp (disch:=first|exact oa|fail) only[AX,i0,i19,i20,i4,i24,i25,i31,vo_ix,idxB_bs,hg,e1,e2,e3]|refine wki ?_|refine wqn ?_|refine vpd 7 [4,24,25,31] ?_|refine vf_of (by first|exact m|exact o|exact a) ?_)
    exact⟨⟨i+1,rfl,by omega,.inr ⟨rfl,_,_,_,rfl,rfl,rfl⟩⟩,by omega⟩
end Go.Proofs.YtheclpmgipiejaaGreatDoor
namespace Go.Proofs.YtheclpmgipiejaaGreatDoor
open Go.Ev
theorem lite_HasPrefix (l:List UInt8) (c:UInt8):Go.Ev.Fn CX 125 [.str (bs l),.str (bs [c])] (.bool (l.head?==some c)):=by
 refine fni Tryz.f125 ?_;unfold Tryz.f125;simp only[Option.get!_some]
 cases l with
 |nil=>
  repeat (first|simp only[go_sem,bs_size]|simp (disch:=first|exact oa|fail) only[AX,bs_size]|refine wki ?_|refine wqn ?_)
  rfl
 |cons b l=>
  have e:([b]==[c])=(b==c):=by simp
  have e2:((b::l).head?==some c)=(b==c):=by simp
  rw[e2]
  repeat (first|simp only[go_sem,bs_size,bs_extract,bs_list,Nat.sub_zero,e]|simp (disch:=first|exact oa|fail) only[AX,bs_size,bs_extract,bs_list,Nat.sub_zero,e]|refine wki ?_|refine wqn ?_)
theorem lite_CutPrefix (l:List UInt8) (c:UInt8):Go.Ev.Fn CX 136 [.str (bs l),.str (bs [c])] (.tup [.str (bs (if l.head?==some c then l.tail else l)),.bool (l.head?==some c)]):=by
 have h:=lite_HasPrefix l c
 refine fni Tryz.f136 ?_;unfold Tryz.f136;simp only[Option.get!_some]
 cases hc:l.head?==some c with
 |false=>
  rw[hc]at h
  simp only[go_sem]
  refine vf_of (h) ?_;simp only[go_sem,Bool.not_false]
 |true=>
  rw[hc]at h
  cases l with
  |nil=>cases hc
  |cons b l=>
   have e:List.take (l.length+1-1) l=l:=List.take_of_length_le (by omega)
   repeat (first|simp only[go_sem,bs_size,Bool.not_true,bs_extract,List.tail_cons,e]|simp (disch:=first|exact oa|fail) only[AX,bs_size,Bool.not_true,bs_extract,List.tail_cons,e]|refine wki ?_|refine wqn ?_|refine vf_of (by first|exact h) ?_)
theorem str_CutPrefix (l:List UInt8) (c:UInt8):Go.Ev.Fn CX 87 [.str (bs l),.str (bs [c])] (.tup [.str (bs (if l.head?==some c then l.tail else l)),.bool (l.head?==some c)]):=by
 have h:=lite_CutPrefix l c
 refine fni Tryz.f87 ?_;unfold Tryz.f87;simp only[Option.get!_some]
 simp only[go_sem]
 refine vf_of (h) ?_;simp only[go_sem]
theorem pow_lim {k:Nat}:(lim (10^k)).length<=k+1:=lim_ten (Nat.pow_lt_pow_right (by omega) (by omega))
theorem dec_ten (n:Nat) (hn:n<=400):Go.Ev.Fn CX 90 [.int .i64 (n:Int)] (natV (lim (10^n))):=by
 have o1:=nat_Of 1 (by omega)
 have o10:=nat_Of 10 (by omega)
 refine fni Tryz.f90 ?_;unfold Tryz.f90;simp only[Option.get!_some]
 repeat (first|simp only[go_sem]|simp (disch:=first|exact oa|fail) only[AX]|refine wki ?_|refine wqn ?_|refine vf_of (by first|exact o1) ?_)
 refine vp_loop_inv (fun s=>s.tmp 5 = .sv (.int .i64 (n:Int)) /\ ∃i:Nat,s.tmp 6 = .sv (.int .i64 (i:Int))/\i<=n/\s.tmp 3 = .sv (natV (lim (10^i))))
  (fun s=>match s.tmp 6 with | .sv (.int _ i)=>n-i.toNat|_=>0) ⟨rfl,0,rfl,by omega,rfl⟩ ?_
 rintro s2 ⟨i5,i,i6,hi,i3⟩
 by_cases hend:i=n
 ·subst hend
  repeat (first|simp only[go_sem,i5,i6,i3]|simp (disch:=first|exact oa|fail) only[AX,i5,i6,i3]|refine wki ?_|refine wqn ?_)
 ·have hp:=pow_lim (k:=i)
  have m:=nat_MulL (N:=10^i) (D:=10) (by omega) (by decide)
  rw[show 10^i*10=10^(i+1) by rw[Nat.pow_succ]]at m
  generalize 10^i=X at *
  generalize hY:10^(i+1)=Y at *
  repeat (first|simp only[go_sem,i5,i6,i3]|simp (disch:=first|exact oa|fail) only[AX,i5,i6,i3]|refine wki ?_|refine wqn ?_|refine vf_of (by first|exact o10|exact m) ?_)
  exact⟨⟨i+1,rfl,by omega,by rw[hY]⟩,by omega⟩
def noR:SV := .agg [.bool false,.sl 0 [],.sl 0 []]
def decPV (l:List UInt8):SV:=match decP l with
 |some q => .tup [rv q,.int .i64 0]
 |none => .tup [noR,.int .i64 2]
theorem parse_len {l:List UInt8} {n:Nat} (h:natP l=some n):(lim n).length<=400:=by
 unfold natP at h
 split at h
 ·cases h
 ·rename_i hc
  cases h
  have h1 : ¬400<l.length:=fun e=>hc (.inr (.inl e))
  have h2:digs l=true:=by
   cases e:digs l with
   |true=>rfl
   |false=>exact absurd (.inr (.inr e)) hc
  have h3:=lim_ten (natD_lt h2)
  omega
theorem front_len {c:UInt8} {l:List UInt8}:(frontL c l).length<=l.length:=(List.takeWhile_sublist _).length_le
theorem abs_eq (l:List UInt8):(if l.head?==some 45 then l.tail else l)=absP l:=rfl
theorem parseV_some {l:List UInt8} {n:Nat} (h:natP l=some n):parseV l = .tup [natV (lim n),.bool true]:=by unfold parseV;rw[h]
theorem parseV_none {l:List UInt8} (h:natP l=none):parseV l = .tup [natV (lim 0),.bool false]:=by unfold parseV;rw[h];rfl
theorem lim_ne {d:Nat} (h:d≠0):((lim d).length:Int)≠0:=by
 intro e
 have:lim d=[]:=List.eq_nil_of_length_eq_zero (by omega)
 exact h (lim_eq_nil.1 this)
set_option maxHeartbeats 2000000 in
theorem dec_Parse (l:List UInt8) (hl:l.length<=400):Go.Ev.Fn CX 40 [.str (bs l)] (decPV l):=by
 have hp:=str_CutPrefix l 45
 rw[abs_eq,show (l.head?==some 45)=negP l from rfl]at hp
 have ha:(absP l).length<=400:=by
  unfold absP
  split
  ·rw[List.length_tail];omega
  ·exact hl
 generalize hA:absP l=A at *
 have c46:=str_Cut CX_str A 46 (by omega)
 have c47:=str_Cut CX_str A 47 (by omega)
 have f46:=front_len (c:=46) (l:=A)
 have b46:=back_len (c:=46) (l:=A)
 have f47:=front_len (c:=47) (l:=A)
 have b47:=back_len (c:=47) (l:=A)
 generalize hN:negP l=ng at *
 cases h46:A.contains 46 with
 |true=>
  rw[h46]at c46
  have p1:=nat_Parse (backL 46 A) (by omega)
  have p2:=nat_Parse (frontL 46 A++backL 46 A) (by rw[List.length_append];omega)
  generalize hF:frontL 46 A=F at *
  generalize hB:backL 46 A=B at *
  by_cases hF0:F=[]
  ·have hFb:(F==[])=true:=by rw[hF0];rfl
   have e:decPV l = .tup [noR,.int .i64 2]:=by unfold decPV decP;rw[hA];simp only[h46,hF,if_true,hF0]
   rw[e]
   clear e
   have q1 : ∃v b,parseV B = .tup [v,.bool b]:=by
    cases n1:natP B with
    |none=>exact⟨_,_,parseV_none n1⟩
    |some m=>exact⟨_,_,parseV_some n1⟩
   have q2 : ∃v b,parseV (F++B) = .tup [v,.bool b]:=by
    cases n1:natP (F++B) with
    |none=>exact⟨_,_,parseV_none n1⟩
    |some m=>exact⟨_,_,parseV_some n1⟩
   obtain⟨v1,b1,q1⟩:=q1
   obtain⟨v2,b2,q2⟩:=q2
   rw[q1]at p1
   rw[q2]at p2
   refine fni Tryz.f40 ?_;unfold Tryz.f40;simp only[Option.get!_some]
   repeat (first|simp only[go_sem,mk_bs,bs_size,bs_append,bs_list,hFb,noR]|simp (disch:=first|exact oa|fail) only[AX,mk_bs,bs_size,bs_append,bs_list,hFb,noR]|refine wki ?_|refine wqn ?_|refine vf_of (by first|exact hp|exact c46|exact p1|exact p2) ?_)
  ·have hFb:(F==[])=false:=by simpa using hF0
   cases n1:natP B with
   |none=>
    have q2 : ∃v b,parseV (F++B) = .tup [v,.bool b]:=by
     cases n1:natP (F++B) with
     |none=>exact⟨_,_,parseV_none n1⟩
     |some m=>exact⟨_,_,parseV_some n1⟩
    obtain⟨v2,b2,q2⟩:=q2
    rw[parseV_none n1]at p1
    rw[q2]at p2
    have e:decPV l = .tup [noR,.int .i64 2]:=by unfold decPV decP;rw[hA];simp only[h46,hF,hB,if_true,hF0,if_false,n1]
    rw[e]
    clear e
    refine fni Tryz.f40 ?_;unfold Tryz.f40;simp only[Option.get!_some]
    repeat (first|simp only[go_sem,mk_bs,bs_size,bs_append,bs_list,hFb,Bool.not_false,noR]|simp (disch:=first|exact oa|fail) only[AX,mk_bs,bs_size,bs_append,bs_list,hFb,Bool.not_false,noR]|refine wki ?_|refine wqn ?_|refine vf_of (by first|exact hp|exact c46|exact p1|exact p2) ?_)
   |some m=>
    rw[parseV_some n1]at p1
    cases n2:natP (F++B) with
    |none=>
     rw[parseV_none n2]at p2
     have e:decPV l = .tup [noR,.int .i64 2]:=by unfold decPV decP;rw[hA];simp only[h46,hF,hB,if_true,hF0,if_false,n1,n2]
     rw[e]
     clear e
     refine fni Tryz.f40 ?_;unfold Tryz.f40;simp only[Option.get!_some]
     repeat (first|simp only[go_sem,mk_bs,bs_size,bs_append,bs_list,hFb,Bool.not_false,Bool.not_true,noR]|simp (disch:=first|exact oa|fail) only[AX,mk_bs,bs_size,bs_append,bs_list,hFb,Bool.not_false,Bool.not_true,noR]|refine wki ?_|refine wqn ?_|refine vf_of (by first|exact hp|exact c46|exact p1|exact p2) ?_)
    |some n=>
     rw[parseV_some n2]at p2
     have ht:=dec_ten B.length (by omega)
     have o:=rat_OfL (s:=ng) (n:=n) (d:=10^B.length) (by have:=parse_len n2;omega) (by have:=pow_lim (k:=B.length);omega)
     have e:decPV l = .tup [rv (mkRat (sgn ng n) (10^B.length)),.int .i64 0]:=by unfold decPV decP;rw[hA];simp only[h46,hF,hB,if_true,hF0,if_false,n1,n2,hN]
     rw[e]
     clear e
     generalize mkRat (sgn ng n) (10^B.length)=q at *
     refine fni Tryz.f40 ?_;unfold Tryz.f40;simp only[Option.get!_some]
     repeat (first|simp only[go_sem,mk_bs,bs_size,bs_append,bs_list,hFb,Bool.not_true,rv,ratV]|simp (disch:=first|exact oa|fail) only[AX,mk_bs,bs_size,bs_append,bs_list,hFb,Bool.not_true,rv,ratV]|refine wki ?_|refine wqn ?_|refine vf_of (by first|exact hp|exact c46|exact p1|exact p2|exact ht|exact o) ?_)
 |false=>
  rw[h46]at c46
  have p1:=nat_Parse (frontL 47 A) (by omega)
  have hden : ∃D,D=(if A.contains 47 then backL 47 A else [49])/\D.length<=400:=by
   refine⟨_,rfl,?_⟩
   split
   ·omega
   ·decide
  obtain⟨D,hD,hDl⟩:=hden
  have p2:=nat_Parse D (by omega)
  have hd:decPV l=match (match natP (frontL 47 A),natP D with|some n,some d=>if d=0 then none else some (mkRat (sgn ng n) d)|_,_=>none) with
    |some q => .tup [rv q,.int .i64 0]
    |none => .tup [noR,.int .i64 2]:=by
   unfold decPV decP
   rw[hA,hN,h46,hD]
   rfl
  rw[hd]
  clear hd
  generalize frontL 47 A=F at *
  cases n1:natP F with
  |none=>
   have q2 : ∃v b,parseV D = .tup [v,.bool b]:=by
    cases n1:natP D with
    |none=>exact⟨_,_,parseV_none n1⟩
    |some m=>exact⟨_,_,parseV_some n1⟩
   obtain⟨v2,b2,q2⟩:=q2
   rw[parseV_none n1]at p1
   rw[q2]at p2
   dsimp only
   cases h47:A.contains 47 with
   |true=>
    rw[h47]at c47 hD
    simp only[if_true]at hD
    rw[hD]at p2
    refine fni Tryz.f40 ?_;unfold Tryz.f40;simp only[Option.get!_some]
    repeat (first|simp only[go_sem,mk_bs,bs_size,Bool.not_true,bs_list,Bool.not_false,noR]|simp (disch:=first|exact oa|fail) only[AX,mk_bs,bs_size,Bool.not_true,bs_list,Bool.not_false,noR]|refine wki ?_|refine wqn ?_|refine vf_of (by first|exact hp|exact c46|exact c47|exact p1|exact p2) ?_)
   |false=>
    rw[h47]at c47 hD
    simp only[Bool.false_eq_true,if_false]at hD
    rw[hD]at p2
    refine fni Tryz.f40 ?_;unfold Tryz.f40;simp only[Option.get!_some]
    repeat (first|simp only[go_sem,mk_bs,bs_size,Bool.not_false,bs_list,noR]|simp (disch:=first|exact oa|fail) only[AX,mk_bs,bs_size,Bool.not_false,bs_list,noR]|refine wki ?_|refine wqn ?_|refine vf_of (by first|exact hp|exact c46|exact c47|exact p1|exact p2) ?_)
  |some n=>
   rw[parseV_some n1]at p1
   have l1:=parse_len n1
   cases n2:natP D with
   |none=>
    rw[parseV_none n2]at p2
    dsimp only
    cases h47:A.contains 47 with
    |true=>
     rw[h47]at c47 hD
     simp only[if_true]at hD
     rw[hD]at p2
     refine fni Tryz.f40 ?_;unfold Tryz.f40;simp only[Option.get!_some]
     repeat (first|simp only[go_sem,mk_bs,bs_size,Bool.not_true,bs_list,Bool.not_false,noR]|simp (disch:=first|exact oa|fail) only[AX,mk_bs,bs_size,Bool.not_true,bs_list,Bool.not_false,noR]|refine wki ?_|refine wqn ?_|refine vf_of (by first|exact hp|exact c46|exact c47|exact p1|exact p2) ?_)
    |false=>
     rw[h47]at hD
     simp only[Bool.false_eq_true,if_false]at hD
     subst hD
     have:natP [49]=some 1:=rfl
     rw[this]at n2
     cases n2
   |some d=>
    rw[parseV_some n2]at p2
    dsimp only
    have l2:=parse_len n2
    by_cases hd0:d=0
    ·subst hd0
     rw[if_pos rfl]
     dsimp only
     rw[natV_zero]at p2
     cases h47:A.contains 47 with
     |true=>
      rw[h47]at c47 hD
      simp only[if_true]at hD
      rw[hD]at p2
      refine fni Tryz.f40 ?_;unfold Tryz.f40;simp only[Option.get!_some]
      repeat (first|simp only[go_sem,mk_bs,bs_size,Bool.not_true,bs_list,Bool.not_false,noR]|simp (disch:=first|exact oa|fail) only[AX,mk_bs,bs_size,Bool.not_true,bs_list,Bool.not_false,noR]|refine wki ?_|refine wqn ?_|refine vf_of (by first|exact hp|exact c46|exact c47|exact p1|exact p2) ?_)
     |false=>
      rw[h47]at hD
      simp only[Bool.false_eq_true,if_false]at hD
      subst hD
      have:natP [49]=some 1:=rfl
      rw[this]at n2
      cases n2
    ·rw[if_neg hd0]
     dsimp only
     have hne:=lim_ne hd0
     have o:=rat_OfL (s:=ng) (n:=n) (d:=d) (by omega) (by omega)
     generalize mkRat (sgn ng n) d=q at *
     cases h47:A.contains 47 with
     |true=>
      rw[h47]at c47 hD
      simp only[if_true]at hD
      rw[hD]at p2
      refine fni Tryz.f40 ?_;unfold Tryz.f40;simp only[Option.get!_some]
      repeat (first|simp only[go_sem,mk_bs,bs_size,Bool.not_true,bs_list,Bool.not_false,rv,ratV]|simp (disch:=first|exact oa|fail) only[AX,mk_bs,bs_size,Bool.not_true,bs_list,Bool.not_false,rv,ratV]|refine wki ?_|refine wqn ?_|refine vf_of (by first|exact hp|exact c46|exact c47|exact p1|exact p2|exact o) ?_)
     |false=>
      rw[h47]at c47 hD
      simp only[Bool.false_eq_true,if_false]at hD
      rw[hD]at p2
      refine fni Tryz.f40 ?_;unfold Tryz.f40;simp only[Option.get!_some]
      repeat (first|simp only[go_sem,mk_bs,bs_size,Bool.not_false,bs_list,Bool.not_true,rv,ratV]|simp (disch:=first|exact oa|fail) only[AX,mk_bs,bs_size,Bool.not_false,bs_list,Bool.not_true,rv,ratV]|refine wki ?_|refine wqn ?_|refine vf_of (by first|exact hp|exact c46|exact c47|exact p1|exact p2|exact o) ?_)
end Go.Proofs.YtheclpmgipiejaaGreatDoor
namespace Go.Proofs.YtheclpmgipiejaaGreatDoor
open Go.Ev
theorem pm_set (l:List UInt8):Lib.trimLeftS l [43,45]=l.dropWhile isPM:=by
 unfold Lib.trimLeftS
 congr 1
 funext b
 unfold isPM
 simp only[List.contains_cons,List.contains_nil,Bool.or_false]
theorem dec_from : ∀ {l:List UInt8} (a:Nat),digs l=true->Lib.decFrom a l=some (l.foldl (fun a b=>a*10+(b.toNat-48)) a):=by
 intro l
 induction l with
 |nil=>intro a _;rfl
 |cons b l ih=>
  intro a h
  unfold digs at h
  rw[List.all_cons,Bool.and_eq_true]at h
  have hb:=h.1
  unfold dig at hb
  simp only[Bool.and_eq_true,decide_eq_true_eq]at hb
  have hd:Lib.digitVal b=some (b.toNat-48):=by unfold Lib.digitVal;rw[if_pos hb]
  rw[Lib.decFrom,hd]
  exact ih _ h.2
theorem dec_nat {l:List UInt8} (h0:l≠[]) (h:digs l=true):Lib.decNat l=some (natD l):=by
 unfold Lib.decNat
 rw[if_neg (by simpa using h0),dec_from 0 h]
 rfl
theorem atoi_is {l:List UInt8} (h1:l.length-(l.dropWhile isPM).length<=1) (h2:1<=(l.dropWhile isPM).length) (h3:digs (l.dropWhile isPM)=true) :
  Lib.atoi l=some (if l.head?=some 45 then - (natD (l.dropWhile isPM):Int) else (natD (l.dropWhile isPM):Int)):=by
 cases l with
 |nil=>simp at h2
 |cons b r=>
  cases hb:isPM b with
  |false=>
   rw[List.dropWhile_cons,hb]at h2 h3 ⊢
   simp only[Bool.false_eq_true,if_false]at h2 h3 ⊢
   unfold isPM at hb
   rw[Bool.or_eq_false_iff]at hb
   have e45 : ¬b=45:=by simpa using hb.2
   rw[Lib.atoi,hb.1,hb.2,dec_nat (by simp) h3]
   simp[e45]
  |true=>
   rw[List.dropWhile_cons,hb]at h1 h2 h3 ⊢
   simp only[if_true]at h1 h2 h3 ⊢
   have hr:r.dropWhile isPM=r:=by
    have hle:=(List.dropWhile_sublist (l:=r) isPM).length_le
    have:(r.dropWhile isPM).length=r.length:=by simp at h1;omega
    exact(List.dropWhile_sublist isPM).eq_of_length this
   rw[hr]at h2 h3 ⊢
   have h0:r≠[]:=fun e=>by subst e;simp at h2
   rw[Lib.atoi,dec_nat h0 h3]
   unfold isPM at hb
   rw[Bool.or_eq_true]at hb
   rcases hb with hb|hb
   ·have e:b=43:=by simpa using hb
    subst e
    rfl
   ·have e:b=45:=by simpa using hb
    subst e
    rfl
theorem x_atoi {l:List UInt8} {v:Int} (h:l.length<=18) (hv:Lib.atoi l=some v):Go.Ev.Fn CX 37 [.str (bs l)] (.tup [.int .i64 v,.con .nilIface]):=by
 refine⟨1,List.replicate 1 none,?_⟩
 have h3:xAtoi [.sv (.str (bs l))]=some (.sv (.tup [.int .i64 v,.con .nilIface]),List.replicate 1 none):=by
  unfold xAtoi
  simp only[bs_toList,bs_size,hv]
  rw[if_pos h]
 have h4:CX.X 37 ([SV.str (bs l)].map Arg.sv)=some (.sv (.tup [.int .i64 v,.con .nilIface]),List.replicate 1 none):=h3
 unfold callN
 rw[stq_sv,h4]
theorem data_exponent (l:List UInt8) (hl:l.length<=1048576) : ∃k:Int,Go.Ev.Fn CX 41 [.str (bs l)] (.tup [.int .i64 k,.bool (expP l).isSome]) /\ ∀v,expP l=some v->v=k /\ -30<=k/\k<=30:=by
 have htl:=x_trimLeft l [43,45] (by decide) (by decide)
 rw[pm_set]at htl
 have hle:=(List.dropWhile_sublist (l:=l) isPM).length_le
 have ht:=x_trim (l.dropWhile isPM) D10 (by omega) (by decide) (by decide)
 have htd:=trim_digs (l.dropWhile isPM)
 unfold D10 at ht htd
 by_cases hc:l.length-(l.dropWhile isPM).length>1\/(l.dropWhile isPM).length<1\/(l.dropWhile isPM).length>2\/digs (l.dropWhile isPM)=false
 ·have e:expP l=none:=by unfold expP;rw[if_pos hc]
  rw[e]
  refine⟨0,?_,fun v h=>by cases h⟩
  rw[Option.isSome_none]
  clear e
  generalize hd:l.dropWhile isPM=d at *
  by_cases h1:l.length-d.length>1
  ·refine fni Tryz.f41 ?_;unfold Tryz.f41;simp only[Option.get!_some]
   repeat (first|simp only[go_sem,mk_bs,bs_size]|simp (disch:=first|exact oa|fail) only[AX,mk_bs,bs_size]|refine wki ?_|refine wqn ?_|refine vf_of (by first|exact htl) ?_)
  by_cases h2:d.length<1
  ·refine fni Tryz.f41 ?_;unfold Tryz.f41;simp only[Option.get!_some]
   repeat (first|simp only[go_sem,mk_bs,bs_size]|simp (disch:=first|exact oa|fail) only[AX,mk_bs,bs_size]|refine wki ?_|refine wqn ?_|refine vf_of (by first|exact htl) ?_)
  by_cases h3:d.length>2
  ·refine fni Tryz.f41 ?_;unfold Tryz.f41;simp only[Option.get!_some]
   repeat (first|simp only[go_sem,mk_bs,bs_size]|simp (disch:=first|exact oa|fail) only[AX,mk_bs,bs_size]|refine wki ?_|refine wqn ?_|refine vf_of (by first|exact htl) ?_)
  ·have h4:digs d=false:=by
    rcases hc with h|h|h|h
    ·exact absurd h h1
    ·exact absurd h h2
    ·exact absurd h h3
    ·exact h
   rw[h4]at htd
   refine fni Tryz.f41 ?_;unfold Tryz.f41;simp only[Option.get!_some]
   repeat (first|simp only[go_sem,mk_bs,bs_size,bs_list,htd,Bool.not_false]|simp (disch:=first|exact oa|fail) only[AX,mk_bs,bs_size,bs_list,htd,Bool.not_false]|refine wki ?_|refine wqn ?_|refine vf_of (by first|exact htl|exact ht) ?_)
 ·have e:expP l=if natD (l.dropWhile isPM)<=30 then some (if l.head?=some 45 then - (natD (l.dropWhile isPM):Int) else (natD (l.dropWhile isPM):Int)) else none:=by unfold expP;rw[if_neg hc]
  rw[e]
  clear e
  simp only[not_or,Nat.not_lt]at hc
  obtain⟨h1,h2,h3,h4⟩:=hc
  have h4:digs (l.dropWhile isPM)=true:=by simpa using h4
  have ha:=x_atoi (l:=l) (by omega) (atoi_is (by omega) (by omega) h4)
  rw[h4]at htd
  have hn:natD (l.dropWhile isPM)<100:=by
   have:=natD_lt h4
   have h5:10^(l.dropWhile isPM).length<=10^2:=Nat.pow_le_pow_right (by omega) (by omega)
   omega
  generalize natD (l.dropWhile isPM)=n at *
  generalize hd:l.dropWhile isPM=d at *
  have hv:(if l.head?=some 45 then - (n:Int) else (n:Int)).natAbs=n:=by split<;>omega
  generalize (if l.head?=some 45 then - (n:Int) else (n:Int))=v at *
  have e1:IntKind.i64.wrap (0-v) = -v:=by rw[wI64 (by omega)];omega
  have e2:(if -v>v then -v else v)=(n:Int):=by split<;>omega
  refine⟨v,?_,fun u hu=>by
   split at hu
   ·cases hu;omega
   ·cases hu⟩
  by_cases hn30:n<=30
  ·rw[if_pos hn30,Option.isSome_some]
   have e3:decide ((n:Int)<=30)=true:=decide_eq_true (by omega)
   refine fni Tryz.f41 ?_;unfold Tryz.f41;simp only[Option.get!_some]
   repeat (first|simp only[go_sem,mk_bs,bs_size,bs_list,htd,Bool.not_true,isCst,e1,e2,e3]|simp (disch:=first|exact oa|fail) only[AX,mk_bs,bs_size,bs_list,htd,Bool.not_true,isCst,e1,e2,e3]|refine wki ?_|refine wqn ?_|refine vf_of (by first|exact htl|exact ht|exact ha) ?_)
  ·rw[if_neg hn30,Option.isSome_none]
   have e3:decide ((n:Int)<=30)=false:=decide_eq_false (by omega)
   refine fni Tryz.f41 ?_;unfold Tryz.f41;simp only[Option.get!_some]
   repeat (first|simp only[go_sem,mk_bs,bs_size,bs_list,htd,Bool.not_true,isCst,e1,e2,e3]|simp (disch:=first|exact oa|fail) only[AX,mk_bs,bs_size,bs_list,htd,Bool.not_true,isCst,e1,e2,e3]|refine wki ?_|refine wqn ?_|refine vf_of (by first|exact htl|exact ht|exact ha) ?_)
theorem sz_ten (k:Nat) (h:k<=60):szR ((10:Rat)^k) 61:=by
 have e:((10:Rat)^k)=((10^k:Nat):Rat):=by simp
 rw[e]
 refine⟨?_,?_⟩
 ·have:=pow_lim (k:=k)
  simpa using Nat.le_trans this (by omega)
 ·simp
  decide
theorem data_ten (n:Nat) (hn:n<=60):Go.Ev.Fn CX 44 [.int .i64 (n:Int)] (rv ((10:Rat)^n)):=by
 have o1:=rat_Int 1 (by omega)
 have o10:=rat_Int 10 (by omega)
 have z10:szR ((10:Int):Rat) 1:=⟨by decide,by decide⟩
 refine fni Tryz.f44 ?_;unfold Tryz.f44;simp only[Option.get!_some]
 repeat (first|simp only[go_sem,rv,ratV]|simp (disch:=first|exact oa|fail) only[AX,rv,ratV]|refine wki ?_|refine wqn ?_|refine vpd 4 [] ?_|refine vf_of (by first|exact o1) ?_)
 refine vp_loop_inv (fun s=>s.tmp 2 = .ptr 2 0 0/\s.obj 2 0=some [.bool false,.sl 0 [],.sl 0 []]/\s.tmp 3 = .ptr 3 0 0/\s.tmp 5 = .sv (.int .i64 (n:Int)) /\
   ∃i:Nat,s.tmp 6 = .sv (.int .i64 (i:Int))/\i<=n/\s.obj 3 0=some (rvC ((10:Rat)^i)))
  (fun s=>match s.tmp 6 with | .sv (.int _ i)=>n-i.toNat|_=>0) ?_ ?_
 ·have e0:rvC ((10:Rat)^0)=[.bool false,natV (lim 1),natV (lim 1)]:=by simp[rvC]
  exact⟨rfl,rfl,rfl,rfl,0,rfl,by omega,by rw[e0];rfl⟩
 rintro s2 ⟨i2,o2,i3,i5,i,i6,hi,o3⟩
 by_cases hend:i=n
 ·subst hend
  generalize (10:Rat)^i=q at *
  repeat (first|simp only[go_sem,i2,o2,i3,i5,i6,o3,rvC]|simp (disch:=first|exact oa|fail) only[AX,i2,o2,i3,i5,i6,o3,rvC]|refine wki ?_|refine wqn ?_|refine vpd 4 [] ?_)
  first|rfl|skip
 ·have z:=sz_ten i (by omega)
  have m:=rat_Mul (RatA_rv z) (RatA_rv z10) (by omega) (by omega) (by omega)
  rw[show (10:Rat)^i*((10:Int):Rat)=(10:Rat)^(i+1) by rw[Rat.pow_succ];rfl]at m
  generalize hp:(10:Rat)^i=q at *
  generalize hp2:(10:Rat)^(i+1)=q2 at *
  unfold rvC at o3
  unfold rv ratV at m o10
  repeat (first|simp only[go_sem,i2,o2,i3,i5,i6,o3]|simp (disch:=first|exact oa|fail) only[AX,i2,o2,i3,i5,i6,o3]|refine wki ?_|refine wqn ?_|refine vpd 4 [] ?_|refine vf_of (by first|exact o10|exact m) ?_)
  exact⟨⟨i+1,rfl,by omega,by rw[hp2];rfl⟩,by omega⟩
def ratS (v:SV):Prop := ∃s n1 c1 n2 c2,v = .agg [.bool s,.sl n1 c1,.sl n2 c2]
theorem ratS_rv (q:Rat):ratS (rv q):=⟨_,_,_,_,_,rfl⟩
theorem szR_decP {l:List UInt8} {q:Rat} (h:decP l=some q) (hl:l.length<=400):szR q 401:=by
 have key : ∀ (s:Bool) (n d:Nat),(lim n).length<=400->(lim d).length<=401->szR (mkRat (sgn s n) d) 401:=fun s n d h1 h2=>szR_of (v:=ratV s (lim n) (lim d)) ⟨s,lim n,lim d,rfl,okL_lim _,okL_lim _,by omega,h2,by rw[wth_lim,wth_lim]⟩ (by omega)
 have ha:(absP l).length<=400:=by
  unfold absP
  split
  ·rw[List.length_tail];omega
  ·exact hl
 unfold decP at h
 split at h
 ·split at h
  ·cases h
  ·split at h
   ·rename_i n m h1 h2
    cases h
    have:=back_len (c:=46) (l:=absP l)
    have h3:=pow_lim (k:=(backL 46 (absP l)).length)
    exact key _ _ _ (parse_len h2) (by omega)
   ·cases h
 ·split at h
  ·rename_i n d h1 h2
   split at h
   ·cases h
   ·cases h
    exact key _ _ _ (parse_len h1) (by have:=parse_len h2;omega)
  ·cases h
theorem str_Contains (l:List UInt8) (c:UInt8):Go.Ev.Fn CX 42 [.str (bs l),.str (bs [c])] (.bool (l.contains c)):=by
 have hx:=str_Index CX_str l c
 refine fni Tryz.f42 ?_;unfold Tryz.f42;simp only[Option.get!_some]
 rcases index_cases c l with⟨h1,h2,_⟩|⟨i,h1,h2,_⟩
 ·rw[h2]at hx
  rw[h1]
  repeat (first|simp only[go_sem]|simp (disch:=first|exact oa|fail) only[AX]|refine wki ?_|refine wqn ?_|refine vf_of (by first|exact hx) ?_)
  first|rfl|skip
 ·rw[h2]at hx
  rw[h1]
  repeat (first|simp only[go_sem]|simp (disch:=first|exact oa|fail) only[AX]|refine wki ?_|refine wqn ?_|refine vf_of (by first|exact hx) ?_)
  first|rfl|skip
set_option maxHeartbeats 2000000 in
theorem data_Number (l:List UInt8) (hl:l.length<=1048576) : ∃v,ratS v/\Go.Ev.Fn CX 17 [.str (bs l)] (.tup [v,.int .i64 ((numP l).1:Int)])/\((numP l).1=0->v=rv (numP l).2/\szR (numP l).2 500):=by
 have o0:=rat_Int 0 (by omega)
 have s0 : ∀e:Nat,e≠0->(e=0->rv ((0:Int):Rat)=rv (0:Rat)/\szR 0 500):=fun e h1 h2=>absurd h2 h1
 by_cases h60:60<l.length
 ·have e:numP l=(3,0):=by unfold numP;rw[if_pos h60]
  rw[e]
  refine⟨_,ratS_rv ((0:Int):Rat),?_,fun h=>by cases h⟩
  unfold rv ratV at o0
  refine fni Tryz.f17 ?_;unfold Tryz.f17;simp only[Option.get!_some]
  repeat (first|simp only[go_sem,bs_size,rv,ratV]|simp (disch:=first|exact oa|fail) only[AX,bs_size,rv,ratV]|refine wki ?_|refine wqn ?_|refine vpd 11 [] ?_|refine vpd 13 [] ?_|refine vf_of (by first|exact o0) ?_)
  first|rfl|skip
 have c101:=str_Cut CX_str l 101 (by omega)
 have c47:=str_Contains l 47
 have f1:=front_len (c:=101) (l:=l)
 have b1:=back_len (c:=101) (l:=l)
 have hp:=dec_Parse (frontL 101 l) (by omega)
 cases h101:l.contains 101 with
 |false=>
  have hfr:frontL 101 l=l:=by
   rcases index_cases 101 l with⟨_,_,h,_⟩|⟨_,h,_⟩
   ·exact h
   ·rw[h101]at h;cases h
  rw[h101]at c101
  rw[hfr]at c101 hp
  cases hd:decP l with
  |some q=>
   have e:numP l=(0,q):=by unfold numP;rw[if_neg h60,h101,hd];rfl
   have e2:decPV l = .tup [rv q,.int .i64 0]:=by unfold decPV;rw[hd]
   rw[e]
   rw[e2]at hp
   refine⟨_,ratS_rv q,?_,fun _=>⟨rfl,?_⟩⟩
   ·unfold rv ratV at hp ⊢
    refine fni Tryz.f17 ?_;unfold Tryz.f17;simp only[Option.get!_some]
    repeat (first|simp only[go_sem,bs_size,mk_bs,Bool.not_false]|simp (disch:=first|exact oa|fail) only[AX,bs_size,mk_bs,Bool.not_false]|refine wki ?_|refine wqn ?_|refine vpd 11 [] ?_|refine vpd 13 [] ?_|refine vf_of (by first|exact c101|exact hp) ?_)
    first|rfl|skip
   ·have:=szR_decP hd (by omega)
    exact⟨by have:=this.1;simp only;omega,by have:=this.2;simp only;omega⟩
  |none=>
   have e:numP l=(2,0):=by unfold numP;rw[if_neg h60,h101,hd];rfl
   have e2:decPV l = .tup [noR,.int .i64 2]:=by unfold decPV;rw[hd]
   rw[e]
   rw[e2]at hp
   unfold noR at hp
   refine⟨noR,⟨_,_,_,_,_,rfl⟩,?_,fun h=>by cases h⟩
   unfold noR
   refine fni Tryz.f17 ?_;unfold Tryz.f17;simp only[Option.get!_some]
   repeat (first|simp only[go_sem,bs_size,mk_bs,Bool.not_false]|simp (disch:=first|exact oa|fail) only[AX,bs_size,mk_bs,Bool.not_false]|refine wki ?_|refine wqn ?_|refine vpd 11 [] ?_|refine vpd 13 [] ?_|refine vf_of (by first|exact c101|exact hp) ?_)
   first|rfl|skip
 |true=>
  rw[h101]at c101
  obtain⟨k,hk,hkv⟩:=data_exponent (backL 101 l) (by omega)
  cases hd:decP (frontL 101 l) with
  |none=>
   have e:numP l=(2,0):=by unfold numP;rw[if_neg h60,h101,hd];rfl
   have e2:decPV (frontL 101 l) = .tup [noR,.int .i64 2]:=by unfold decPV;rw[hd]
   rw[e]
   rw[e2]at hp
   unfold noR at hp
   refine⟨_,ratS_rv ((0:Int):Rat),?_,fun h=>by cases h⟩
   unfold rv ratV at o0
   generalize (expP (backL 101 l)).isSome=bb at *
   refine fni Tryz.f17 ?_;unfold Tryz.f17;simp only[Option.get!_some]
   repeat (first|simp only[go_sem,bs_size,mk_bs,Bool.not_true,rv,ratV]|simp (disch:=first|exact oa|fail) only[AX,bs_size,mk_bs,Bool.not_true,rv,ratV]|refine wki ?_|refine wqn ?_|refine vpd 11 [] ?_|refine vpd 13 [] ?_|refine vf_of (by first|exact c101|exact hp|exact hk|exact o0) ?_)
   first|rfl|skip
  |some q=>
   have e2:decPV (frontL 101 l) = .tup [rv q,.int .i64 0]:=by unfold decPV;rw[hd]
   rw[e2]at hp
   have zq:=szR_decP hd (by omega)
   cases hx:expP (backL 101 l) with
   |none=>
    have e:numP l=(2,0):=by unfold numP;rw[if_neg h60,h101,hd,hx];rfl
    rw[e]
    rw[hx,Option.isSome_none]at hk
    refine⟨_,ratS_rv ((0:Int):Rat),?_,fun h=>by cases h⟩
    unfold rv ratV at o0 hp
    refine fni Tryz.f17 ?_;unfold Tryz.f17;simp only[Option.get!_some]
    repeat (first|simp only[go_sem,bs_size,mk_bs,Bool.not_true,Bool.not_false,rv,ratV]|simp (disch:=first|exact oa|fail) only[AX,bs_size,mk_bs,Bool.not_true,Bool.not_false,rv,ratV]|refine wki ?_|refine wqn ?_|refine vpd 11 [] ?_|refine vpd 13 [] ?_|refine vf_of (by first|exact c101|exact hp|exact hk|exact o0) ?_)
    first|rfl|skip
   |some v=>
    obtain⟨rfl,hk1,hk2⟩:=hkv v hx
    rw[hx,Option.isSome_some]at hk
    cases h47:l.contains 47 with
    |true=>
     have e:numP l=(2,0):=by unfold numP;rw[if_neg h60,h101,hd,hx,h47];rfl
     rw[e]
     rw[h47]at c47
     refine⟨_,ratS_rv ((0:Int):Rat),?_,fun h=>by cases h⟩
     unfold rv ratV at o0 hp
     refine fni Tryz.f17 ?_;unfold Tryz.f17;simp only[Option.get!_some]
     repeat (first|simp only[go_sem,bs_size,mk_bs,Bool.not_true,rv,ratV]|simp (disch:=first|exact oa|fail) only[AX,bs_size,mk_bs,Bool.not_true,rv,ratV]|refine wki ?_|refine wqn ?_|refine vpd 11 [] ?_|refine vpd 13 [] ?_|refine vf_of (by first|exact c101|exact hp|exact hk|exact c47|exact o0) ?_)
     first|rfl|skip
    |false=>
     have e:numP l=(0,q*tenR v):=by unfold numP;rw[if_neg h60,h101,hd,hx,h47];rfl
     rw[e]
     rw[h47]at c47
     have ht:=data_ten v.natAbs (by omega)
     have zt:=sz_ten v.natAbs (by omega)
     by_cases hneg:v<0
     ·have e5:tenR v=1/(10:Rat)^v.natAbs:=by unfold tenR;rw[if_pos hneg]
      have hm:=rat_Div (RatA_rv zq) (RatA_rv zt) (by omega) (by omega) (by omega)
      have e6:q/(10:Rat)^v.natAbs=q*tenR v:=by rw[e5,Rat.div_def,Rat.div_def,Rat.one_mul]
      have zd:=szR_div zq zt (by omega) (by omega)
      rw[e6]at hm zd
      refine⟨_,ratS_rv (q*tenR v),?_,fun _=>⟨rfl,⟨by have:=zd.1;simp only;omega,by have:=zd.2;simp only;omega⟩⟩⟩
      have e7:(v.natAbs:Int)=0-v:=by omega
      rw[e7]at ht
      generalize (10:Rat)^v.natAbs=t at *
      generalize q*tenR v=r at *
      unfold rv ratV at o0 hp hm ⊢
      refine fni Tryz.f17 ?_;unfold Tryz.f17;simp only[Option.get!_some]
      repeat (first|simp only[go_sem,bs_size,mk_bs,Bool.not_true]|simp (disch:=first|exact oa|fail) only[AX,bs_size,mk_bs,Bool.not_true]|refine wki ?_|refine wqn ?_|refine vpd 11 [] ?_|refine vpd 13 [] ?_|refine vf_of (by first|exact c101|exact hp|exact hk|exact c47) ?_)
      repeat (first|simp only[go_sem,rv,ratV]|simp (disch:=first|exact oa|fail) only[AX,rv,ratV]|refine wki ?_|refine wqn ?_|refine vpd 11 [] ?_|refine vpd 13 [] ?_|refine vf_of (by first|exact ht|exact hm) ?_)
      first|rfl|skip
     ·have e5:tenR v=(10:Rat)^v.natAbs:=by unfold tenR;rw[if_neg hneg]
      have hm:=rat_Mul (RatA_rv zq) (RatA_rv zt) (by omega) (by omega) (by omega)
      have zd:=szR_mul zq zt (by omega)
      rw[e5]
      refine⟨_,ratS_rv (q*(10:Rat)^v.natAbs),?_,fun _=>⟨rfl,⟨by have:=zd.1;simp only;omega,by have:=zd.2;simp only;omega⟩⟩⟩
      have e7:v=(v.natAbs:Int):=by omega
      generalize (10:Rat)^v.natAbs=t at *
      generalize q*t=r at *
      generalize hm':v.natAbs=m at *
      subst e7
      unfold rv ratV at o0 hp hm ⊢
      refine fni Tryz.f17 ?_;unfold Tryz.f17;simp only[Option.get!_some]
      repeat (first|simp only[go_sem,bs_size,mk_bs,Bool.not_true]|simp (disch:=first|exact oa|fail) only[AX,bs_size,mk_bs,Bool.not_true]|refine wki ?_|refine wqn ?_|refine vpd 11 [] ?_|refine vpd 13 [] ?_|refine vf_of (by first|exact c101|exact hp|exact hk|exact c47) ?_)
      repeat (first|simp only[go_sem,rv,ratV]|simp (disch:=first|exact oa|fail) only[AX,rv,ratV]|refine wki ?_|refine wqn ?_|refine vpd 11 [] ?_|refine vpd 13 [] ?_|refine vf_of (by first|exact ht|exact hm) ?_)
      first|rfl|skip
end Go.Proofs.YtheclpmgipiejaaGreatDoor
namespace Go.Proofs.YtheclpmgipiejaaGreatDoor
open Go.Ev
def unneg (l:List UInt8):List UInt8:=if l.head?==some 45 then l.tail else l
def wholeP (l:List UInt8):Int×Bool:=
 if (unneg l).length<1\/6<(unneg l).length\/digs (unneg l)=false then (0,false) else (if l.head?=some 45 then - (natD (unneg l):Int) else (natD (unneg l):Int),true)
theorem unneg_len (l:List UInt8):(unneg l).length<=l.length:=by
 unfold unneg
 split
 ·cases l<;>simp
 ·exact Nat.le_refl _
theorem drop_pm {l:List UInt8} (h0:1<=(unneg l).length) (h:digs (unneg l)=true):l.dropWhile isPM=unneg l:=by
 have key : ∀ {d:List UInt8},digs d=true->d.dropWhile isPM=d:=by
  intro d hd
  cases d with
  |nil=>rfl
  |cons b r=>
   unfold digs at hd
   rw[List.all_cons,Bool.and_eq_true]at hd
   have hb:=hd.1
   have:isPM b=false:=by
    unfold dig at hb
    simp only[Bool.and_eq_true,decide_eq_true_eq]at hb
    unfold isPM
    rw[Bool.or_eq_false_iff]
    constructor
    ·rw[beq_eq_false_iff_ne];rintro rfl;exact absurd hb.1 (by decide)
    ·rw[beq_eq_false_iff_ne];rintro rfl;exact absurd hb.1 (by decide)
   rw[List.dropWhile_cons,this]
   rfl
 unfold unneg at h ⊢
 split at h
 ·rename_i hl
  rw[if_pos hl]
  cases l with
  |nil=>simp at hl
  |cons b r=>
   have hb:b=45:=by simpa using hl
   subst hb
   rw[List.dropWhile_cons,show isPM 45=true from rfl]
   simp only[if_true]
   exact key h
 ·rename_i hl
  rw[if_neg hl]
  exact key h
theorem whole_len {l:List UInt8} (h:(unneg l).length<=6):l.length<=7:=by
 unfold unneg at h
 split at h
 ·cases l<;>simp at h ⊢;omega
 ·omega
theorem lite_TrimPrefix (l:List UInt8):Go.Ev.Fn CX 75 [.str (bs l),.str (bs [45])] (.str (bs (unneg l))):=by
 have h:=lite_HasPrefix l 45
 unfold unneg
 refine fni Tryz.f75 ?_;unfold Tryz.f75;simp only[Option.get!_some]
 cases hc:l.head?==some 45 with
 |false=>
  rw[hc]at h
  simp only[go_sem]
  refine vf_of (h) ?_;simp only[go_sem,Bool.not_false]
 |true=>
  rw[hc]at h
  cases l with
  |nil=>cases hc
  |cons b l=>
   have e:List.take (l.length+1-1) l=l:=List.take_of_length_le (by omega)
   repeat (first|simp only[go_sem,bs_size,Bool.not_true,bs_extract,List.tail_cons,e]|simp (disch:=first|exact oa|fail) only[AX,bs_size,Bool.not_true,bs_extract,List.tail_cons,e]|refine wki ?_|refine wqn ?_|refine vf_of (by first|exact h) ?_)
theorem str_TrimPrefix (l:List UInt8):Go.Ev.Fn CX 35 [.str (bs l),.str (bs [45])] (.str (bs (unneg l))):=by
 have h:=lite_TrimPrefix l
 refine fni Tryz.f35 ?_;unfold Tryz.f35;simp only[Option.get!_some]
 simp only[go_sem]
 refine vf_of (h) ?_;simp only[go_sem]
theorem tool_whole (l:List UInt8) (hl:l.length<=1048576):Go.Ev.Fn CX 16 [.str (bs l)] (.tup [.int .i64 (wholeP l).1,.bool (wholeP l).2]):=by
 have h1:=str_TrimPrefix l
 have hle:=unneg_len l
 have ht:=x_trim (unneg l) D10 (by omega) (by decide) (by decide)
 have htd:=trim_digs (unneg l)
 unfold D10 at ht htd
 unfold wholeP
 by_cases hc:(unneg l).length<1\/6<(unneg l).length\/digs (unneg l)=false
 ·rw[if_pos hc]
  generalize hd:unneg l=d at *
  by_cases c1:d=[]
  ·subst c1
   have e0:(([]:List UInt8)==[])=true:=rfl
   refine fni Tryz.f16 ?_;unfold Tryz.f16;simp only[Option.get!_some]
   repeat (first|simp only[go_sem,mk_bs,bs_size,bs_eq,e0]|simp (disch:=first|exact oa|fail) only[AX,mk_bs,bs_size,bs_eq,e0]|refine wki ?_|refine wqn ?_|refine vpd 5 [] ?_|refine vf_of (by first|exact h1) ?_)
  have e0:(d==[])=false:=by simpa using c1
  by_cases c2:6<d.length
  ·refine fni Tryz.f16 ?_;unfold Tryz.f16;simp only[Option.get!_some]
   repeat (first|simp only[go_sem,mk_bs,bs_size,bs_eq,e0]|simp (disch:=first|exact oa|fail) only[AX,mk_bs,bs_size,bs_eq,e0]|refine wki ?_|refine wqn ?_|refine vpd 5 [] ?_|refine vf_of (by first|exact h1) ?_)
  ·have c3:digs d=false:=by
    rcases hc with h|h|h
    ·exact absurd (List.eq_nil_of_length_eq_zero (by omega)) c1
    ·exact absurd h c2
    ·exact h
   rw[c3]at htd
   refine fni Tryz.f16 ?_;unfold Tryz.f16;simp only[Option.get!_some]
   repeat (first|simp only[go_sem,mk_bs,bs_size,bs_eq,e0,htd,Bool.not_false]|simp (disch:=first|exact oa|fail) only[AX,mk_bs,bs_size,bs_eq,e0,htd,Bool.not_false]|refine wki ?_|refine wqn ?_|refine vpd 5 [] ?_|refine vf_of (by first|exact h1|exact ht) ?_)
 ·rw[if_neg hc]
  have hc:1<=(unneg l).length/\(unneg l).length<=6/\digs (unneg l)=true:=⟨by omega,by omega,by
   cases h:digs (unneg l) with
   |true=>rfl
   |false=>exact absurd (.inr (.inr h)) hc⟩
  obtain⟨c1,c2,c3⟩:=hc
  have hp:=drop_pm c1 c3
  have ha:=x_atoi (l:=l) (by have:=whole_len c2;omega) (atoi_is (by rw[hp];unfold unneg;split<;>(try omega)<;>(cases l<;>simp)) (by rw[hp];exact c1) (by rw[hp];exact c3))
  rw[hp]at ha
  rw[c3]at htd
  have e0:(unneg l==[])=false:=by
   have:unneg l≠[]:=fun e=>by rw[e]at c1;simp at c1
   simpa using this
  generalize unneg l=d at *
  refine fni Tryz.f16 ?_;unfold Tryz.f16;simp only[Option.get!_some]
  repeat (first|simp only[go_sem,mk_bs,bs_size,bs_eq,e0,htd,Bool.not_true,isCst]|simp (disch:=first|exact oa|fail) only[AX,mk_bs,bs_size,bs_eq,e0,htd,Bool.not_true,isCst]|refine wki ?_|refine wqn ?_|refine vpd 5 [] ?_|refine vf_of (by first|exact h1|exact ht|exact ha) ?_)
end Go.Proofs.YtheclpmgipiejaaGreatDoor
namespace Go.Proofs.YtheclpmgipiejaaGreatDoor
open Go.Ev
theorem x_fields (s:ByteArray) (h:s.size<=4294967296):Go.Ev.Fn CX 60 [.str s,.fn 61 []] (.sl (Lib.goFieldsP (fun c=>c==32) s).length ((Lib.goFieldsP (fun c=>c==32) s).map SV.str)):=by
 refine⟨1,List.replicate 2 none,?_⟩
 have hX:CX.X 60 [.sv (.str s),.sv (.fn 61 [])]=some (.sv (.sl (Lib.goFieldsP (fun c=>c==32) s).length ((Lib.goFieldsP (fun c=>c==32) s).map SV.str)),List.replicate 2 none):=by
  show xFields 61 [.sv (.str s),.sv (.fn 61 [])]=_
  exact if_pos ⟨rfl,h⟩
 show (match CX.X _ _ with|some r=>some r|none=>_)=_
 rw[show ([SV.str s,SV.fn 61 []].map Arg.sv)=[.sv (.str s),.sv (.fn 61 [])] from rfl,hX]
theorem x_cut (s c:ByteArray) (hc:2<=c.size) (hs:s.size<4294967281):Go.Ev.Fn CX 39 [.str s,.str c] (.tup [.str (bs (Lib.cut s.data.toList c.data.toList).1),.str (bs (Lib.cut s.data.toList c.data.toList).2.1),.bool (Lib.cut s.data.toList c.data.toList).2.2]):=by
 refine⟨1,List.replicate 2 none,?_⟩
 have hX:CX.X 39 [.sv (.str s),.sv (.str c)]=some (.sv (.tup [.str (bs (Lib.cut s.data.toList c.data.toList).1),.str (bs (Lib.cut s.data.toList c.data.toList).2.1),.bool (Lib.cut s.data.toList c.data.toList).2.2]),List.replicate 2 none):=by
  show xCut [.sv (.str s),.sv (.str c)]=_
  exact if_pos ⟨hc,hs⟩
 show (match CX.X _ _ with|some r=>some r|none=>_)=_
 rw[show ([SV.str s,SV.str c].map Arg.sv)=[.sv (.str s),.sv (.str c)] from rfl,hX]
theorem tool_words (s:ByteArray) (h:s.size<=4294967296):Go.Ev.Fn CX 30 [.str s] (.sl (Lib.goFieldsP (fun c=>c==32) s).length ((Lib.goFieldsP (fun c=>c==32) s).map SV.str)):=by
 have x1:=x_fields s h
 refine fni Tryz.f30 ?_;unfold Tryz.f30;simp only[Option.get!_some]
 repeat (first|simp only[go_sem]|simp (disch:=first|exact oa|fail) only[AX]|refine wki ?_|refine wqn ?_|refine vf_of (by first|exact x1) ?_)
theorem word_is {a:List UInt8} {b:Array UInt8}:((bs a).toList==(ByteArray.mk b).toList)=(a==b.toList):=bs_eq (b:=b.toList)
theorem tool_names:Go.Ev.Fn CX 72 [.str (bs [118,97,114])] (.int .i64 1):=by
 have c0:((bs [118,97,114]).toList==(ByteArray.mk #[115,104,111,119]).toList)=false:=word_is.trans (by decide)
 have c1:((bs [118,97,114]).toList==(ByteArray.mk #[100,114,111,112]).toList)=false:=word_is.trans (by decide)
 have c2:((bs [118,97,114]).toList==(ByteArray.mk #[115,117,109]).toList)=false:=word_is.trans (by decide)
 have c3:((bs [118,97,114]).toList==(ByteArray.mk #[109,101,97,110]).toList)=false:=word_is.trans (by decide)
 have c4:((bs [118,97,114]).toList==(ByteArray.mk #[118,97,114]).toList)=true:=word_is.trans (by decide)
 refine fni Tryz.f72 ?_;unfold Tryz.f72;simp only[Option.get!_some]
 repeat (first|simp only[go_sem,c0,c1,c2,c3,c4]|simp (disch:=first|exact oa|fail) only[AX,c0,c1,c2,c3,c4]|refine wki ?_|refine wqn ?_)
theorem tool_told (s:ByteArray):Go.Ev.Fn CX 100 [.str s,.int .i64 0] (.str s):=by
 refine fni Tryz.f100 ?_;unfold Tryz.f100;simp only[Option.get!_some]
 repeat (first|simp only[go_sem]|simp (disch:=first|exact oa|fail) only[AX]|refine wki ?_|refine wqn ?_)
theorem tool_about {n:Nat} {cs:List SV} {s:Bool} {a b:List Nat} (f1:Go.Ev.Fn CX 174 [.sl n cs] (.tup [ratV s a b,.int .i64 0])):Go.Ev.Fn CX 121 [.str (bs [118,97,114]),.sl 1 [.sl n cs]] (.tup [ratV s a b,.int .i64 0]):=by
 have c0:((bs [118,97,114]).toList==(ByteArray.mk #[109,101,97,110]).toList)=false:=word_is.trans (by decide)
 have c1:((bs [118,97,114]).toList==(ByteArray.mk #[118,97,114]).toList)=true:=word_is.trans (by decide)
 refine fni Tryz.f121 ?_;unfold Tryz.f121;simp only[Option.get!_some]
 repeat (first|simp only[go_sem,c0,c1,List.head?_cons]|simp (disch:=first|exact oa|fail) only[AX,c0,c1,List.head?_cons]|refine wki ?_|refine wqn ?_|refine vpd 9 [35,38] ?_|refine vpd 11 [46,49] ?_|refine vf_of (by first|exact f1) ?_)
end Go.Proofs.YtheclpmgipiejaaGreatDoor
namespace Go.Proofs.YtheclpmgipiejaaGreatDoor
open Go.Ev
def sn1:List UInt8:=[110,111,114,109,97,108]
def sn2:List UInt8:=[101,120,112]
def sn3:List UInt8:=[103,97,109,109,97]
def sn4:List UInt8:=[99,104,105]
def sn5:List UInt8:=[115,116,117,100,101,110,116]
def sn6:List UInt8:=[102,105,115,104,101,114]
def sn7:List UInt8:=[98,101,116,97]
def sn8:List UInt8:=[98,105,110,111,109,105,97,108]
def sn9:List UInt8:=[112,111,105,115,115,111,110]
def shapeP (l:List UInt8):Int×List UInt8:=
 if l=sn1 then (1,[65,66]) else
 if l=sn2 then (2,[65]) else
 if l=sn3 then (3,[78,65]) else
 if l=sn4 then (4,[78]) else
 if l=sn5 then (5,[78]) else
 if l=sn6 then (6,[78,77]) else
 if l=sn7 then (7,[78,77]) else
 if l=sn8 then (8,[78,65]) else
 if l=sn9 then (9,[65]) else
 (0,[])
theorem tool_shape (l:List UInt8):Go.Ev.Fn CX 8 [.str (bs l)] (.tup [.int .i64 (shapeP l).1,.str (bs (shapeP l).2)]):=by
 unfold shapeP
 by_cases h1:l=sn1
 ·rw[if_pos h1]
  have c1:(l==[110,111,114,109,97,108])=true:=beq_iff_eq.2 h1
  clear h1
  refine fni Tryz.f8 ?_;unfold Tryz.f8;simp only[Option.get!_some]
  repeat (first|simp only[go_sem,mk_bs,bs_eq,c1]|simp (disch:=first|exact oa|fail) only[AX,mk_bs,bs_eq,c1]|refine wki ?_|refine wqn ?_)
 by_cases h2:l=sn2
 ·rw[if_neg h1,if_pos h2]
  have c1:(l==[110,111,114,109,97,108])=false:=beq_eq_false_iff_ne.2 h1
  have c2:(l==[101,120,112])=true:=beq_iff_eq.2 h2
  clear h1 h2
  refine fni Tryz.f8 ?_;unfold Tryz.f8;simp only[Option.get!_some]
  repeat (first|simp only[go_sem,mk_bs,bs_eq,c1,c2]|simp (disch:=first|exact oa|fail) only[AX,mk_bs,bs_eq,c1,c2]|refine wki ?_|refine wqn ?_)
 by_cases h3:l=sn3
 ·rw[if_neg h1,if_neg h2,if_pos h3]
  have c1:(l==[110,111,114,109,97,108])=false:=beq_eq_false_iff_ne.2 h1
  have c2:(l==[101,120,112])=false:=beq_eq_false_iff_ne.2 h2
  have c3:(l==[103,97,109,109,97])=true:=beq_iff_eq.2 h3
  clear h1 h2 h3
  refine fni Tryz.f8 ?_;unfold Tryz.f8;simp only[Option.get!_some]
  repeat (first|simp only[go_sem,mk_bs,bs_eq,c1,c2,c3]|simp (disch:=first|exact oa|fail) only[AX,mk_bs,bs_eq,c1,c2,c3]|refine wki ?_|refine wqn ?_)
 by_cases h4:l=sn4
 ·rw[if_neg h1,if_neg h2,if_neg h3,if_pos h4]
  have c1:(l==[110,111,114,109,97,108])=false:=beq_eq_false_iff_ne.2 h1
  have c2:(l==[101,120,112])=false:=beq_eq_false_iff_ne.2 h2
  have c3:(l==[103,97,109,109,97])=false:=beq_eq_false_iff_ne.2 h3
  have c4:(l==[99,104,105])=true:=beq_iff_eq.2 h4
  clear h1 h2 h3 h4
  refine fni Tryz.f8 ?_;unfold Tryz.f8;simp only[Option.get!_some]
  repeat (first|simp only[go_sem,mk_bs,bs_eq,c1,c2,c3,c4]|simp (disch:=first|exact oa|fail) only[AX,mk_bs,bs_eq,c1,c2,c3,c4]|refine wki ?_|refine wqn ?_)
 by_cases h5:l=sn5
 ·rw[if_neg h1,if_neg h2,if_neg h3,if_neg h4,if_pos h5]
  have c1:(l==[110,111,114,109,97,108])=false:=beq_eq_false_iff_ne.2 h1
  have c2:(l==[101,120,112])=false:=beq_eq_false_iff_ne.2 h2
  have c3:(l==[103,97,109,109,97])=false:=beq_eq_false_iff_ne.2 h3
  have c4:(l==[99,104,105])=false:=beq_eq_false_iff_ne.2 h4
  have c5:(l==[115,116,117,100,101,110,116])=true:=beq_iff_eq.2 h5
  clear h1 h2 h3 h4 h5
  refine fni Tryz.f8 ?_;unfold Tryz.f8;simp only[Option.get!_some]
  repeat (first|simp only[go_sem,mk_bs,bs_eq,c1,c2,c3,c4,c5]|simp (disch:=first|exact oa|fail) only[AX,mk_bs,bs_eq,c1,c2,c3,c4,c5]|refine wki ?_|refine wqn ?_)
 by_cases h6:l=sn6
 ·rw[if_neg h1,if_neg h2,if_neg h3,if_neg h4,if_neg h5,if_pos h6]
  have c1:(l==[110,111,114,109,97,108])=false:=beq_eq_false_iff_ne.2 h1
  have c2:(l==[101,120,112])=false:=beq_eq_false_iff_ne.2 h2
  have c3:(l==[103,97,109,109,97])=false:=beq_eq_false_iff_ne.2 h3
  have c4:(l==[99,104,105])=false:=beq_eq_false_iff_ne.2 h4
  have c5:(l==[115,116,117,100,101,110,116])=false:=beq_eq_false_iff_ne.2 h5
  have c6:(l==[102,105,115,104,101,114])=true:=beq_iff_eq.2 h6
  clear h1 h2 h3 h4 h5 h6
  refine fni Tryz.f8 ?_;unfold Tryz.f8;simp only[Option.get!_some]
  repeat (first|simp only[go_sem,mk_bs,bs_eq,c1,c2,c3,c4,c5,c6]|simp (disch:=first|exact oa|fail) only[AX,mk_bs,bs_eq,c1,c2,c3,c4,c5,c6]|refine wki ?_|refine wqn ?_)
 by_cases h7:l=sn7
 ·rw[if_neg h1,if_neg h2,if_neg h3,if_neg h4,if_neg h5,if_neg h6,if_pos h7]
  have c1:(l==[110,111,114,109,97,108])=false:=beq_eq_false_iff_ne.2 h1
  have c2:(l==[101,120,112])=false:=beq_eq_false_iff_ne.2 h2
  have c3:(l==[103,97,109,109,97])=false:=beq_eq_false_iff_ne.2 h3
  have c4:(l==[99,104,105])=false:=beq_eq_false_iff_ne.2 h4
  have c5:(l==[115,116,117,100,101,110,116])=false:=beq_eq_false_iff_ne.2 h5
  have c6:(l==[102,105,115,104,101,114])=false:=beq_eq_false_iff_ne.2 h6
  have c7:(l==[98,101,116,97])=true:=beq_iff_eq.2 h7
  clear h1 h2 h3 h4 h5 h6 h7
  refine fni Tryz.f8 ?_;unfold Tryz.f8;simp only[Option.get!_some]
  repeat (first|simp only[go_sem,mk_bs,bs_eq,c1,c2,c3,c4,c5,c6,c7]|simp (disch:=first|exact oa|fail) only[AX,mk_bs,bs_eq,c1,c2,c3,c4,c5,c6,c7]|refine wki ?_|refine wqn ?_)
 by_cases h8:l=sn8
 ·rw[if_neg h1,if_neg h2,if_neg h3,if_neg h4,if_neg h5,if_neg h6,if_neg h7,if_pos h8]
  have c1:(l==[110,111,114,109,97,108])=false:=beq_eq_false_iff_ne.2 h1
  have c2:(l==[101,120,112])=false:=beq_eq_false_iff_ne.2 h2
  have c3:(l==[103,97,109,109,97])=false:=beq_eq_false_iff_ne.2 h3
  have c4:(l==[99,104,105])=false:=beq_eq_false_iff_ne.2 h4
  have c5:(l==[115,116,117,100,101,110,116])=false:=beq_eq_false_iff_ne.2 h5
  have c6:(l==[102,105,115,104,101,114])=false:=beq_eq_false_iff_ne.2 h6
  have c7:(l==[98,101,116,97])=false:=beq_eq_false_iff_ne.2 h7
  have c8:(l==[98,105,110,111,109,105,97,108])=true:=beq_iff_eq.2 h8
  clear h1 h2 h3 h4 h5 h6 h7 h8
  refine fni Tryz.f8 ?_;unfold Tryz.f8;simp only[Option.get!_some]
  repeat (first|simp only[go_sem,mk_bs,bs_eq,c1,c2,c3,c4,c5,c6,c7,c8]|simp (disch:=first|exact oa|fail) only[AX,mk_bs,bs_eq,c1,c2,c3,c4,c5,c6,c7,c8]|refine wki ?_|refine wqn ?_)
 by_cases h9:l=sn9
 ·rw[if_neg h1,if_neg h2,if_neg h3,if_neg h4,if_neg h5,if_neg h6,if_neg h7,if_neg h8,if_pos h9]
  have c1:(l==[110,111,114,109,97,108])=false:=beq_eq_false_iff_ne.2 h1
  have c2:(l==[101,120,112])=false:=beq_eq_false_iff_ne.2 h2
  have c3:(l==[103,97,109,109,97])=false:=beq_eq_false_iff_ne.2 h3
  have c4:(l==[99,104,105])=false:=beq_eq_false_iff_ne.2 h4
  have c5:(l==[115,116,117,100,101,110,116])=false:=beq_eq_false_iff_ne.2 h5
  have c6:(l==[102,105,115,104,101,114])=false:=beq_eq_false_iff_ne.2 h6
  have c7:(l==[98,101,116,97])=false:=beq_eq_false_iff_ne.2 h7
  have c8:(l==[98,105,110,111,109,105,97,108])=false:=beq_eq_false_iff_ne.2 h8
  have c9:(l==[112,111,105,115,115,111,110])=true:=beq_iff_eq.2 h9
  clear h1 h2 h3 h4 h5 h6 h7 h8 h9
  refine fni Tryz.f8 ?_;unfold Tryz.f8;simp only[Option.get!_some]
  repeat (first|simp only[go_sem,mk_bs,bs_eq,c1,c2,c3,c4,c5,c6,c7,c8,c9]|simp (disch:=first|exact oa|fail) only[AX,mk_bs,bs_eq,c1,c2,c3,c4,c5,c6,c7,c8,c9]|refine wki ?_|refine wqn ?_)
 rw[if_neg h1,if_neg h2,if_neg h3,if_neg h4,if_neg h5,if_neg h6,if_neg h7,if_neg h8,if_neg h9]
 have c1:(l==[110,111,114,109,97,108])=false:=beq_eq_false_iff_ne.2 h1
 have c2:(l==[101,120,112])=false:=beq_eq_false_iff_ne.2 h2
 have c3:(l==[103,97,109,109,97])=false:=beq_eq_false_iff_ne.2 h3
 have c4:(l==[99,104,105])=false:=beq_eq_false_iff_ne.2 h4
 have c5:(l==[115,116,117,100,101,110,116])=false:=beq_eq_false_iff_ne.2 h5
 have c6:(l==[102,105,115,104,101,114])=false:=beq_eq_false_iff_ne.2 h6
 have c7:(l==[98,101,116,97])=false:=beq_eq_false_iff_ne.2 h7
 have c8:(l==[98,105,110,111,109,105,97,108])=false:=beq_eq_false_iff_ne.2 h8
 have c9:(l==[112,111,105,115,115,111,110])=false:=beq_eq_false_iff_ne.2 h9
 clear h1 h2 h3 h4 h5 h6 h7 h8 h9
 refine fni Tryz.f8 ?_;unfold Tryz.f8;simp only[Option.get!_some]
 repeat (first|simp only[go_sem,mk_bs,bs_eq,c1,c2,c3,c4,c5,c6,c7,c8,c9]|simp (disch:=first|exact oa|fail) only[AX,mk_bs,bs_eq,c1,c2,c3,c4,c5,c6,c7,c8,c9]|refine wki ?_|refine wqn ?_)
end Go.Proofs.YtheclpmgipiejaaGreatDoor
set_option maxHeartbeats 4000000
namespace Go.Proofs.YtheclpmgipiejaaGreatDoor
open Go.Ev
theorem ref23_shape (l:List UInt8):Go.Ev.Fn CX 10 [.str (bs l)] (.tup [.int .i64 (shapeP l).1,.str (bs (shapeP l).2)]):=by
 refine fni Tryz.f10 ?_;unfold Tryz.f10;simp only[Option.get!_some]
 repeat (first|simp only[go_sem,mk_bs,bs_eq]|simp (disch:=first|exact oa|fail) only[AX,mk_bs,bs_eq]|refine wki ?_|refine wqn ?_|refine vpd 7 [] ?_)
 by_cases h1:l=sn1
 ·have e:shapeP l=(1,[65,66]):=by unfold shapeP;rw[if_pos h1]
  rw[e]
  have c:([110,111,114,109,97,108]==l)=true:=beq_iff_eq.2 h1.symm
  clear e h1
  rw[vp_loop]
  repeat (first|simp only[go_sem,mk_bs,bs_eq,vo_ix,idxB_bs,List.getElem?_cons_zero,List.getElem?_cons_succ,Option.map_some,List.drop_zero,List.head?_cons,Int.reduceAdd,Bool.not_false,Bool.not_true,Int.zero_add,List.drop_succ_cons,c]|simp (disch:=first|exact oa|fail) only[AX,mk_bs,bs_eq,vo_ix,idxB_bs,List.getElem?_cons_zero,List.getElem?_cons_succ,Option.map_some,List.drop_zero,List.head?_cons,Int.reduceAdd,Bool.not_false,Bool.not_true,Int.zero_add,List.drop_succ_cons,c]|refine wki ?_|refine wqn ?_|refine vpd 7 [] ?_)
 have c1:([110,111,114,109,97,108]==l)=false:=beq_eq_false_iff_ne.2 fun e=>h1 e.symm
 rw[vp_loop]
 repeat (first|simp only[go_sem,mk_bs,bs_eq,vo_ix,idxB_bs,List.getElem?_cons_zero,List.getElem?_cons_succ,Option.map_some,List.drop_zero,List.head?_cons,Int.reduceAdd,Bool.not_false,Bool.not_true,Int.zero_add,List.drop_succ_cons,c1]|simp (disch:=first|exact oa|fail) only[AX,mk_bs,bs_eq,vo_ix,idxB_bs,List.getElem?_cons_zero,List.getElem?_cons_succ,Option.map_some,List.drop_zero,List.head?_cons,Int.reduceAdd,Bool.not_false,Bool.not_true,Int.zero_add,List.drop_succ_cons,c1]|refine wki ?_|refine wqn ?_|refine vpd 7 [] ?_)
 by_cases h2:l=sn2
 ·have e:shapeP l=(2,[65]):=by unfold shapeP;rw[if_neg h1,if_pos h2]
  rw[e]
  have c:([101,120,112]==l)=true:=beq_iff_eq.2 h2.symm
  clear e h1 h2
  rw[vp_loop]
  repeat (first|simp only[go_sem,mk_bs,bs_eq,vo_ix,idxB_bs,List.getElem?_cons_zero,List.getElem?_cons_succ,Option.map_some,List.drop_zero,List.head?_cons,Int.reduceAdd,Bool.not_false,Bool.not_true,Int.zero_add,List.drop_succ_cons,c]|simp (disch:=first|exact oa|fail) only[AX,mk_bs,bs_eq,vo_ix,idxB_bs,List.getElem?_cons_zero,List.getElem?_cons_succ,Option.map_some,List.drop_zero,List.head?_cons,Int.reduceAdd,Bool.not_false,Bool.not_true,Int.zero_add,List.drop_succ_cons,c]|refine wki ?_|refine wqn ?_|refine vpd 7 [] ?_)
 have c2:([101,120,112]==l)=false:=beq_eq_false_iff_ne.2 fun e=>h2 e.symm
 rw[vp_loop]
 repeat (first|simp only[go_sem,mk_bs,bs_eq,vo_ix,idxB_bs,List.getElem?_cons_zero,List.getElem?_cons_succ,Option.map_some,List.drop_zero,List.head?_cons,Int.reduceAdd,Bool.not_false,Bool.not_true,Int.zero_add,List.drop_succ_cons,c2]|simp (disch:=first|exact oa|fail) only[AX,mk_bs,bs_eq,vo_ix,idxB_bs,List.getElem?_cons_zero,List.getElem?_cons_succ,Option.map_some,List.drop_zero,List.head?_cons,Int.reduceAdd,Bool.not_false,Bool.not_true,Int.zero_add,List.drop_succ_cons,c2]|refine wki ?_|refine wqn ?_|refine vpd 7 [] ?_)
 by_cases h3:l=sn3
 ·have e:shapeP l=(3,[78,65]):=by unfold shapeP;rw[if_neg h1,if_neg h2,if_pos h3]
  rw[e]
  have c:([103,97,109,109,97]==l)=true:=beq_iff_eq.2 h3.symm
  clear e h1 h2 h3
  rw[vp_loop]
  repeat (first|simp only[go_sem,mk_bs,bs_eq,vo_ix,idxB_bs,List.getElem?_cons_zero,List.getElem?_cons_succ,Option.map_some,List.drop_zero,List.head?_cons,Int.reduceAdd,Bool.not_false,Bool.not_true,Int.zero_add,List.drop_succ_cons,c]|simp (disch:=first|exact oa|fail) only[AX,mk_bs,bs_eq,vo_ix,idxB_bs,List.getElem?_cons_zero,List.getElem?_cons_succ,Option.map_some,List.drop_zero,List.head?_cons,Int.reduceAdd,Bool.not_false,Bool.not_true,Int.zero_add,List.drop_succ_cons,c]|refine wki ?_|refine wqn ?_|refine vpd 7 [] ?_)
 have c3:([103,97,109,109,97]==l)=false:=beq_eq_false_iff_ne.2 fun e=>h3 e.symm
 rw[vp_loop]
 repeat (first|simp only[go_sem,mk_bs,bs_eq,vo_ix,idxB_bs,List.getElem?_cons_zero,List.getElem?_cons_succ,Option.map_some,List.drop_zero,List.head?_cons,Int.reduceAdd,Bool.not_false,Bool.not_true,Int.zero_add,List.drop_succ_cons,c3]|simp (disch:=first|exact oa|fail) only[AX,mk_bs,bs_eq,vo_ix,idxB_bs,List.getElem?_cons_zero,List.getElem?_cons_succ,Option.map_some,List.drop_zero,List.head?_cons,Int.reduceAdd,Bool.not_false,Bool.not_true,Int.zero_add,List.drop_succ_cons,c3]|refine wki ?_|refine wqn ?_|refine vpd 7 [] ?_)
 by_cases h4:l=sn4
 ·have e:shapeP l=(4,[78]):=by unfold shapeP;rw[if_neg h1,if_neg h2,if_neg h3,if_pos h4]
  rw[e]
  have c:([99,104,105]==l)=true:=beq_iff_eq.2 h4.symm
  clear e h1 h2 h3 h4
  rw[vp_loop]
  repeat (first|simp only[go_sem,mk_bs,bs_eq,vo_ix,idxB_bs,List.getElem?_cons_zero,List.getElem?_cons_succ,Option.map_some,List.drop_zero,List.head?_cons,Int.reduceAdd,Bool.not_false,Bool.not_true,Int.zero_add,List.drop_succ_cons,c]|simp (disch:=first|exact oa|fail) only[AX,mk_bs,bs_eq,vo_ix,idxB_bs,List.getElem?_cons_zero,List.getElem?_cons_succ,Option.map_some,List.drop_zero,List.head?_cons,Int.reduceAdd,Bool.not_false,Bool.not_true,Int.zero_add,List.drop_succ_cons,c]|refine wki ?_|refine wqn ?_|refine vpd 7 [] ?_)
 have c4:([99,104,105]==l)=false:=beq_eq_false_iff_ne.2 fun e=>h4 e.symm
 rw[vp_loop]
 repeat (first|simp only[go_sem,mk_bs,bs_eq,vo_ix,idxB_bs,List.getElem?_cons_zero,List.getElem?_cons_succ,Option.map_some,List.drop_zero,List.head?_cons,Int.reduceAdd,Bool.not_false,Bool.not_true,Int.zero_add,List.drop_succ_cons,c4]|simp (disch:=first|exact oa|fail) only[AX,mk_bs,bs_eq,vo_ix,idxB_bs,List.getElem?_cons_zero,List.getElem?_cons_succ,Option.map_some,List.drop_zero,List.head?_cons,Int.reduceAdd,Bool.not_false,Bool.not_true,Int.zero_add,List.drop_succ_cons,c4]|refine wki ?_|refine wqn ?_|refine vpd 7 [] ?_)
 by_cases h5:l=sn5
 ·have e:shapeP l=(5,[78]):=by unfold shapeP;rw[if_neg h1,if_neg h2,if_neg h3,if_neg h4,if_pos h5]
  rw[e]
  have c:([115,116,117,100,101,110,116]==l)=true:=beq_iff_eq.2 h5.symm
  clear e h1 h2 h3 h4 h5
  rw[vp_loop]
  repeat (first|simp only[go_sem,mk_bs,bs_eq,vo_ix,idxB_bs,List.getElem?_cons_zero,List.getElem?_cons_succ,Option.map_some,List.drop_zero,List.head?_cons,Int.reduceAdd,Bool.not_false,Bool.not_true,Int.zero_add,List.drop_succ_cons,c]|simp (disch:=first|exact oa|fail) only[AX,mk_bs,bs_eq,vo_ix,idxB_bs,List.getElem?_cons_zero,List.getElem?_cons_succ,Option.map_some,List.drop_zero,List.head?_cons,Int.reduceAdd,Bool.not_false,Bool.not_true,Int.zero_add,List.drop_succ_cons,c]|refine wki ?_|refine wqn ?_|refine vpd 7 [] ?_)
 have c5:([115,116,117,100,101,110,116]==l)=false:=beq_eq_false_iff_ne.2 fun e=>h5 e.symm
 rw[vp_loop]
 repeat (first|simp only[go_sem,mk_bs,bs_eq,vo_ix,idxB_bs,List.getElem?_cons_zero,List.getElem?_cons_succ,Option.map_some,List.drop_zero,List.head?_cons,Int.reduceAdd,Bool.not_false,Bool.not_true,Int.zero_add,List.drop_succ_cons,c5]|simp (disch:=first|exact oa|fail) only[AX,mk_bs,bs_eq,vo_ix,idxB_bs,List.getElem?_cons_zero,List.getElem?_cons_succ,Option.map_some,List.drop_zero,List.head?_cons,Int.reduceAdd,Bool.not_false,Bool.not_true,Int.zero_add,List.drop_succ_cons,c5]|refine wki ?_|refine wqn ?_|refine vpd 7 [] ?_)
 by_cases h6:l=sn6
 ·have e:shapeP l=(6,[78,77]):=by unfold shapeP;rw[if_neg h1,if_neg h2,if_neg h3,if_neg h4,if_neg h5,if_pos h6]
  rw[e]
  have c:([102,105,115,104,101,114]==l)=true:=beq_iff_eq.2 h6.symm
  clear e h1 h2 h3 h4 h5 h6
  rw[vp_loop]
  repeat (first|simp only[go_sem,mk_bs,bs_eq,vo_ix,idxB_bs,List.getElem?_cons_zero,List.getElem?_cons_succ,Option.map_some,List.drop_zero,List.head?_cons,Int.reduceAdd,Bool.not_false,Bool.not_true,Int.zero_add,List.drop_succ_cons,c]|simp (disch:=first|exact oa|fail) only[AX,mk_bs,bs_eq,vo_ix,idxB_bs,List.getElem?_cons_zero,List.getElem?_cons_succ,Option.map_some,List.drop_zero,List.head?_cons,Int.reduceAdd,Bool.not_false,Bool.not_true,Int.zero_add,List.drop_succ_cons,c]|refine wki ?_|refine wqn ?_|refine vpd 7 [] ?_)
 have c6:([102,105,115,104,101,114]==l)=false:=beq_eq_false_iff_ne.2 fun e=>h6 e.symm
 rw[vp_loop]
 repeat (first|simp only[go_sem,mk_bs,bs_eq,vo_ix,idxB_bs,List.getElem?_cons_zero,List.getElem?_cons_succ,Option.map_some,List.drop_zero,List.head?_cons,Int.reduceAdd,Bool.not_false,Bool.not_true,Int.zero_add,List.drop_succ_cons,c6]|simp (disch:=first|exact oa|fail) only[AX,mk_bs,bs_eq,vo_ix,idxB_bs,List.getElem?_cons_zero,List.getElem?_cons_succ,Option.map_some,List.drop_zero,List.head?_cons,Int.reduceAdd,Bool.not_false,Bool.not_true,Int.zero_add,List.drop_succ_cons,c6]|refine wki ?_|refine wqn ?_|refine vpd 7 [] ?_)
 by_cases h7:l=sn7
 ·have e:shapeP l=(7,[78,77]):=by unfold shapeP;rw[if_neg h1,if_neg h2,if_neg h3,if_neg h4,if_neg h5,if_neg h6,if_pos h7]
  rw[e]
  have c:([98,101,116,97]==l)=true:=beq_iff_eq.2 h7.symm
  clear e h1 h2 h3 h4 h5 h6 h7
  rw[vp_loop]
  repeat (first|simp only[go_sem,mk_bs,bs_eq,vo_ix,idxB_bs,List.getElem?_cons_zero,List.getElem?_cons_succ,Option.map_some,List.drop_zero,List.head?_cons,Int.reduceAdd,Bool.not_false,Bool.not_true,Int.zero_add,List.drop_succ_cons,c]|simp (disch:=first|exact oa|fail) only[AX,mk_bs,bs_eq,vo_ix,idxB_bs,List.getElem?_cons_zero,List.getElem?_cons_succ,Option.map_some,List.drop_zero,List.head?_cons,Int.reduceAdd,Bool.not_false,Bool.not_true,Int.zero_add,List.drop_succ_cons,c]|refine wki ?_|refine wqn ?_|refine vpd 7 [] ?_)
 have c7:([98,101,116,97]==l)=false:=beq_eq_false_iff_ne.2 fun e=>h7 e.symm
 rw[vp_loop]
 repeat (first|simp only[go_sem,mk_bs,bs_eq,vo_ix,idxB_bs,List.getElem?_cons_zero,List.getElem?_cons_succ,Option.map_some,List.drop_zero,List.head?_cons,Int.reduceAdd,Bool.not_false,Bool.not_true,Int.zero_add,List.drop_succ_cons,c7]|simp (disch:=first|exact oa|fail) only[AX,mk_bs,bs_eq,vo_ix,idxB_bs,List.getElem?_cons_zero,List.getElem?_cons_succ,Option.map_some,List.drop_zero,List.head?_cons,Int.reduceAdd,Bool.not_false,Bool.not_true,Int.zero_add,List.drop_succ_cons,c7]|refine wki ?_|refine wqn ?_|refine vpd 7 [] ?_)
 by_cases h8:l=sn8
 ·have e:shapeP l=(8,[78,65]):=by unfold shapeP;rw[if_neg h1,if_neg h2,if_neg h3,if_neg h4,if_neg h5,if_neg h6,if_neg h7,if_pos h8]
  rw[e]
  have c:([98,105,110,111,109,105,97,108]==l)=true:=beq_iff_eq.2 h8.symm
  clear e h1 h2 h3 h4 h5 h6 h7 h8
  rw[vp_loop]
  repeat (first|simp only[go_sem,mk_bs,bs_eq,vo_ix,idxB_bs,List.getElem?_cons_zero,List.getElem?_cons_succ,Option.map_some,List.drop_zero,List.head?_cons,Int.reduceAdd,Bool.not_false,Bool.not_true,Int.zero_add,List.drop_succ_cons,c]|simp (disch:=first|exact oa|fail) only[AX,mk_bs,bs_eq,vo_ix,idxB_bs,List.getElem?_cons_zero,List.getElem?_cons_succ,Option.map_some,List.drop_zero,List.head?_cons,Int.reduceAdd,Bool.not_false,Bool.not_true,Int.zero_add,List.drop_succ_cons,c]|refine wki ?_|refine wqn ?_|refine vpd 7 [] ?_)
 have c8:([98,105,110,111,109,105,97,108]==l)=false:=beq_eq_false_iff_ne.2 fun e=>h8 e.symm
 rw[vp_loop]
 repeat (first|simp only[go_sem,mk_bs,bs_eq,vo_ix,idxB_bs,List.getElem?_cons_zero,List.getElem?_cons_succ,Option.map_some,List.drop_zero,List.head?_cons,Int.reduceAdd,Bool.not_false,Bool.not_true,Int.zero_add,List.drop_succ_cons,c8]|simp (disch:=first|exact oa|fail) only[AX,mk_bs,bs_eq,vo_ix,idxB_bs,List.getElem?_cons_zero,List.getElem?_cons_succ,Option.map_some,List.drop_zero,List.head?_cons,Int.reduceAdd,Bool.not_false,Bool.not_true,Int.zero_add,List.drop_succ_cons,c8]|refine wki ?_|refine wqn ?_|refine vpd 7 [] ?_)
 by_cases h9:l=sn9
 ·have e:shapeP l=(9,[65]):=by unfold shapeP;rw[if_neg h1,if_neg h2,if_neg h3,if_neg h4,if_neg h5,if_neg h6,if_neg h7,if_neg h8,if_pos h9]
  rw[e]
  have c:([112,111,105,115,115,111,110]==l)=true:=beq_iff_eq.2 h9.symm
  clear e h1 h2 h3 h4 h5 h6 h7 h8 h9
  rw[vp_loop]
  repeat (first|simp only[go_sem,mk_bs,bs_eq,vo_ix,idxB_bs,List.getElem?_cons_zero,List.getElem?_cons_succ,Option.map_some,List.drop_zero,List.head?_cons,Int.reduceAdd,Bool.not_false,Bool.not_true,Int.zero_add,List.drop_succ_cons,c]|simp (disch:=first|exact oa|fail) only[AX,mk_bs,bs_eq,vo_ix,idxB_bs,List.getElem?_cons_zero,List.getElem?_cons_succ,Option.map_some,List.drop_zero,List.head?_cons,Int.reduceAdd,Bool.not_false,Bool.not_true,Int.zero_add,List.drop_succ_cons,c]|refine wki ?_|refine wqn ?_|refine vpd 7 [] ?_)
 have c9:([112,111,105,115,115,111,110]==l)=false:=beq_eq_false_iff_ne.2 fun e=>h9 e.symm
 rw[vp_loop]
 repeat (first|simp only[go_sem,mk_bs,bs_eq,vo_ix,idxB_bs,List.getElem?_cons_zero,List.getElem?_cons_succ,Option.map_some,List.drop_zero,List.head?_cons,Int.reduceAdd,Bool.not_false,Bool.not_true,Int.zero_add,List.drop_succ_cons,c9]|simp (disch:=first|exact oa|fail) only[AX,mk_bs,bs_eq,vo_ix,idxB_bs,List.getElem?_cons_zero,List.getElem?_cons_succ,Option.map_some,List.drop_zero,List.head?_cons,Int.reduceAdd,Bool.not_false,Bool.not_true,Int.zero_add,List.drop_succ_cons,c9]|refine wki ?_|refine wqn ?_|refine vpd 7 [] ?_)
 have e:shapeP l=(0,[]):=by unfold shapeP;rw[if_neg h1,if_neg h2,if_neg h3,if_neg h4,if_neg h5,if_neg h6,if_neg h7,if_neg h8,if_neg h9]
 rw[e]
 rw[vp_loop]
 repeat (first|simp only[go_sem,mk_bs,bs_eq,vo_ix,idxB_bs,List.getElem?_cons_zero,List.getElem?_cons_succ,Option.map_some,List.drop_zero,List.head?_cons,Int.reduceAdd,Bool.not_false,Bool.not_true,Int.zero_add,List.drop_succ_cons]|simp (disch:=first|exact oa|fail) only[AX,mk_bs,bs_eq,vo_ix,idxB_bs,List.getElem?_cons_zero,List.getElem?_cons_succ,Option.map_some,List.drop_zero,List.head?_cons,Int.reduceAdd,Bool.not_false,Bool.not_true,Int.zero_add,List.drop_succ_cons]|refine wki ?_|refine wqn ?_|refine vpd 7 [] ?_)
end Go.Proofs.YtheclpmgipiejaaGreatDoor
