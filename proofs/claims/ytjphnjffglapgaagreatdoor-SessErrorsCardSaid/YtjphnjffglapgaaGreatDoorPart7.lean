/- Part 7 of the proof: the evaluator, contracts of functions and their plain laws (joined by program). No condition. -/
import Derived.Test.YtjphnjffglapgaaGreatDoorPart6
set_option linter.unusedVariables false
set_option linter.unusedSimpArgs false
set_option maxRecDepth 100000
namespace Go.Proofs.YtjphnjffglapgaaGreatDoor
open Go.Ev
theorem or_low2 {k:Nat} (v low:Nat) (h:low<2^k):v*2^k |||low=v*2^k+low:=by
 rw[Nat.mul_comm]
 exact(Nat.two_pow_add_eq_or_of_lt h v).symm
theorem pow_split {k:Nat} (h:k<32):2^k*2^(32-k)=4294967296:=by rw[<- Nat.pow_add,show k+(32-k)=32 by omega]
theorem shl_limb {k v low:Nat} (hk:k<32) (hv:v<4294967296) (hl:low<2^k) :
  v*2^k+low<18446744073709551616/\(v*2^k+low)%4294967296+4294967296*(v*2^k/4294967296)=v*2^k+low/\v*2^k/4294967296<2^k:=by
 have hDE:=pow_split hk
 have hk2:(2:Nat)^k<=2147483648:=Nat.pow_le_pow_right (n:=2) (by omega) (show k<=31 by omega)
 have h1:v*2^k<=4294967295*2^k:=Nat.mul_le_mul_right _ (by omega)
 have hmod:v*2^k%4294967296=2^k*(v%2^(32-k)):=by
  conv=>lhs;rw[<- hDE]
  rw[Nat.mul_comm v,Nat.mul_mod_mul_left]
 have h3:v%2^(32-k)+1<=2^(32-k):=Nat.mod_lt _ (Nat.pow_pos (by omega))
 have h4:2^k*(v%2^(32-k)+1)<=2^k*2^(32-k):=Nat.mul_le_mul_left _ h3
 rw[hDE,Nat.mul_add,Nat.mul_one,<- hmod]at h4
 generalize v*2^k=x at *
 generalize 2^k=D at *
 omega
theorem ref1_shift_up (xs:List Nat) (m:Nat) (hx:okL xs) (hl:xs.length<=1073741824) (s:Int) (hs:s=(m:Int)) (hm:m<=4096) :
  Go.Ev.Fn CX 82 [natV xs,.int .i64 s] (natV (lim (wth xs*2^m))):=by
 refine fni Tryz.f82 ?_;unfold Tryz.f82;simp only[Option.get!_some]
 have lx:=lim_length_le hx
 subst hs
 have e1:(if (-4096:Int)>(m:Int) then (-4096:Int) else (m:Int))=(m:Int):=if_neg (by omega)
 have e2:(if (4096:Int)<(m:Int) then (4096:Int) else (m:Int))=(m:Int):=if_neg (by omega)
 repeat (first|simp only[go_sem,e1,e2]|simp (disch:=first|exact oa|fail) only[AX,e1,e2]|refine wki ?_|refine wqn ?_|refine vpx [] ?_)
 refine vf_of (ref1_Trim xs hx (by omega)) ?_;repeat (first|simp only[go_sem,e1,e2,tdiv32,tmod32]|simp (disch:=first|exact oa|fail) only[AX,e1,e2,tdiv32,tmod32]|refine wki ?_|refine wqn ?_|refine vpx [] ?_)
 have ha:=okL_lim (wth xs)
 have va:=wth_lim (wth xs)
 generalize lim (wth xs)=a at *
 rw[<- va]
 clear va
 have hk:m%32<32:=Nat.mod_lt _ (by omega)
 have hpow:2^m=4294967296^(m/32)*2^(m%32):=by
  rw[show (4294967296:Nat)=2^32 by rfl,<- Nat.pow_mul,<- Nat.pow_add,Nat.div_add_mod]
 rw[hpow]
 generalize m%32=k at *
 have hw128:m/32<=128:=by omega
 generalize m/32=w at *
 refine vp_loop_inv (fun s'=>s'.tmp 5 = .sv (natV a)/\s'.tmp 11 = .sv (.int .u64 k) /\ ∃c:List Nat,∃low:Nat,s'.tmp 10 = .ref 61 0 1 0 (w+c.length)/\s'.obj 61 0=some ((List.replicate w 0++c).map limb)/\s'.tmp 12 = .sv (.int .u64 low)/\s'.tmp 13 = .sv (.int .i64 c.length) /\
   okL c/\c.length<=a.length+1/\low<2^k/\wth c+4294967296^c.length*low=wth (a.take c.length)*2^k)
  (fun s=>match s.tmp 13 with | .sv (.int _ i)=>a.length+1-i.toNat|_=>0) ?_ ?_
 ·exact⟨rfl,rfl,[],0,rfl,by rw[List.append_nil];rfl,rfl,rfl,okL_nil,by simp,Nat.pow_pos (by omega),by rw[List.length_nil,List.take_zero,wth_nil,Nat.zero_mul,Nat.mul_zero]⟩
 clear e1 e2
 rintro s' ⟨i5,i11,c,low,i10,iO,i12,i13,hc,hcl,hlow,hv⟩
 have hDl:2^k<=2147483648:=Nat.pow_le_pow_right (n:=2) (by omega) (show k<=31 by omega)
 by_cases hend:c.length=a.length+1
 ·have hfin:wth (List.replicate w 0++c)=wth a*(4294967296^w*2^k):=by
   rw[wth_append,wth_replicate,Nat.zero_add,List.length_replicate,Nat.mul_left_comm]
   congr 1
   rw[hend,List.take_of_length_le (by omega)]at hv
   rcases Nat.eq_zero_or_pos low with rfl|h0
   ·rw[Nat.mul_zero,Nat.add_zero]at hv;exact hv
   ·exfalso
    have h1:=wth_lt ha
    have h2:wth a*2^k<4294967296^a.length*4294967296:=Nat.lt_of_lt_of_le (Nat.mul_lt_mul_of_pos_right h1 (Nat.pow_pos (by omega))) (Nat.mul_le_mul_left _ (by omega))
    have h3:4294967296^(a.length+1)*1<=4294967296^(a.length+1)*low:=Nat.mul_le_mul_left _ h0
    rw[Nat.pow_succ]at h3 hv
    generalize 4294967296^a.length*4294967296=P at *
    omega
  have hrl:(List.replicate w 0++c).length=w+c.length:=by rw[List.length_append,List.length_replicate]
  have hro:okL (List.replicate w 0++c):=okL_append.2 ⟨okL_replicate _,hc⟩
  clear hv hc
  generalize List.replicate w 0++c=r at *
  repeat (first|simp only[go_sem,i5,i11,i10,iO,i12,i13]|simp (disch:=first|exact oa|fail) only[AX,i5,i11,i10,iO,i12,i13]|refine wki ?_|refine wqn ?_|refine vpx [] ?_)
  refine vf_of (fn_natV (ref1_Trim r hro (by omega)) hrl) ?_;repeat (first|simp only[go_sem,i5,i11,i10,iO,i12,i13]|simp (disch:=first|exact oa|fail) only[AX,i5,i11,i10,iO,i12,i13]|refine wki ?_|refine wqn ?_|refine vpx [] ?_)
  rw[hfin]
 ·have h1:=getD_lt ha c.length
  have ht:=wth_take_succ a c.length
  have hor:=or_low2 (a.getD c.length 0) low hlow
  obtain⟨g1,g2,g3⟩:=shl_limb hk h1 hlow
  generalize hvv:a.getD c.length 0=v at *
  have hv' : ∀z,z=(v*2^k+low)%4294967296->wth (c++[z])+4294967296^(c++[z]).length*(v*2^k/4294967296)=wth (a.take (c++[z]).length)*2^k:=by
   intro z hz
   rw[List.length_append,List.length_singleton,wth_snoc,ht,Nat.add_mul,<- hv,hz,Nat.pow_succ,Nat.mul_assoc (4294967296^c.length) 4294967296,Nat.add_assoc,<- Nat.mul_add,g2,Nat.mul_add,Nat.mul_assoc]
   omega
  have hj:bitsSV .or .u64 ((v*2^k:Nat):Int) (low:Int)=some (.int .u64 ((v*2^k+low:Nat):Int)):=by
   rw[b_or64 (by omega) (by omega),hor]
  have hw64:v*2^k%18446744073709551616=v*2^k:=Nat.mod_eq_of_lt (by omega)
  clear hv ht hpow
  have hk64:min k 64=k:=by omega
  repeat (first|simp only[go_sem,i5,i11,i10,iO,i12,i13,N0]|simp (disch:=first|exact oa|fail) only[AX,i5,i11,i10,iO,i12,i13,N0]|refine wki ?_|refine wqn ?_|refine vpx [] ?_)
  refine vf_of (ref1_at a c.length ha (by omega) (by omega)) ?_;repeat (first|simp only[go_sem,i5,i11,i10,iO,i12,i13,N0,hvv,hj,hw64,hk64]|simp (disch:=first|exact oa|fail) only[AX,i5,i11,i10,iO,i12,i13,N0,hvv,hj,hw64,hk64]|refine wki ?_|refine wqn ?_|refine vpx [] ?_)
  have hz:(v*2^k+low)%4294967296<4294967296:=Nat.mod_lt _ (by omega)
  refine⟨⟨c++[(v*2^k+low)%4294967296],v*2^k/4294967296,by rw[List.length_append];rfl,by rw[<- List.append_assoc,List.map_append (l₂:=[_])];rfl,rfl,by rw[List.length_append];rfl,okL_append.2 ⟨hc,okL_cons.2 ⟨hz,okL_nil⟩⟩,by rw[List.length_append,List.length_singleton];omega,g3,hv' _ rfl⟩,by omega⟩
end Go.Proofs.YtjphnjffglapgaaGreatDoor
namespace Go.Proofs.YtjphnjffglapgaaGreatDoor
open Go.Ev
theorem wth_at (xs:List Nat) {w:Nat} (h:w<xs.length):wth xs=wth (xs.take w)+4294967296^w*(xs.getD w 0+4294967296*wth (xs.drop (w+1))):=by
 conv=>lhs;rw[<- List.take_append_drop w xs,wth_append]
 rw[List.length_take,Nat.min_eq_left (by omega),wth_drop h]
theorem wth_set_add (q:List Nat) {w:Nat} (h:w<q.length) (e:Nat):wth (q.set w (q.getD w 0+e))=wth q+4294967296^w*e:=by
 have h1:=wth_at (q.set w (q.getD w 0+e)) (w:=w) (by rw[List.length_set];exact h)
 rw[getD_set_self h,List.drop_set_of_lt (by omega),List.take_set_of_le (Nat.le_refl _)]at h1
 rw[h1,wth_at q h]
 generalize 4294967296*wth (q.drop (w+1))=D
 rw[Nat.mul_add,Nat.mul_add,Nat.mul_add]
 omega
theorem pow_32 (J:Nat):2^J=4294967296^(J/32)*2^(J%32):=by
 rw[show (4294967296:Nat)=2^32 by rfl,<- Nat.pow_mul,<- Nat.pow_add,Nat.div_add_mod]
theorem wth_shr (xs:List Nat) (hx:okL xs) {w:Nat} (h:w<xs.length):wth xs/4294967296^w=xs.getD w 0+4294967296*wth (xs.drop (w+1)):=by
 rw[wth_at xs h,Nat.add_comm,Nat.mul_add_div (Nat.pow_pos (by omega)),Nat.div_eq_of_lt (wth_low hx w),Nat.add_zero]
theorem bit_get (xs:List Nat) (hx:okL xs) (J:Nat) (h:J/32<xs.length):xs.getD (J/32) 0/2^(J%32)%2=wth xs/2^J%2:=by
 rw[pow_32 J,<- Nat.div_div_eq_div_mul,wth_shr xs hx h]
 have hk:J%32<32:=Nat.mod_lt _ (by omega)
 generalize wth (xs.drop (J/32+1))=Z
 generalize xs.getD (J/32) 0=x
 generalize J%32=j at *
 have e:x+4294967296*Z=x+2^j*(2*(2^(31-j)*Z)):=by
  rw[<- Nat.mul_assoc 2,<- Nat.pow_succ',<- Nat.mul_assoc,show (31-j).succ=32-j by omega,pow_split hk]
 rw[e,Nat.add_mul_div_left _ _ (Nat.pow_pos (by omega)),Nat.add_mul_mod_self_left]
theorem bit_set (q:List Nat) (hq:okL q) (J Q:Nat) (h:J/32<q.length) (hv:wth q=Q*2^(J+1)) :
  q.getD (J/32) 0 |||2^(J%32)=q.getD (J/32) 0+2^(J%32)/\q.getD (J/32) 0+2^(J%32)<4294967296/\wth (q.set (J/32) (q.getD (J/32) 0+2^(J%32)))=(2*Q+1)*2^J:=by
 have hk:J%32<32:=Nat.mod_lt _ (by omega)
 have h1:q.getD (J/32) 0=(Q*2^(J%32+1))%4294967296:=by
  have h2:=wth_shr q hq h
  rw[hv,Nat.pow_succ,pow_32 J,Nat.mul_assoc,Nat.mul_left_comm,Nat.mul_div_cancel_left _ (Nat.pow_pos (by omega)),<- Nat.pow_succ]at h2
  rw[h2,Nat.add_mul_mod_self_left,Nat.mod_eq_of_lt (getD_lt hq _)]
 have h3:q.getD (J/32) 0=2^(J%32+1)*(Q%2^(31-J%32)):=by
  rw[h1,show (4294967296:Nat)=2^(J%32+1)*2^(31-J%32) by rw[<- Nat.pow_add,show J%32+1+(31-J%32)=32 by omega],Nat.mul_comm Q,Nat.mul_mod_mul_left]
 refine⟨?_,?_,?_⟩
 ·rw[h3]
  exact(Nat.two_pow_add_eq_or_of_lt (Nat.pow_lt_pow_right (by omega) (by omega)) _).symm
 ·have h4:Q%2^(31-J%32)+1<=2^(31-J%32):=Nat.mod_lt _ (Nat.pow_pos (by omega))
  have h5:2^(J%32+1)*(Q%2^(31-J%32)+1)<=2^(J%32+1)*2^(31-J%32):=Nat.mul_le_mul_left _ h4
  rw[<- Nat.pow_add,show J%32+1+(31-J%32)=32 by omega,Nat.mul_add,Nat.mul_one,<- h3]at h5
  have h6:0<2^(J%32):=Nat.pow_pos (by omega)
  have h7:2^(J%32+1)=2^(J%32)+2^(J%32):=by rw[Nat.pow_succ];omega
  have h8:(2:Nat)^32=4294967296:=rfl
  omega
 ·rw[wth_set_add q h,hv,<- pow_32 J,Nat.pow_succ,Nat.add_mul,Nat.one_mul,Nat.mul_comm (2^J) 2,<- Nat.mul_assoc,Nat.mul_comm Q 2]
theorem bit_step {X y J r b:Nat} (hy:0<y) (hr:r=X/2^(J+1)%y) (hb:b=X/2^J%2) :
  X/2^J%y=(if y<=r*2+b then r*2+b-y else r*2+b)/\X/2^J/y=2*(X/2^(J+1)/y)+(if y<=r*2+b then 1 else 0):=by
 have e1:X/2^J=2*(X/2^(J+1))+b:=by
  rw[Nat.pow_succ,<- Nat.div_div_eq_div_mul,hb,Nat.add_comm,Nat.mod_add_div]
 have e2:=Nat.div_add_mod (X/2^(J+1)) y
 rw[<- hr]at e2
 generalize X/2^(J+1)/y=Q at *
 have hr':r<y:=by rw[hr];exact Nat.mod_lt _ hy
 have hb':b<2:=by rw[hb];exact Nat.mod_lt _ (by omega)
 clear hr hb
 have e3:X/2^J=y*(2*Q)+(r*2+b):=by
  rw[e1,<- e2,Nat.mul_add,Nat.mul_left_comm]
  omega
 generalize X/2^J=A at *
 subst e3
 split
 ·rename_i h
  have e4:y*(2*Q)+(r*2+b)=y*(2*Q+1)+(r*2+b-y):=by rw[Nat.mul_add,Nat.mul_one];omega
  rw[e4,Nat.mul_add_mod,Nat.mul_add_div hy,Nat.mod_eq_of_lt (by omega),Nat.div_eq_of_lt (by omega),Nat.add_zero]
  exact⟨rfl,rfl⟩
 ·rename_i h
  rw[Nat.mul_add_mod,Nat.mul_add_div hy,Nat.mod_eq_of_lt (by omega),Nat.div_eq_of_lt (by omega)]
  exact⟨rfl,rfl⟩
theorem and_one (x:Nat):x &&& 1=x%2:=Nat.and_two_pow_sub_one_eq_mod x 1
set_option maxHeartbeats 4000000 in
theorem ref1_DivMod (xs ys:List Nat) (hx:okL xs) (hy:okL ys) (hl:xs.length<=16777216) (hm:ys.length<=16777216) :
  Go.Ev.Fn CX 49 [natV xs,natV ys] (.tup [natV (lim (wth xs/wth ys)),natV (lim (remN (wth xs) (wth ys))),.bool (decide (wth ys≠0))]):=by
 refine fni Tryz.f49 ?_;unfold Tryz.f49;simp only[Option.get!_some]
 have hTo:=ref1_To xs hx (by omega)
 have hTo2:=ref1_To ys hy (by omega)
 have hsm:=ref1_small xs (wth ys) hx (by omega)
 generalize hX:wth xs=X at *
 generalize hY:wth ys=Y at *
 repeat (first|simp only[go_sem]|simp (disch:=first|exact oa|fail) only[AX]|refine wki ?_|refine wqn ?_|refine vpx [] ?_)
 refine vf_of (ref1_Trim ys hy (by omega)) ?_;repeat (first|simp only[go_sem]|simp (disch:=first|exact oa|fail) only[AX]|refine wki ?_|refine wqn ?_|refine vpx [] ?_)
 rw[hY]
 rcases Nat.eq_zero_or_pos Y with h0|h0
 ·subst h0
  rw[lim_zero,Nat.div_zero,lim_zero,show remN X 0=0 by rfl,lim_zero]
  repeat (first|simp only[go_sem]|simp (disch:=first|exact oa|fail) only[AX]|refine wki ?_|refine wqn ?_|refine vpx [] ?_)
  rfl
 have e0:remN X Y=X%Y:=if_neg (by omega)
 have e1:decide (Y≠0)=true:=decide_eq_true (by omega)
 have hn0:0<(lim Y).length:=List.length_pos_iff.2 (fun h=>by have:=lim_eq_nil.1 h;omega)
 rw[e0,e1]
 repeat (first|simp only[go_sem]|simp (disch:=first|exact oa|fail) only[AX]|refine wki ?_|refine wqn ?_|refine vpx [] ?_|refine vf_of (by first|exact hTo|exact hTo2) ?_)
 by_cases hX2:X<18446744073709551616/\Y<18446744073709551616
 ·obtain⟨hX3,hY3⟩:=hX2
  have hq:X/Y<18446744073709551616:=Nat.lt_of_le_of_lt (Nat.div_le_self _ _) hX3
  have hr:X%Y<18446744073709551616:=Nat.lt_trans (Nat.mod_lt _ h0) hY3
  have hY4:Y≠0:=by omega
  rw[if_pos hX3,if_pos hY3,decide_eq_true hX3,decide_eq_true hY3]
  have oQ:=ref1_Of (X/Y) hq
  have oR:=ref1_Of (X%Y) hr
  have hqm:X/Y%18446744073709551616=X/Y:=Nat.mod_eq_of_lt hq
  repeat (first|simp only[go_sem,hqm]|simp (disch:=first|exact oa|fail) only[AX,hqm]|refine wki ?_|refine wqn ?_|refine vpx [] ?_|refine vf_of (by first|exact oQ|exact oR) ?_)
 ·have hdec:(decide (X<18446744073709551616)&&decide (Y<18446744073709551616))=false:=by
   rw[<- Bool.decide_and];exact decide_eq_false hX2
  by_cases hY1:Y<4294967296
  ·have hY3:Y<18446744073709551616:=by omega
   have hX3 : ¬X<18446744073709551616:=fun h=>hX2 ⟨h,hY3⟩
   have hr:X%Y<18446744073709551616:=Nat.lt_trans (Nat.mod_lt _ h0) hY3
   have hsm:=hsm h0 hY1
   have oR:=ref1_Of (X%Y) hr
   rw[if_pos hY3,if_neg hX3,decide_eq_true hY3,decide_eq_false hX3]
   repeat (first|simp only[go_sem]|simp (disch:=first|exact oa|fail) only[AX]|refine wki ?_|refine wqn ?_|refine vpx [] ?_|refine vf_of (by first|exact hsm|exact oR) ?_)
  ·clear hsm hTo hTo2
   have hcases:(¬X<18446744073709551616/\Y<18446744073709551616)\/(X<18446744073709551616 /\ ¬Y<18446744073709551616)\/(¬X<18446744073709551616 /\ ¬Y<18446744073709551616):=by omega
   rcases hcases with⟨hX3,hY3⟩|⟨hX3,hY3⟩|⟨hX3,hY3⟩
   all_goals
    simp only[hX3,hY3,if_true,if_false,decide_true,decide_false]
    repeat (first|simp only[go_sem]|simp (disch:=first|exact oa|fail) only[AX]|refine wki ?_|refine wqn ?_)
    refine vp_loop_inv (fun s=>s.tmp 0 = .sv (natV xs)/\s.tmp 1 = .sv (natV ys)/\s.tmp 13 = .ref 58 0 1 0 xs.length /\ ∃q:List Nat,∃I R:Nat,s.obj 58 0=some (q.map limb)/\s.tmp 15 = .sv (.int .i64 ((I:Int)-1))/\((s.tmp 14 = .nil/\R=0)\/s.tmp 14 = .sv (natV (lim R))) /\
      q.length=xs.length/\okL q/\I<=32*xs.length/\R=X/2^I%Y/\wth q=X/2^I/Y*2^I)
     (fun s=>match s.tmp 15 with | .sv (.int _ i)=>(i+1).toNat|_=>0) ?_ ?_
    ·have hXlt:=wth_lt hx
     rw[hX]at hXlt
     have h32:(4294967296:Nat)^xs.length=2^(32*xs.length):=by rw[Nat.pow_mul]
     rw[h32]at hXlt
     refine⟨rfl,rfl,rfl,List.replicate xs.length 0,32*xs.length,0,rfl,rfl,.inl ⟨rfl,rfl⟩,List.length_replicate ..,okL_replicate _,Nat.le_refl _,?_,?_⟩
     ·rw[Nat.div_eq_of_lt hXlt,Nat.zero_mod]
     ·rw[Nat.div_eq_of_lt hXlt,Nat.zero_div,Nat.zero_mul,wth_replicate]
    rintro s ⟨i0,i1,i13,q,I,R,iO,i15,hR,hql,hqk,hI,hRv,hqv⟩
    rcases Nat.eq_zero_or_pos I with rfl|hI0
    ·rw[Nat.pow_zero,Nat.div_one]at hRv hqv
     rw[Nat.mul_one]at hqv
     subst hRv
     rcases hR with⟨i14,hR0⟩|i14
     ·repeat (first|simp only[go_sem,i0,i1,i13,iO,i15,i14]|simp (disch:=first|exact oa|fail) only[AX,i0,i1,i13,iO,i15,i14]|refine wki ?_|refine wqn ?_|refine vpx [] ?_)
      refine vf_of (fn_natV (ref1_Trim q hqk (by omega)) hql) ?_;repeat (first|simp only[go_sem,i0,i1,i13,iO,i15,i14]|simp (disch:=first|exact oa|fail) only[AX,i0,i1,i13,iO,i15,i14]|refine wki ?_|refine wqn ?_|refine vpx [] ?_)
      refine vf_of (ref1_Trim [] okL_nil (by simp)) ?_;repeat (first|simp only[go_sem,i0,i1,i13,iO,i15,i14]|simp (disch:=first|exact oa|fail) only[AX,i0,i1,i13,iO,i15,i14]|refine wki ?_|refine wqn ?_|refine vpx [] ?_)
      rw[hqv,hR0,lim_zero,wth_nil,lim_zero]
      exact⟨rfl,rfl⟩
     ·have hRl:(lim (X%Y)).length<=ys.length:=by
       have h1:(lim Y).length<=ys.length:=by rw[<- hY];exact lim_length_le hy
       have h2:=Nat.mod_lt X h0
       have h3:=trimL_length (okL_lim (X%Y)) (okL_lim Y) (trimL_lim _) (by rw[wth_lim,wth_lim];omega)
       omega
      repeat (first|simp only[go_sem,i0,i1,i13,iO,i15,i14]|simp (disch:=first|exact oa|fail) only[AX,i0,i1,i13,iO,i15,i14]|refine wki ?_|refine wqn ?_|refine vpx [] ?_)
      refine vf_of (fn_natV (ref1_Trim q hqk (by omega)) hql) ?_;repeat (first|simp only[go_sem,i0,i1,i13,iO,i15,i14]|simp (disch:=first|exact oa|fail) only[AX,i0,i1,i13,iO,i15,i14]|refine wki ?_|refine wqn ?_|refine vpx [] ?_)
      refine vf_of (ref1_Trim (lim (X%Y)) (okL_lim _) (by omega)) ?_;repeat (first|simp only[go_sem,i0,i1,i13,iO,i15,i14]|simp (disch:=first|exact oa|fail) only[AX,i0,i1,i13,iO,i15,i14]|refine wki ?_|refine wqn ?_|refine vpx [] ?_)
      rw[hqv,wth_lim]
      exact⟨rfl,rfl⟩
    ·obtain⟨J,rfl⟩ : ∃J,I=J+1:=⟨I-1,by omega⟩
     have h5:((J+1:Nat):Int)-1=(J:Int):=by omega
     rw[h5]at i15
     have hRY:R<Y:=by rw[hRv];exact Nat.mod_lt _ h0
     have hlY:(lim Y).length<=ys.length:=by rw[<- hY];exact lim_length_le hy
     have hRl:(lim R).length<=(lim Y).length:=trimL_length (okL_lim _) (okL_lim _) (trimL_lim _) (by rw[wth_lim,wth_lim];omega)
     have hS:=ref1_shift_up (lim R) 1 (okL_lim R) (by omega) 1 rfl (by omega)
     rw[wth_lim,Nat.pow_one]at hS
     have hlen : ∀z,z<=R*2+1->(lim z).length<=ys.length+1:=by
      intro z hz
      have h1:=trimL_length (xs:=lim z) (ys:=0::lim Y) (okL_lim _) (okL_cons.2 ⟨by omega,okL_lim _⟩) (trimL_lim _) (by rw[wth_cons,wth_lim,wth_lim];omega)
      rw[List.length_cons]at h1
      omega
     have hw:J/32<xs.length:=by omega
     have hbg:=bit_get xs hx J hw
     have hbs:=bit_set q hqk J (X/2^(J+1)/Y) (by omega) hqv
     rw[hX]at hbg
     obtain⟨hst1,hst2⟩:=bit_step h0 hRv rfl
     have hb2:X/2^J%2<2:=Nat.mod_lt _ (by omega)
     have hx1:=getD_lt hx (J/32)
     have hq1:=getD_lt hqk (J/32)
     have hj:J%32<32:=Nat.mod_lt _ (by omega)
     generalize hB:X/2^J%2=B at *
     generalize hxw:xs.getD (J/32) 0=x at *
     have hxj:x/2^(J%32)<4294967296:=Nat.lt_of_le_of_lt (Nat.div_le_self _ _) hx1
     have hand:bitsSV .and .u32 ((x/2^(J%32):Nat):Int) 1=some (.int .u32 (B:Int)):=by
      have:=b_and32 (a:=x/2^(J%32)) (b:=1) hxj (by omega)
      rw[and_one,hbg]at this
      exact this
     have hmin:min (J%32) 32=J%32:=Nat.min_eq_left (by omega)
     clear hbg hRv hI0
     rcases hR with⟨i14,hR0⟩|i14
     all_goals (first|(have hR1:lim R=[]:=by rw[hR0,lim_zero]);rw[hR1]at hS|skip)
     all_goals
      repeat (first|simp only[go_sem,i0,i1,i13,iO,i15,i14,tdiv32,tmod32,hxw,hmin,hand]|simp (disch:=first|exact oa|fail) only[AX,i0,i1,i13,iO,i15,i14,tdiv32,tmod32,hxw,hmin,hand]|refine wki ?_|refine wqn ?_|refine vpx [] ?_|refine vf_of (by first|exact hS) ?_)
      refine vc_cut (Mid:=fun s'=>s'.tmp 0 = .sv (natV xs)/\s'.tmp 1 = .sv (natV ys)/\s'.tmp 13 = .ref 58 0 1 0 xs.length/\s'.obj 58 0=some (q.map limb)/\s'.tmp 15 = .sv (.int .i64 (J:Int))/\s'.tmp 14 = .sv (natV (lim (R*2+B)))) ?_ ?_
      ·have hB01:B=0\/B=1:=by omega
       rcases hB01 with hB0|hB1
       ·have hbq:((B:Int)==1)=false:=beqF (by omega)
        repeat (first|simp only[go_sem,i0,i1,i13,iO,i15,i14,hbq]|simp (disch:=first|exact oa|fail) only[AX,i0,i1,i13,iO,i15,i14,hbq]|refine wki ?_|refine wqn ?_|refine vpx [] ?_)
        rw[hB0,Nat.add_zero]
       ·have hbq:((B:Int)==1)=true:=beqT (by omega)
        have hA:=ref1_Add (lim (R*2)) [1] (okL_lim _) (by simp[okL]) (by have:=hlen (R*2) (by omega);omega) (by simp)
        rw[wth_lim,show wth [1]=B by rw[hB1];rfl]at hA
        repeat (first|simp only[go_sem,i0,i1,i13,iO,i15,i14,hbq]|simp (disch:=first|exact oa|fail) only[AX,i0,i1,i13,iO,i15,i14,hbq]|refine wki ?_|refine wqn ?_|refine vpx [] ?_|refine vf_of (by first|exact hA) ?_)
      rintro s' ⟨j0,j1,j13,jO,j15,j14⟩
      have hrl:=hlen (R*2+B) (by omega)
      have hC:=ref1_Cmp (lim (R*2+B)) ys (okL_lim _) hy (by omega) (by omega)
      have hSb:=ref1_Sub (lim (R*2+B)) ys (okL_lim _) hy (by omega) (by omega)
      rw[wth_lim,hY]at hC hSb
      clear hlen hrl hS hand
      by_cases hYR:Y<=R*2+B
      ·have hc:decide (cmpN (R*2+B) Y>=0)=true:=by
        have:=cmpN_ge hYR
        rw[decide_eq_false_iff_not]at this
        exact decide_eq_true (by omega)
       rw[if_pos hYR]at hst1 hst2
       obtain⟨hb1,hb3,hb4⟩:=hbs
       have hp2:2^(J%32)<4294967296:=show 2^(J%32)<2^32 from Nat.pow_lt_pow_right (by omega) hj
       have hsh:IntKind.u32.wrap (1*((2^(J%32):Nat):Int))=((2^(J%32):Nat):Int):=by rw[Int.one_mul,u32_nat,Nat.mod_eq_of_lt hp2]
       first|(exfalso;omega)|skip
       all_goals
        repeat (first|simp only[go_sem,j0,j1,j13,jO,j15,j14,hc,tdiv32,tmod32,hmin,hsh,hb1]|simp (disch:=first|exact oa|fail) only[AX,j0,j1,j13,jO,j15,j14,hc,tdiv32,tmod32,hmin,hsh,hb1]|refine wki ?_|refine wqn ?_|refine vpx [] ?_|refine vf_of (by first|exact hC|exact hSb) ?_)
        refine⟨⟨q.set (J/32) (q.getD (J/32) 0+2^(J%32)),J,R*2+B-Y,rfl,rfl,.inr rfl,by rw[List.length_set];exact hql,okL_set hqk _ _ hb3,by omega,hst1.symm,?_⟩,by omega⟩
        rw[hb4,hst2]
      ·have hc:decide (cmpN (R*2+B) Y>=0)=false:=by
        rw[cmpN_lt (by omega)];rfl
       rw[if_neg hYR]at hst1 hst2
       repeat (first|simp only[go_sem,j0,j1,j13,jO,j15,j14,hc]|simp (disch:=first|exact oa|fail) only[AX,j0,j1,j13,jO,j15,j14,hc]|refine wki ?_|refine wqn ?_|refine vpx [] ?_|refine vf_of (by first|exact hC) ?_)
       refine⟨⟨q,J,R*2+B,rfl,rfl,.inr rfl,hql,hqk,by omega,hst1.symm,?_⟩,by omega⟩
       rw[hqv,hst2]
       show X/2^(J+1)/Y*2^(J+1)=2*(X/2^(J+1)/Y)*2^J
       generalize X/2^(J+1)/Y=Qv
       rw[Nat.pow_succ',<- Nat.mul_assoc,Nat.mul_comm Qv]
theorem ref1_Gcd (xs ys:List Nat) (hx:okL xs) (hy:okL ys) (hl:xs.length<=16777216) (hm:ys.length<=16777216) :
  Go.Ev.Fn CX 48 [natV xs,natV ys] (natV (lim (Nat.gcd (wth xs) (wth ys)))):=by
 refine fni Tryz.f48 ?_;unfold Tryz.f48;simp only[Option.get!_some]
 have lx:=lim_length_le hx
 have ly:=lim_length_le hy
 repeat (first|simp only[go_sem]|simp (disch:=first|exact oa|fail) only[AX]|refine wki ?_|refine wqn ?_|refine vpx [] ?_)
 refine vf_of (ref1_Trim xs hx (by omega)) ?_;repeat (first|simp only[go_sem]|simp (disch:=first|exact oa|fail) only[AX]|refine wki ?_|refine wqn ?_|refine vpx [] ?_)
 refine vf_of (ref1_Trim ys hy (by omega)) ?_;repeat (first|simp only[go_sem]|simp (disch:=first|exact oa|fail) only[AX]|refine wki ?_|refine wqn ?_|refine vpx [] ?_)
 refine vp_loop_inv (fun s => ∃a b:Nat,s.tmp 5 = .sv (natV (lim a))/\s.tmp 6 = .sv (natV (lim b))/\(lim a).length<=16777216/\(lim b).length<=16777216/\Nat.gcd a b=Nat.gcd (wth xs) (wth ys))
  (fun s=>match s.tmp 6 with | .sv (.sl _ cs)=>(match decL cs with|some l=>wth l|none=>0)|_=>0) ⟨_,_,rfl,rfl,by omega,by omega,rfl⟩ ?_
 rintro s ⟨a,b,i0,i1,la,lb,hg⟩
 by_cases hb:b=0
 ·subst hb
  rw[lim_zero]at i1
  rw[<- hg,Nat.gcd_zero_right]
  repeat (first|simp only[go_sem,i0,i1]|simp (disch:=first|exact oa|fail) only[AX,i0,i1]|refine wki ?_|refine wqn ?_|refine vpx [] ?_)
 ·have h1:0<(lim b).length:=List.length_pos_iff.2 (fun h=>hb (lim_eq_nil.1 h))
  repeat (first|simp only[go_sem,i0,i1]|simp (disch:=first|exact oa|fail) only[AX,i0,i1]|refine wki ?_|refine wqn ?_|refine vpx [] ?_)
  refine vf_of (ref1_DivMod (lim a) (lim b) (okL_lim a) (okL_lim b) la lb) ?_;repeat (first|simp only[go_sem,i0,i1]|simp (disch:=first|exact oa|fail) only[AX,i0,i1]|refine wki ?_|refine wqn ?_|refine vpx [] ?_)
  have e1:remN (wth (lim a)) (wth (lim b))=a%b:=by rw[wth_lim,wth_lim];exact if_neg hb
  rw[e1,decL_map (okL_lim _),decL_map (okL_lim _)]
  dsimp only
  rw[wth_lim,wth_lim]
  have h2:a%b<b:=Nat.mod_lt _ (by omega)
  have h3:=trimL_length (okL_lim (a%b)) (okL_lim b) (trimL_lim _) (by rw[wth_lim,wth_lim];omega)
  refine⟨⟨b,a%b,rfl,rfl,lb,by omega,?_⟩,h2⟩
  rw[<- hg,Nat.gcd_comm b,<- Nat.gcd_rec,Nat.gcd_comm]
end Go.Proofs.YtjphnjffglapgaaGreatDoor
namespace Go.Proofs.YtjphnjffglapgaaGreatDoor
open Go.Ev
attribute [go_sem] List.head?_cons List.head?_nil
theorem nat_GcdL {N D:Nat} (hl:(lim N).length<=536870912) (hm:(lim D).length<=536870912):Go.Ev.Fn CX 112 [natV (lim N),natV (lim D)] (natV (lim (N.gcd D))):=by
 have h:=nat_Gcd (lim N) (lim D) (okL_lim _) (okL_lim _) hl hm
 rwa [wth_lim,wth_lim]at h
theorem nat_DivL {N D:Nat} (hD:D≠0) (hl:(lim N).length<=536870912) (hm:(lim D).length<=536870912):Go.Ev.Fn CX 113 [natV (lim N),natV (lim D)] (.tup [natV (lim (N/D)),natV (lim (N%D)),.bool true]):=by
 have h:=nat_DivMod (lim N) (lim D) (okL_lim _) (okL_lim _) hl hm
 rwa [wth_lim,wth_lim,show remN N D=N%D from if_neg hD,decide_eq_true hD]at h
theorem nat_MulL {N D:Nat} (hl:(lim N).length<=536870912) (hm:(lim D).length<=536870912):Go.Ev.Fn CX 103 [natV (lim N),natV (lim D)] (natV (lim (N*D))):=by
 have h:=nat_Mul (lim N) (lim D) (okL_lim _) (okL_lim _) (by omega) (by omega)
 rwa [wth_lim,wth_lim]at h
theorem nat_AddL {N D:Nat} (hl:(lim N).length<=536870912) (hm:(lim D).length<=536870912):Go.Ev.Fn CX 125 [natV (lim N),natV (lim D)] (natV (lim (N+D))):=by
 have h:=nat_Add (lim N) (lim D) (okL_lim _) (okL_lim _) (by omega) (by omega)
 rwa [wth_lim,wth_lim]at h
theorem ref1_GcdL {N D:Nat} (hl:(lim N).length<=16777216) (hm:(lim D).length<=16777216):Go.Ev.Fn CX 48 [natV (lim N),natV (lim D)] (natV (lim (N.gcd D))):=by
 have h:=ref1_Gcd (lim N) (lim D) (okL_lim _) (okL_lim _) hl hm
 rwa [wth_lim,wth_lim]at h
theorem ref1_DivL {N D:Nat} (hD:D≠0) (hl:(lim N).length<=16777216) (hm:(lim D).length<=16777216):Go.Ev.Fn CX 49 [natV (lim N),natV (lim D)] (.tup [natV (lim (N/D)),natV (lim (N%D)),.bool true]):=by
 have h:=ref1_DivMod (lim N) (lim D) (okL_lim _) (okL_lim _) hl hm
 rwa [wth_lim,wth_lim,show remN N D=N%D from if_neg hD,decide_eq_true hD]at h
theorem ref1_MulL {N D:Nat} (hl:(lim N).length<=16777216) (hm:(lim D).length<=16777216):Go.Ev.Fn CX 107 [natV (lim N),natV (lim D)] (natV (lim (N*D))):=by
 have h:=ref1_Mul (lim N) (lim D) (okL_lim _) (okL_lim _) (by omega) (by omega)
 rwa [wth_lim,wth_lim]at h
theorem ref1_AddL {N D:Nat} (hl:(lim N).length<=16777216) (hm:(lim D).length<=16777216):Go.Ev.Fn CX 83 [natV (lim N),natV (lim D)] (natV (lim (N+D))):=by
 have h:=ref1_Add (lim N) (lim D) (okL_lim _) (okL_lim _) (by omega) (by omega)
 rwa [wth_lim,wth_lim]at h
theorem lim_pos {N:Nat} (h:N≠0):0<(lim N).length:=List.length_pos_iff.2 (fun e=>h (lim_eq_nil.1 e))
theorem rat_Of (s:Bool) (n d:List Nat) (hn:okL n) (hd:okL d) (hl:n.length<=536870912) (hm:d.length<=536870912) :
  Go.Ev.Fn CX 79 [.bool s,natV n,natV d] (rv (mkRat (sgn s (wth n)) (wth d))):=by
 refine fni Tryz.f79 ?_;unfold Tryz.f79;simp only[Option.get!_some]
 have lx:=lim_length_le hn
 have ly:=lim_length_le hd
 repeat (first|simp only[go_sem]|simp (disch:=first|exact oa|fail) only[AX]|refine wki ?_|refine wqn ?_|refine vpx [] ?_)
 refine vf_of (nat_Trim n hn (by omega)) ?_;repeat (first|simp only[go_sem]|simp (disch:=first|exact oa|fail) only[AX]|refine wki ?_|refine wqn ?_|refine vpx [] ?_)
 refine vf_of (nat_Trim d hd (by omega)) ?_;repeat (first|simp only[go_sem]|simp (disch:=first|exact oa|fail) only[AX]|refine wki ?_|refine wqn ?_|refine vpx [] ?_)
 generalize wth n=N at *
 generalize wth d=D at *
 have oN:=okL_lim N
 have oD:=okL_lim D
 by_cases h:N=0\/D=0
 ·rw[mk_zero s h,rv_zero]
  have o1:=nat_Of 1 (by omega)
  rw[lim_one]at o1
  by_cases hN:N=0
  ·have h0:(lim N).length=0:=by rw[hN,lim_zero];rfl
   repeat (first|simp only[go_sem]|simp (disch:=first|exact oa|fail) only[AX]|refine wki ?_|refine wqn ?_|refine vpx [] ?_|refine vf_of (by first|exact o1) ?_)
   rfl
  ·have h0:(lim D).length=0:=by rw[h.resolve_left hN,lim_zero];rfl
   have h1:=lim_pos hN
   repeat (first|simp only[go_sem]|simp (disch:=first|exact oa|fail) only[AX]|refine wki ?_|refine wqn ?_|refine vpx [] ?_|refine vf_of (by first|exact o1) ?_)
   rfl
 ·have hN:N≠0:=fun e=>h (.inl e)
  have hD:D≠0:=fun e=>h (.inr e)
  rw[mk_parts s hN hD]
  have h1:=lim_pos hN
  have h2:=lim_pos hD
  have hg:N.gcd D≠0:=Nat.ne_of_gt (Nat.gcd_pos_of_pos_left _ (by omega))
  have h3:=lim_len_mono (Nat.gcd_le_left D (by omega:0<N))
  repeat (first|simp only[go_sem]|simp (disch:=first|exact oa|fail) only[AX]|refine wki ?_|refine wqn ?_|refine vpx [] ?_)
  refine vf_of (nat_GcdL (by omega) (by omega)) ?_;repeat (first|simp only[go_sem]|simp (disch:=first|exact oa|fail) only[AX]|refine wki ?_|refine wqn ?_|refine vpx [] ?_)
  refine vf_of (nat_DivL hg (by omega) (by omega)) ?_;repeat (first|simp only[go_sem]|simp (disch:=first|exact oa|fail) only[AX]|refine wki ?_|refine wqn ?_|refine vpx [] ?_)
  refine vf_of (nat_DivL hg (by omega) (by omega)) ?_;repeat (first|simp only[go_sem]|simp (disch:=first|exact oa|fail) only[AX]|refine wki ?_|refine wqn ?_|refine vpx [] ?_)
theorem rat_Norm {v:SV} {q:Rat} {L:Nat} (h:RatA v q L) (hL:L<=536870912):Go.Ev.Fn CX 46 [v] (rv q):=by
 obtain⟨s,n,d,rfl,hn,hd,hl,hm,rfl⟩:=h
 refine fni Tryz.f46 ?_;unfold Tryz.f46;simp only[Option.get!_some]
 repeat (first|simp only[go_sem]|simp (disch:=first|exact oa|fail) only[AX]|refine wki ?_|refine wqn ?_|refine vpx [] ?_)
 refine vf_of (rat_Of s n d hn hd (by omega) (by omega)) ?_;repeat (first|simp only[go_sem]|simp (disch:=first|exact oa|fail) only[AX]|refine wki ?_|refine wqn ?_|refine vpx [] ?_)
theorem int_u64 {n:Int} (h : -9223372036854775808<=n/\n<9223372036854775808):IntKind.u64.wrap n=((if n<0 then 18446744073709551616-n.natAbs else n.natAbs:Nat):Int):=by
 rw[IntKind.wrap_u64]
 split<;>omega
theorem rat_Int (n:Int) (h : -9223372036854775808<=n/\n<9223372036854775808):Go.Ev.Fn CX 64 [.int .i64 n] (rv (n:Rat)):=by
 refine fni Tryz.f64 ?_;unfold Tryz.f64;simp only[Option.get!_some]
 have o1:=nat_Of 1 (by omega)
 have oN:=nat_Of n.natAbs (by omega)
 have e1:=int_u64 h
 show WP CX _ _ (RQ _ _ (ratV (decide (n<0)) (lim n.natAbs) (lim 1)))
 by_cases h0:n<0
 ·rw[if_pos h0]at e1
  have e2:IntKind.u64.wrap (0-((18446744073709551616-n.natAbs:Nat):Int))=(n.natAbs:Int):=by rw[IntKind.wrap_u64];omega
  repeat (first|simp only[go_sem,e1,e2]|simp (disch:=first|exact oa|fail) only[AX,e1,e2]|refine wki ?_|refine wqn ?_|refine vpx [] ?_|refine vf_of (by first|exact oN|exact o1) ?_)
 ·rw[if_neg h0]at e1
  repeat (first|simp only[go_sem,e1]|simp (disch:=first|exact oa|fail) only[AX,e1]|refine wki ?_|refine wqn ?_|refine vpx [] ?_|refine vf_of (by first|exact oN|exact o1) ?_)
end Go.Proofs.YtjphnjffglapgaaGreatDoor
namespace Go.Proofs.YtjphnjffglapgaaGreatDoor
open Go.Ev
theorem rat_OfL {s:Bool} {n d:Nat} (hl:(lim n).length<=536870912) (hm:(lim d).length<=536870912) :
  Go.Ev.Fn CX 79 [.bool s,natV (lim n),natV (lim d)] (rv (mkRat (sgn s n) d)):=by
 have h:=rat_Of s (lim n) (lim d) (okL_lim _) (okL_lim _) hl hm
 rwa [wth_lim,wth_lim]at h
theorem mul_parts (q r:Rat):mkRat (sgn (!(decide (q.num<0)==decide (r.num<0))) (q.num.natAbs*r.num.natAbs)) (q.den*r.den)=q*r:=by
 have h:=sgn_mul q.num r.num
 rw[show (!(decide (q.num<0)==decide (r.num<0)))=(decide (q.num<0) != decide (r.num<0)) from rfl,h,<- Rat.mkRat_mul_mkRat,Rat.mkRat_self,Rat.mkRat_self]
theorem rat_Mul {v w:SV} {q r:Rat} {L M:Nat} (hv:RatA v q L) (hw:RatA w r M) (hL:1<=L) (hM:1<=M) (h:L+M<=268435456):Go.Ev.Fn CX 70 [v,w] (rv (q*r)):=by
 have hnv:=rat_Norm hv (by omega)
 have hnw:=rat_Norm hw (by omega)
 obtain⟨z1,z2⟩:=szR_of hv hL
 obtain⟨y1,y2⟩:=szR_of hw hM
 have g1:=lim_len_mul (a:=q.num.natAbs) (b:=r.num.natAbs)
 have g2:=lim_len_mul (a:=q.den) (b:=r.den)
 have hOf:=rat_OfL (s := !(decide (q.num<0)==decide (r.num<0))) (n:=q.num.natAbs*r.num.natAbs) (d:=q.den*r.den) (by omega) (by omega)
 rw[mul_parts]at hOf
 obtain⟨s,n,d,rfl,-⟩:=hv
 obtain⟨s',n',d',rfl,-⟩:=hw
 refine fni Tryz.f70 ?_;unfold Tryz.f70;simp only[Option.get!_some]
 repeat (first|simp only[go_sem]|simp (disch:=first|exact oa|fail) only[AX]|refine wki ?_|refine wqn ?_|refine vpd 1 [] ?_|refine vpd 2 [15,17,20,22,18,23] ?_|refine vf_of (by first|exact hnv|exact hnw) ?_)
 refine vf_of (nat_MulL (by omega) (by omega)) ?_;repeat (first|simp only[go_sem]|simp (disch:=first|exact oa|fail) only[AX]|refine wki ?_|refine wqn ?_|refine vpd 1 [] ?_|refine vpd 2 [15,17,20,22,18,23] ?_)
 refine vf_of (nat_MulL (by omega) (by omega)) ?_;repeat (first|simp only[go_sem]|simp (disch:=first|exact oa|fail) only[AX]|refine wki ?_|refine wqn ?_|refine vpd 1 [] ?_|refine vpd 2 [15,17,20,22,18,23] ?_)
 refine vf_of (hOf) ?_;repeat (first|simp only[go_sem]|simp (disch:=first|exact oa|fail) only[AX]|refine wki ?_|refine wqn ?_|refine vpd 1 [] ?_|refine vpd 2 [15,17,20,22,18,23] ?_)
theorem beq_bool (a b:Bool):(a==b)=decide (a=b):=by cases a<;>cases b<;>rfl
theorem num_zero {q:Rat}:q.num=0↔q=0:=Rat.num_eq_zero
theorem div_parts {q r:Rat} (hr:r≠0):q/r=q*mkRat (sgn (decide (r.num<0)) r.den) r.num.natAbs:=by
 rw[Rat.div_def]
 congr 1
 rw[Rat.inv_def]
 have h0:r.num≠0:=fun e=>hr (num_zero.1 e)
 by_cases h:r.num<0
 ·rw[decide_eq_true h]
  obtain⟨k,hk⟩ : ∃k:Nat,r.num=Int.negSucc k:=⟨r.num.natAbs-1,by omega⟩
  rw[hk,show (Int.negSucc k).natAbs=k+1 from rfl]
  show Rat.normalize (-(r.den:Int)) (k+1) (Nat.succ_ne_zero k)=mkRat (-(r.den:Int)) (k+1)
  rw[Rat.normalize_eq_mkRat]
 ·rw[decide_eq_false h]
  obtain⟨m,hm⟩ : ∃m:Nat,r.num=(m:Int):=⟨r.num.natAbs,by omega⟩
  rw[hm,Int.natAbs_natCast,Rat.divInt_ofNat]
  rfl
theorem rat_Div {v w:SV} {q r:Rat} {L M:Nat} (hv:RatA v q L) (hw:RatA w r M) (hL:1<=L) (hM:1<=M) (h:L+M<=268435456):Go.Ev.Fn CX 68 [v,w] (.tup [rv (q/r),.bool (decide (r≠0))]):=by
 have hnw:=rat_Norm hw (by omega)
 obtain⟨y1,y2⟩:=szR_of hw hM
 have h0:=rat_Int 0 (by omega)
 have hMul:r≠0->_:=fun hr=>rat_Mul (w:=ratV (decide (r.num<0)) (lim r.den) (lim r.num.natAbs)) hv ⟨_,_,_,rfl,okL_lim _,okL_lim _,y2,y1,by rw[wth_lim,wth_lim]⟩ hL hM h
 obtain⟨s,n,d,rfl,-⟩:=hv
 obtain⟨s',n',d',rfl,-⟩:=hw
 refine fni Tryz.f68 ?_;unfold Tryz.f68;simp only[Option.get!_some]
 by_cases hr:r=0
 ·have hl:(lim r.num.natAbs).length=0:=by rw[num_zero.2 hr];simp[lim_zero]
  rw[decide_eq_false (fun e=>e hr),hr,Rat.div_def,Rat.inv_zero,Rat.mul_zero]
  subst hr
  repeat (first|simp only[go_sem]|simp (disch:=first|exact oa|fail) only[AX]|refine wki ?_|refine wqn ?_|refine vf_of (by first|exact hnw|exact h0) ?_)
  rfl
 ·have hl:=lim_pos (N:=r.num.natAbs) (fun e=>hr (num_zero.1 (by omega)))
  have hMul:=hMul hr
  rw[<- div_parts hr]at hMul
  rw[decide_eq_true hr]
  repeat (first|simp only[go_sem]|simp (disch:=first|exact oa|fail) only[AX]|refine wki ?_|refine wqn ?_|refine vf_of (by first|exact hnw|exact hMul) ?_)
end Go.Proofs.YtjphnjffglapgaaGreatDoor
namespace Go.Proofs.YtjphnjffglapgaaGreatDoor
open Go.Ev
theorem ref2_Norm {v:SV} {q:Rat} {L:Nat} (h:RatA v q L) (hL:L<=16777216):Go.Ev.Fn CX 26 [v] (rv q):=by
 obtain⟨s,n,d,rfl,hn,hd,hl,hm,rfl⟩:=h
 have lx:=lim_length_le hn
 have ly:=lim_length_le hd
 have tn:=ref1_Trim n hn (by omega)
 have td:=ref1_Trim d hd (by omega)
 refine fni Tryz.f26 ?_;unfold Tryz.f26;simp only[Option.get!_some]
 generalize wth n=N at *
 generalize wth d=D at *
 repeat (first|simp only[go_sem]|simp (disch:=first|exact oa|fail) only[AX]|refine wki ?_|refine wqn ?_|refine vpd 1 [7,10] ?_|refine vf_of (by first|exact tn|exact td) ?_)
 by_cases h:N=0\/D=0
 ·rw[mk_zero s h,rv_zero]
  by_cases hD:D=0
  ·have h0:(lim D).length=0:=by rw[hD,lim_zero];rfl
   repeat (first|simp only[go_sem]|simp (disch:=first|exact oa|fail) only[AX]|refine wki ?_|refine wqn ?_|refine vpd 1 [7,10] ?_)
   rfl
  ·have h0:(lim N).length=0:=by rw[h.resolve_right hD,lim_zero];rfl
   have h1:=lim_pos hD
   repeat (first|simp only[go_sem]|simp (disch:=first|exact oa|fail) only[AX]|refine wki ?_|refine wqn ?_|refine vpd 1 [7,10] ?_)
   rfl
 ·have hN:N≠0:=fun e=>h (.inl e)
  have hD:D≠0:=fun e=>h (.inr e)
  rw[mk_parts s hN hD]
  have h1:=lim_pos hN
  have h2:=lim_pos hD
  have hg:N.gcd D≠0:=Nat.ne_of_gt (Nat.gcd_pos_of_pos_left _ (by omega))
  have h3:=lim_len_mono (Nat.gcd_le_left D (by omega:0<N))
  repeat (first|simp only[go_sem]|simp (disch:=first|exact oa|fail) only[AX]|refine wki ?_|refine wqn ?_|refine vpd 1 [7,10] ?_)
  refine vf_of (ref1_GcdL (by omega) (by omega)) ?_;repeat (first|simp only[go_sem]|simp (disch:=first|exact oa|fail) only[AX]|refine wki ?_|refine wqn ?_|refine vpd 1 [7,10] ?_)
  refine vf_of (ref1_DivL hg (by omega) (by omega)) ?_;repeat (first|simp only[go_sem]|simp (disch:=first|exact oa|fail) only[AX]|refine wki ?_|refine wqn ?_|refine vpd 1 [7,10] ?_)
  refine vf_of (ref1_DivL hg (by omega) (by omega)) ?_;repeat (first|simp only[go_sem]|simp (disch:=first|exact oa|fail) only[AX]|refine wki ?_|refine wqn ?_|refine vpd 1 [7,10] ?_)
theorem ref2_Of (s:Bool) (n d:List Nat) (hn:okL n) (hd:okL d) (hl:n.length<=16777216) (hm:d.length<=16777216) :
  Go.Ev.Fn CX 51 [.bool s,natV n,natV d] (rv (mkRat (sgn s (wth n)) (wth d))):=by
 have hN:=ref2_Norm (v:=ratV s n d) (L:=16777216) ⟨s,n,d,rfl,hn,hd,hl,hm,rfl⟩ (by omega)
 refine fni Tryz.f51 ?_;unfold Tryz.f51;simp only[Option.get!_some]
 repeat (first|simp only[go_sem]|simp (disch:=first|exact oa|fail) only[AX]|refine wki ?_|refine wqn ?_|refine vf_of (by first|exact hN) ?_)
theorem ref2_OfL {s:Bool} {n d:Nat} (hl:(lim n).length<=16777216) (hm:(lim d).length<=16777216) :
  Go.Ev.Fn CX 51 [.bool s,natV (lim n),natV (lim d)] (rv (mkRat (sgn s n) d)):=by
 have h:=ref2_Of s (lim n) (lim d) (okL_lim _) (okL_lim _) hl hm
 rwa [wth_lim,wth_lim]at h
theorem ref2_Mul {v w:SV} {q r:Rat} {L M:Nat} (hv:RatA v q L) (hw:RatA w r M) (hL:1<=L) (hM:1<=M) (h:L+M<=8388608):Go.Ev.Fn CX 74 [v,w] (rv (q*r)):=by
 have hnv:=ref2_Norm hv (by omega)
 have hnw:=ref2_Norm hw (by omega)
 obtain⟨z1,z2⟩:=szR_of hv hL
 obtain⟨y1,y2⟩:=szR_of hw hM
 have g1:=lim_len_mul (a:=q.num.natAbs) (b:=r.num.natAbs)
 have g2:=lim_len_mul (a:=q.den) (b:=r.den)
 have hOf:=ref2_OfL (s := !(decide (q.num<0)==decide (r.num<0))) (n:=q.num.natAbs*r.num.natAbs) (d:=q.den*r.den) (by omega) (by omega)
 rw[mul_parts]at hOf
 obtain⟨s,n,d,rfl,-⟩:=hv
 obtain⟨s',n',d',rfl,-⟩:=hw
 refine fni Tryz.f74 ?_;unfold Tryz.f74;simp only[Option.get!_some]
 repeat (first|simp only[go_sem]|simp (disch:=first|exact oa|fail) only[AX]|refine wki ?_|refine wqn ?_|refine vpd 1 [] ?_|refine vpd 2 [17,19,22,24,20,25] ?_|refine vf_of (by first|exact hnv|exact hnw) ?_)
 refine vf_of (ref1_MulL (by omega) (by omega)) ?_;repeat (first|simp only[go_sem]|simp (disch:=first|exact oa|fail) only[AX]|refine wki ?_|refine wqn ?_|refine vpd 1 [] ?_|refine vpd 2 [17,19,22,24,20,25] ?_)
 refine vf_of (ref1_MulL (by omega) (by omega)) ?_;repeat (first|simp only[go_sem]|simp (disch:=first|exact oa|fail) only[AX]|refine wki ?_|refine wqn ?_|refine vpd 1 [] ?_|refine vpd 2 [17,19,22,24,20,25] ?_)
 refine vf_of (hOf) ?_;repeat (first|simp only[go_sem]|simp (disch:=first|exact oa|fail) only[AX]|refine wki ?_|refine wqn ?_|refine vpd 1 [] ?_|refine vpd 2 [17,19,22,24,20,25] ?_)
theorem ref2_limbs (a b:List Nat) (ha:a.length<=274877906944) (hb:b.length<=274877906944):Go.Ev.Fn CX 50 [natV a,natV b] (.bool (decide (a=b))):=by
 refine fni Tryz.f50 ?_;unfold Tryz.f50;simp only[Option.get!_some]
 by_cases hl:a.length=b.length
 ·repeat (first|simp only[go_sem]|simp (disch:=first|exact oa|fail) only[AX]|refine wki ?_|refine wqn ?_|refine vpd 6 [] ?_)
  refine vp_loop_inv (fun s=>s.tmp 0 = .sv (natV a)/\s.tmp 1 = .sv (natV b) /\ ∃i:Nat,s.tmp 5 = .sv (.int .i64 i)/\i<=a.length/\a.take i=b.take i) (fun s=>match s.tmp 5 with | .sv (.int _ i)=>a.length-i.toNat|_=>0) ⟨rfl,rfl,0,rfl,by omega,rfl⟩ ?_
  rintro s ⟨i0,i1,i,i5,hi,ht⟩
  by_cases hend:i=a.length
  ·subst hend
   rw[List.take_length,hl,List.take_length]at ht
   rw[decide_eq_true ht]
   repeat (first|simp only[go_sem,i0,i1,i5]|simp (disch:=first|exact oa|fail) only[AX,i0,i1,i5]|refine wki ?_|refine wqn ?_|refine vpd 6 [] ?_)
  ·have e : ∀c:List Nat,i<c.length->c.take (i+1)=c.take i++[c.getD i 0]:=by
    intro c hc
    rw[List.take_add_one,List.getD_eq_getElem?_getD,List.getElem?_eq_getElem hc]
    rfl
   by_cases hx:a.getD i 0=b.getD i 0
   ·repeat (first|simp only[go_sem,i0,i1,i5]|simp (disch:=first|exact oa|fail) only[AX,i0,i1,i5]|refine wki ?_|refine wqn ?_|refine vpd 6 [] ?_)
    exact⟨⟨i+1,rfl,by omega,by rw[e a (by omega),e b (by omega),ht,hx]⟩,by omega⟩
   ·rw[decide_eq_false (fun h=>hx (by rw[h]))]
    repeat (first|simp only[go_sem,i0,i1,i5]|simp (disch:=first|exact oa|fail) only[AX,i0,i1,i5]|refine wki ?_|refine wqn ?_|refine vpd 6 [] ?_)
 ·rw[decide_eq_false (fun h=>hl (by rw[h]))]
  repeat (first|simp only[go_sem]|simp (disch:=first|exact oa|fail) only[AX]|refine wki ?_|refine wqn ?_|refine vpd 6 [] ?_)
theorem rv_eq {q r:Rat} (h1:decide (q.num<0)=decide (r.num<0)) (h2:lim q.num.natAbs=lim r.num.natAbs) (h3:lim q.den=lim r.den):q=r:=by
 have h4:=lim_inj h2
 have h5:=lim_inj h3
 refine Rat.ext ?_ h5
 by_cases h:q.num<0
 ·rw[decide_eq_true h]at h1
  have:=of_decide_eq_true h1.symm
  omega
 ·rw[decide_eq_false h]at h1
  have:=of_decide_eq_false h1.symm
  omega
theorem ref2_Same {v w:SV} {q r:Rat} {L M:Nat} (hv:RatA v q L) (hw:RatA w r M) (hL:1<=L) (hM:1<=M) (h:L+M<=8388608):Go.Ev.Fn CX 32 [v,w] (.bool (decide (q=r))):=by
 have hnv:=ref2_Norm hv (by omega)
 have hnw:=ref2_Norm hw (by omega)
 obtain⟨z1,z2⟩:=szR_of hv hL
 obtain⟨y1,y2⟩:=szR_of hw hM
 have l1:=ref2_limbs (lim q.num.natAbs) (lim r.num.natAbs) (by omega) (by omega)
 have l2:=ref2_limbs (lim q.den) (lim r.den) (by omega) (by omega)
 have hbb:=beq_bool (decide (q.num<0)) (decide (r.num<0))
 obtain⟨s,n,d,rfl,-⟩:=hv
 obtain⟨s',n',d',rfl,-⟩:=hw
 refine fni Tryz.f32 ?_;unfold Tryz.f32;simp only[Option.get!_some]
 repeat (first|simp only[go_sem,hbb]|simp (disch:=first|exact oa|fail) only[AX,hbb]|refine wki ?_|refine wqn ?_|refine vpd 1 [] ?_|refine vf_of (by first|exact hnv|exact hnw) ?_)
 by_cases h1:decide (q.num<0)=decide (r.num<0)
 ·rw[decide_eq_true h1]
  by_cases h2:lim q.num.natAbs=lim r.num.natAbs
  ·rw[decide_eq_true h2]at l1
   repeat (first|simp only[go_sem]|simp (disch:=first|exact oa|fail) only[AX]|refine wki ?_|refine wqn ?_|refine vpd 1 [] ?_)
   have e:decide (lim q.den=lim r.den)=decide (q=r):=by
    by_cases h3:lim q.den=lim r.den
    ·rw[decide_eq_true h3,decide_eq_true (rv_eq h1 h2 h3)]
    ·rw[decide_eq_false h3,decide_eq_false (fun e=>h3 (by rw[e]))]
   rw[e]at l2
   repeat (first|simp only[go_sem]|simp (disch:=first|exact oa|fail) only[AX]|refine wki ?_|refine wqn ?_|refine vpd 1 [] ?_|refine vf_of (by first|exact l1|exact l2) ?_)
  ·rw[decide_eq_false h2]at l1
   have hne:q≠r:=fun e=>h2 (by rw[e])
   rw[decide_eq_false hne]
   repeat (first|simp only[go_sem]|simp (disch:=first|exact oa|fail) only[AX]|refine wki ?_|refine wqn ?_|refine vpd 1 [] ?_|refine vf_of (by first|exact l1) ?_)
 ·have hne:q≠r:=fun e=>h1 (by rw[e])
  rw[decide_eq_false h1,decide_eq_false hne]
  repeat (first|simp only[go_sem]|simp (disch:=first|exact oa|fail) only[AX]|refine wki ?_|refine wqn ?_|refine vpd 1 [] ?_)
theorem ref2_Int (n:Int) (h : -9223372036854775808<=n/\n<9223372036854775808):Go.Ev.Fn CX 33 [.int .i64 n] (rv (n:Rat)):=by
 have oN:=ref1_Of n.natAbs (by omega)
 have e1:=int_u64 h
 have hl:=lim_two (v:=n.natAbs) |>.2 (by omega)
 have hOf:=ref2_OfL (s:=decide (n<0)) (n:=n.natAbs) (d:=1) (by omega) (by rw[lim_one];simp)
 rw[lim_one,sgn_self,show mkRat n 1=(n:Rat) from Rat.mkRat_one n]at hOf
 refine fni Tryz.f33 ?_;unfold Tryz.f33;simp only[Option.get!_some]
 by_cases h0:n<0
 ·rw[if_pos h0]at e1
  rw[decide_eq_true h0]at hOf
  have e2:IntKind.u64.wrap (0-((18446744073709551616-n.natAbs:Nat):Int))=(n.natAbs:Int):=by rw[IntKind.wrap_u64];omega
  repeat (first|simp only[go_sem,e1,e2]|simp (disch:=first|exact oa|fail) only[AX,e1,e2]|refine wki ?_|refine wqn ?_|refine vf_of (by first|exact oN|exact hOf) ?_)
 ·rw[if_neg h0]at e1
  rw[decide_eq_false h0]at hOf
  repeat (first|simp only[go_sem,e1]|simp (disch:=first|exact oa|fail) only[AX,e1]|refine wki ?_|refine wqn ?_|refine vf_of (by first|exact oN|exact hOf) ?_)
end Go.Proofs.YtjphnjffglapgaaGreatDoor
namespace Go.Proofs.YtjphnjffglapgaaGreatDoor
open Go.Ev
theorem szR_zero {L:Nat} (h:1<=L):szR 0 L:=⟨by rw[show (0:Rat).num.natAbs=0 by rfl,lim_zero];simp,by rw[show (0:Rat).den=1 by rfl,lim_one];exact h⟩
theorem szR_mul {q r:Rat} {L M:Nat} (h1:szR q L) (h2:szR r M) (hL:1<=L):szR (q*r) (L+M):=by
 rw[<- mul_parts]
 have g1:=lim_len_mul (a:=q.num.natAbs) (b:=r.num.natAbs)
 have g2:=lim_len_mul (a:=q.den) (b:=r.den)
 obtain⟨a1,a2⟩:=h1
 obtain⟨b1,b2⟩:=h2
 exact szR_mk (by omega) (by omega) (by omega)
theorem szR_div {q r:Rat} {L M:Nat} (h1:szR q L) (h2:szR r M) (hL:1<=L) (hM:1<=M):szR (q/r) (L+M):=by
 by_cases hr:r=0
 ·rw[hr,Rat.div_def,Rat.inv_zero,Rat.mul_zero]
  exact szR_zero (by omega)
 ·rw[div_parts hr]
  exact szR_mul h1 (szR_mk h2.2 h2.1 hM) hL
theorem sgn_mul2 (s t:Bool) (a b:Nat):sgn s a*sgn t b=sgn (!(s==t)) (a*b):=by
 cases s<;>cases t<;>simp[sgn,Int.neg_mul,Int.mul_neg]
theorem quo_parts {q r:Rat} (hr:r≠0):mkRat (sgn (!(decide (q.num<0)==decide (r.num<0))) (q.num.natAbs*r.den)) (q.den*r.num.natAbs)=q/r:=by
 rw[div_parts hr,<- sgn_mul2,<- Rat.mkRat_mul_mkRat,sgn_self,Rat.mkRat_self]
theorem ref2_Div {v w:SV} {q r:Rat} {L M:Nat} (hv:RatA v q L) (hw:RatA w r M) (hL:1<=L) (hM:1<=M) (h:L+M<=8388608):Go.Ev.Fn CX 76 [v,w] (.tup [rv (q/r),.bool (decide (r≠0))]):=by
 have hnv:=ref2_Norm hv (by omega)
 have hnw:=ref2_Norm hw (by omega)
 obtain⟨z1,z2⟩:=szR_of hv hL
 obtain⟨y1,y2⟩:=szR_of hw hM
 have g1:=lim_len_mul (a:=q.num.natAbs) (b:=r.den)
 have g2:=lim_len_mul (a:=q.den) (b:=r.num.natAbs)
 obtain⟨s,n,d,rfl,-⟩:=hv
 obtain⟨s',n',d',rfl,-⟩:=hw
 have h0:=ref2_Norm (v:=ratV false [] []) (q:=0) (L:=1) ⟨_,_,_,rfl,okL_nil,okL_nil,by simp,by simp,by rw[wth_nil];exact(mk_zero false (.inl rfl)).symm⟩ (by omega)
 refine fni Tryz.f76 ?_;unfold Tryz.f76;simp only[Option.get!_some]
 repeat (first|simp only[go_sem]|simp (disch:=first|exact oa|fail) only[AX]|refine wki ?_|refine wqn ?_|refine vpd 1 [] ?_|refine vpd 4 [24,26,29,31,27,32] ?_|refine vf_of (by first|exact hnv|exact hnw) ?_)
 by_cases hr:r=0
 ·have hl:(lim r.num.natAbs).length=0:=by rw[num_zero.2 hr];simp[lim_zero]
  rw[show decide (r≠0)=false from decide_eq_false (fun e=>e hr),hr,Rat.div_def,Rat.inv_zero,Rat.mul_zero]
  subst hr
  repeat (first|simp only[go_sem]|simp (disch:=first|exact oa|fail) only[AX]|refine wki ?_|refine wqn ?_|refine vpd 1 [] ?_|refine vpd 4 [24,26,29,31,27,32] ?_|refine vf_of (by first|exact h0) ?_)
 ·have hl:=lim_pos (N:=r.num.natAbs) (fun e=>hr (num_zero.1 (by omega)))
  have hOf:=ref2_OfL (s := !(decide (q.num<0)==decide (r.num<0))) (n:=q.num.natAbs*r.den) (d:=q.den*r.num.natAbs) (by omega) (by omega)
  rw[quo_parts hr]at hOf
  rw[decide_eq_true hr]
  repeat (first|simp only[go_sem]|simp (disch:=first|exact oa|fail) only[AX]|refine wki ?_|refine wqn ?_|refine vpd 1 [] ?_|refine vpd 4 [24,26,29,31,27,32] ?_)
  refine vf_of (ref1_MulL (by omega) (by omega)) ?_;repeat (first|simp only[go_sem]|simp (disch:=first|exact oa|fail) only[AX]|refine wki ?_|refine wqn ?_|refine vpd 1 [] ?_|refine vpd 4 [24,26,29,31,27,32] ?_)
  refine vf_of (ref1_MulL (by omega) (by omega)) ?_;repeat (first|simp only[go_sem]|simp (disch:=first|exact oa|fail) only[AX]|refine wki ?_|refine wqn ?_|refine vpd 1 [] ?_|refine vpd 4 [24,26,29,31,27,32] ?_)
  refine vf_of (hOf) ?_;repeat (first|simp only[go_sem]|simp (disch:=first|exact oa|fail) only[AX]|refine wki ?_|refine wqn ?_|refine vpd 1 [] ?_|refine vpd 4 [24,26,29,31,27,32] ?_)
end Go.Proofs.YtjphnjffglapgaaGreatDoor
namespace Go.Proofs.YtjphnjffglapgaaGreatDoor
open Go.Ev
end Go.Proofs.YtjphnjffglapgaaGreatDoor
namespace Go.Proofs.YtjphnjffglapgaaGreatDoor
open Go.Ev
theorem take_snoc (l:List Rat) {i:Nat} (h:i<l.length):l.take (i+1)=l.take i++[l.getD i 0]:=by
 rw[List.take_add_one,List.getD_eq_getElem?_getD,List.getElem?_eq_getElem h]
 rfl
def RowC:List SV->List Rat->Nat->Prop
 |cs,[],_=>cs=[]
 |cs,q::l,L => ∃s n d rest,cs = .bool s::natV n::natV d::rest/\RatA (ratV s n d) q L/\RowC rest l L
theorem row_len {L:Nat} : ∀ {l:List Rat} {cs:List SV},RowC cs l L->cs.length=l.length*3
 | [],_,h=>by cases h;rfl
 |q::l,cs,h=>by
  obtain⟨s,n,d,rest,rfl,-,h2⟩:=h
  have:=row_len h2
  simp only[List.length_cons]
  omega
theorem row_at {L:Nat} : ∀ {l:List Rat} {cs:List SV} {i:Nat},RowC cs l L->i<l.length -> ∃s n d rest,cs.drop (i*3) = .bool s::natV n::natV d::rest/\RatA (ratV s n d) (l.getD i 0) L
 | [],_,_,_,hi=>by simp at hi
 |q::l,cs,0,h,_=>by
  obtain⟨s,n,d,rest,rfl,h1,h2⟩:=h
  exact⟨s,n,d,rest,rfl,h1⟩
 |q::l,cs,i+1,h,hi=>by
  obtain⟨s,n,d,rest,rfl,h1,h2⟩:=h
  obtain⟨s',n',d',r',h3,h4⟩:=row_at (i:=i) h2 (by simpa using hi)
  refine⟨s',n',d',r',?_,h4⟩
  have e : ∀k,(SV.bool s::natV n::natV d::rest).drop (k+3)=rest.drop k:=fun _=>rfl
  rw[show (i+1)*3=i*3+3 by omega,e,h3]
theorem row_sz {L:Nat} (hL:1<=L) : ∀ {l:List Rat} {cs:List SV},RowC cs l L -> ∀x∈l,szR x L
 | [],_,_,x,hx=>by cases hx
 |q::l,cs,h,x,hx=>by
  obtain⟨s,n,d,rest,rfl,h1,h2⟩:=h
  rcases List.mem_cons.1 hx with rfl|hx
  ·exact szR_of h1 hL
  ·exact row_sz hL h2 x hx
def rvC (q:Rat):List SV:=[.bool (decide (q.num<0)),natV (lim q.num.natAbs),natV (lim q.den)]
def rvsC (l:List Rat):List SV:=l.flatMap rvC
theorem rvsC_nil:rvsC []=[]:=rfl
theorem rvsC_snoc (l:List Rat) (q:Rat):rvsC (l++[q])=rvsC l++rvC q:=by
 unfold rvsC;rw[List.flatMap_append];simp
theorem rvsC_len (l:List Rat):(rvsC l).length=l.length*3:=by
 induction l with
 |nil=>rfl
 |cons x l ih=>show (rvC x++rvsC l).length=_;rw[List.length_append,ih,List.length_cons];show 3+_=_;omega
theorem rvsC_row {L:Nat} : ∀l:List Rat,(∀x∈l,szR x L)->RowC (rvsC l) l L
 | [],_=>rfl
 |q::l,h=>⟨_,_,_,_,rfl,RatA_rv (h q List.mem_cons_self),rvsC_row l fun x hx=>h x (List.mem_cons_of_mem _ hx)⟩
end Go.Proofs.YtjphnjffglapgaaGreatDoor
namespace Go.Proofs.YtjphnjffglapgaaGreatDoor
open Go.Ev Go.RowKit Go.WideShapes
theorem u_rats:Tryz.prog.underlying 33=some (.slice 63):=by kernel_rfl
abbrev InR:=Bool×List Nat×List Nat
def InR.cells (p:InR):List SV:=[.bool p.1,natV p.2.1,natV p.2.2]
def InR.q (p:InR):Rat:=mkRat (sgn p.1 (wth p.2.1)) (wth p.2.2)
def InR.ok (p:InR):Prop:=okL p.2.1/\okL p.2.2
def ratsC (ps:List InR):List SV:=ps.flatMap InR.cells
theorem ratsC_cons (p:InR) (ps:List InR):ratsC (p::ps) = .bool p.1::natV p.2.1::natV p.2.2::ratsC ps:=rfl
theorem ratsC_len : ∀ps:List InR,(ratsC ps).length=ps.length*3
 | []=>rfl
 |p::ps=>by rw[ratsC_cons];simp only[List.length_cons,ratsC_len ps];omega
theorem ratsC_row {L:Nat} : ∀ps:List InR,(∀p∈ps,p.ok/\p.2.1.length<=L/\p.2.2.length<=L)->RowC (ratsC ps) (ps.map InR.q) L
 | [],_=>rfl
 |p::ps,h=>by
  obtain⟨⟨h1,h2⟩,h3,h4⟩:=h p List.mem_cons_self
  exact⟨_,_,_,_,rfl,⟨_,_,_,rfl,h1,h2,h3,h4,rfl⟩,ratsC_row ps fun x hx=>h x (List.mem_cons_of_mem _ hx)⟩
theorem shp_rats_all {n:Nat} : ∀l:List (List SV),(∀x∈l,ShpT Tryz.prog (n+3) 63 x) -> ∃ps:List InR,l.flatten=ratsC ps/\l.length=ps.length /\ ∀p∈ps,p.ok:=by
 intro l
 induction l with
 |nil=>intro _;exact⟨[],rfl,rfl,fun p hp=>by cases hp⟩
 |cons x l ih=>
  intro hx
  obtain⟨ps,h1,h2,h3⟩:=ih fun y hy=>hx y (List.mem_cons_of_mem _ hy)
  obtain⟨s,xs,ys,rfl,h4,h5,-,-⟩:=shp_rat (hx x List.mem_cons_self)
  refine⟨(s,xs,ys)::ps,by rw[List.flatten_cons,h1];rfl,by simp[h2],fun p hp => ?_⟩
  rcases List.mem_cons.1 hp with rfl|hp
  ·exact⟨h4,h5⟩
  ·exact h3 p hp
abbrev rowV (ps:List InR):SV := .sl ps.length (ratsC ps)
theorem shp_rats {n:Nat} {ss:List SV} (h:ShpT Tryz.prog (n+4) 33 ss) : ∃ps:List InR,ss=[rowV ps]/\ps.length<=maxLen /\ ∀p∈ps,p.ok:=by
 unfold ShpT at h
 rw[u_rats]at h
 obtain⟨elems,rfl,hl,he⟩:=h
 obtain⟨ps,h1,h2,h3⟩:=shp_rats_all elems he
 exact⟨ps,by rw[h1,h2],h2▸hl,h3⟩
theorem open_slice {H:Type} {enc:TypeId×Value->H} {P:Program} {w:World} {sp:Nat->Bool} {held:Bool} {r:Reach} {b0:Nat} {m:Nat} {t e:TypeId} {v:Value} {d:DataW H} {ps:List MemPlace} (hp:plainT P m t=true) (hu:P.underlying t=some (.slice e))
  (hok:Value.okWide P w r b0 t v) (hd:DataW.Trod enc P w 0 sp held t v d ps) : ∃s,Rep w (fun _=>False) v s/\ShpT P m t [s]:=by
 obtain⟨a,len,cap,rfl⟩:=okWide_slice hu hok
 obtain⟨n,hn⟩:=hd
 obtain⟨ss,⟨hl,hr⟩,hs⟩:=trod_reads hp hn
 have hl1:ss.length=1:=by rw[hl];simp[Value.cells]
 match ss,hl1 with
 | [s],_=>
  refine⟨s,?_,hs⟩
  have:=hr 0 s rfl
  simpa[Value.cells,Array.getD_eq_getD_getElem?,List.getD_eq_getElem?_getD]using this
end Go.Proofs.YtjphnjffglapgaaGreatDoor
namespace Go.Proofs.YtjphnjffglapgaaGreatDoor
open Go.Ev
theorem split_cons (c:UInt8) (l:List UInt8) : ∃x xs,splitB c l=x::xs:=by
 cases h:splitB c l with
 |nil=>have:=split_len c l;rw[h]at this;simp at this
 |cons x xs=>exact⟨x,xs,rfl⟩
theorem plain_split : ∀ (l:List UInt8) (x:List UInt8) (xs:List (List UInt8)),splitB 10 l=x::xs ->
  plainL false l=frontL 35 x++Lib.joinTail [10] (xs.map (frontL 35))/\plainL true l=Lib.joinTail [10] (xs.map (frontL 35)):=by
 intro l
 induction l with
 |nil=>
  intro x xs h
  simp[splitB]at h
  obtain⟨rfl,rfl⟩:=h
  exact⟨rfl,rfl⟩
 |cons b l ih=>
  intro x xs h
  obtain⟨y,ys,hy⟩:=split_cons 10 l
  obtain⟨h1,h2⟩:=ih y ys hy
  by_cases hb:b=10
  ·subst hb
   rw[splitB]at h
   simp only[BEq.rfl,if_true]at h
   injection h with e1 e2
   subst e1
   rw[<- e2,hy,plainL,plainL]
   simp only[BEq.rfl,if_true]
   rw[h1]
   unfold Lib.joinTail
   simp[frontL]
  ·have hb':(b==10)=false:=by simpa using hb
   rw[splitB,hb',hy]at h
   simp only[Bool.false_eq_true,if_false]at h
   injection h with e1 e2
   subst e1 e2
   rw[plainL,plainL,hb']
   simp only[Bool.false_eq_true,if_false,Bool.false_or,Bool.true_or,if_true]
   refine⟨?_,h2⟩
   by_cases hc:b=35
   ·subst hc
    simp only[BEq.rfl,if_true]
    rw[h2]
    simp[frontL]
   ·have hc':(b==35)=false:=by simpa using hc
    have hn:(b != 35)=true:=by simpa using hc
    rw[hc']
    simp only[Bool.false_eq_true,if_false]
    rw[h1,show frontL 35 (b::y)=b::frontL 35 y by unfold frontL;rw[List.takeWhile_cons,hn];rfl]
    rfl
theorem plain_join (l:List UInt8):Lib.join ((splitB 10 l).map (frontL 35)) [10]=plainL false l:=by
 obtain⟨x,xs,h⟩:=split_cons 10 l
 rw[(plain_split l x xs h).1,h,List.map_cons,Lib.join_cons]
theorem plain_len (l:List UInt8) : ∀off,(plainL off l).length<=l.length:=by
 induction l with
 |nil=>intro off;cases off<;>simp[plainL]
 |cons b l ih=>
  intro off
  have h1:=ih false
  have h2:=ih true
  rw[plainL]
  split
  ·simpa using h1
  ·split
   ·simp;omega
   ·simpa using h1
theorem x_join {xs:List (List UInt8)} {n:Nat} (sep:List UInt8) (hn:xs.length=n) (h1:n<=140737488355328) (h2:(Lib.join xs sep).length<=140737488355328) :
  Go.Ev.Fn CX 63 [.sl n (xs.map strC),.str (bs sep)] (.str (bs (Lib.join xs sep))):=by
 refine⟨1,List.replicate 2 none,?_⟩
 have e : ∀ys:List (List UInt8),strsOf (ys.map strC)=some ys:=by
  intro ys
  induction ys with
  |nil=>rfl
  |cons y ys ih=>
   rw[List.map_cons]
   show (match strsOf (ys.map strC) with|some l=>some ((bs y).data.toList::l)|none=>none)=_
   rw[ih,bs_toList]
 have h:xJoin [.sv (.sl n (xs.map strC)),.sv (.str (bs sep))]=some (.sv (.str (bs (Lib.join xs sep))),List.replicate 2 none):=by
  unfold xJoin
  simp only[e,bs_toList]
  rw[if_pos ⟨hn,h1,h2⟩]
 have h4:CX.X 63 ([SV.sl n (xs.map strC),.str (bs sep)].map Arg.sv)=some (.sv (.str (bs (Lib.join xs sep))),List.replicate 2 none):=h
 unfold callN
 rw[stq_sv,h4]
theorem str_Split (l:List UInt8) (c:UInt8) (hl:l.length<=1048576) :
  FnR CX 61 [.str (bs l),.str (bs [c])] ((splitB c l).map strC) 1 0 (splitB c l).length:=by
 refine⟨1,List.replicate 2 none,?_⟩
 have h:xSplit [.sv (.str (bs l)),.sv (.str (bs [c]))]=some (.row ((splitB c l).map strC) 1 0 (splitB c l).length,List.replicate 2 none):=by
  unfold xSplit
  simp only[bs_toList]
  rw[if_pos (by rw[bs_size];exact hl)]
 have h4:CX.X 61 ([SV.str (bs l),.str (bs [c])].map Arg.sv)=some (.row ((splitB c l).map strC) 1 0 (splitB c l).length,List.replicate 2 none):=h
 unfold callN
 rw[stq_sv,h4]
theorem data_plain (l:List UInt8) (hl:l.length<=1048576):Go.Ev.Fn CX 36 [.str (bs l)] (.str (bs (plainL false l))):=by
 have hsp:=str_Split l 10 hl
 have hlen:=split_len 10 l
 have hcl:=count_le (c:=10) (l:=l)
 have hj:=x_join (xs:=(splitB 10 l).map (frontL 35)) (n:=(splitB 10 l).length) [10] (by rw[List.length_map]) (by omega) (by rw[plain_join];have:=plain_len l false;omega)
 rw[plain_join]at hj
 have hlin : ∀x∈splitB 10 l,x.length<=1099511627776:=by
  have key : ∀ (l:List UInt8),∀x∈splitB 10 l,x.length<=l.length:=by
   intro l
   induction l with
   |nil=>intro x hx;simp[splitB]at hx;subst hx;simp
   |cons b l ih=>
    intro x hx
    obtain⟨y,ys,hy⟩:=split_cons 10 l
    rw[splitB,hy]at hx
    split at hx
    ·rcases List.mem_cons.1 hx with h|h
     ·subst h;simp
     ·have:=ih x (by rw[hy];exact h)
      simp;omega
    ·rcases List.mem_cons.1 hx with h|h
     ·subst h
      have:=ih y (by rw[hy];exact List.mem_cons_self)
      simp;omega
     ·have:=ih x (by rw[hy];exact List.mem_cons_of_mem _ h)
      simp;omega
  intro x hx
  have:=key l x hx
  omega
 generalize hL:splitB 10 l=L at *
 generalize hn:L.length=n at *
 refine fni Tryz.f36 ?_;unfold Tryz.f36;simp only[Option.get!_some]
 repeat (first|simp only[go_sem,mk_bs]|simp (disch:=first|exact oa|fail) only[AX,mk_bs]|refine wki ?_|refine wqn ?_)
 refine vf_row hsp ?_
 repeat (first|simp only[go_sem]|simp (disch:=first|exact oa|fail) only[AX]|refine wki ?_|refine wqn ?_)
 refine vp_loop_inv (fun s=>s.tmp 3 = .ref 7 0 1 0 n/\s.tmp 8 = .ref 7 0 1 0 n/\s.tmp 9 = .sv (.int .i64 (n:Int)) /\
   ∃ (i:Nat) (cs:List SV),s.tmp 10 = .sv (.int .i64 (i:Int))/\s.obj 7 0=some cs/\i<=n/\cs.length=n/\cs.take i=((L.map (frontL 35)).take i).map strC/\cs.drop i=(L.drop i).map strC)
  (fun s=>match s.tmp 10 with | .sv (.int _ i)=>n-i.toNat|_=>0) ?_ ?_
 ·exact⟨rfl,rfl,rfl,0,_,rfl,rfl,by omega,by rw[List.length_map];exact hn,rfl,rfl⟩
 rintro s2 ⟨i3,i8,i9,i,cs,i10,iO,hi,hcs,ht,hd⟩
 by_cases hend:i=n
 ·subst hend
  have e:cs=(L.map (frontL 35)).map strC:=by
   rw[List.take_of_length_le (by omega),List.take_of_length_le (by rw[List.length_map];omega)]at ht
   exact ht
  have e2:cs.take i=(L.map (frontL 35)).map strC:=by rw[<- e,List.take_of_length_le (by omega)]
  repeat (first|simp only[go_sem,i3,i8,i9,i10,iO,mk_bs,e2]|simp (disch:=first|exact oa|fail) only[AX,i3,i8,i9,i10,iO,mk_bs,e2]|refine wki ?_|refine wqn ?_|refine vf_of (by first|exact hj) ?_)
 ·have hlt:i<L.length:=by omega
  have hx:=str_Cut CX_str L[i] 35 (hlin _ (List.getElem_mem hlt))
  have hh:(cs.drop i).head?=some (.str (bs L[i])):=by
   rw[hd,List.drop_eq_getElem_cons hlt]
   rfl
  have hn2:cs.take i++[SV.str (bs (frontL 35 L[i]))]++cs.drop (i+1)=cs.set i (.str (bs (frontL 35 L[i]))):=by
   rw[List.set_eq_take_append_cons_drop,if_pos (by omega)]
   simp
  repeat (first|simp only[go_sem,i3,i8,i9,i10,iO,mk_bs,hh,hcs,hn2]|simp (disch:=first|exact oa|fail) only[AX,i3,i8,i9,i10,iO,mk_bs,hh,hcs,hn2]|refine wki ?_|refine wqn ?_|refine vf_of (by first|exact hx) ?_)
  refine⟨⟨i+1,cs.set i (.str (bs (frontL 35 L[i]))),rfl,rfl,by omega,by rw[List.length_set];exact hcs,?_,?_⟩,by omega⟩
  ·rw[List.take_add_one,List.take_add_one,List.map_append,List.take_set_of_le (Nat.le_refl _),ht,List.getElem?_set_self (by omega),List.getElem?_map,List.getElem?_eq_getElem hlt]
   rfl
  ·have:=congrArg (List.drop 1) hd
   rw[List.drop_drop,<- List.map_drop,List.drop_drop]at this
   rw[List.drop_set_of_lt (by omega)]
   exact this
end Go.Proofs.YtjphnjffglapgaaGreatDoor
namespace Go.Proofs.YtjphnjffglapgaaGreatDoor
open Go.Ev
def D10:List UInt8:=[48,49,50,51,52,53,54,55,56,57]
theorem D10_dig (b:UInt8):D10.contains b=dig b:=by
 have key : ∀n:Nat,n<256->D10.contains (UInt8.ofNat n)=dig (UInt8.ofNat n):=by decide
 have:=key b.toNat b.toNat_lt
 rwa [UInt8.ofNat_toNat]at this
theorem drop_nil {p:UInt8->Bool} {l:List UInt8}:l.dropWhile p=[]↔l.all p=true:=by
 induction l with
 |nil=>simp
 |cons b l ih=>
  rw[List.dropWhile_cons,List.all_cons]
  cases p b<;>simp[ih]
theorem trim_digs (l:List UInt8):(Lib.trimS l D10==[])=digs l:=by
 have e:(fun b=>D10.contains b)=dig:=funext D10_dig
 have h1:Lib.trimS l D10=(l.reverse.dropWhile dig).reverse.dropWhile dig:=by
  unfold Lib.trimS Lib.trimLeftS Lib.trimRightS
  rw[e]
 rw[h1]
 unfold digs
 cases hl:l.all dig with
 |true=>
  have:l.reverse.dropWhile dig=[]:=drop_nil.2 (by rw[List.all_reverse];exact hl)
  rw[this]
  rfl
 |false=>
  have h2:l.reverse.dropWhile dig≠[]:=fun h=>by
   have:=drop_nil.1 h
   rw[List.all_reverse,hl]at this
   cases this
  have h3:((l.reverse.dropWhile dig).reverse.dropWhile dig)≠[]:=fun h=>by
   have h4:=drop_nil.1 h
   rw[List.all_reverse]at h4
   cases hd:l.reverse.dropWhile dig with
   |nil=>exact h2 hd
   |cons b r=>
    have h5:=List.head_dropWhile_not dig (w:=h2)
    rw[hd]at h4
    rw[List.all_cons,Bool.and_eq_true]at h4
    simp only[hd,List.head_cons]at h5
    rw[h4.1]at h5
    cases h5
  cases h:((l.reverse.dropWhile dig).reverse.dropWhile dig) with
  |nil=>exact absurd h h3
  |cons b r=>rfl
theorem x_trim (l:List UInt8) (cs:List UInt8) (h:l.length<=9223372036854775807) (h1:cs.length<4294967281) (h2:cs.all (fun b=>decide (b.toNat<128))=true) :
  Go.Ev.Fn CX 35 [.str (bs l),.str (bs cs)] (.str (bs (Lib.trimS l cs))):=by
 refine⟨1,List.replicate 2 none,?_⟩
 have h3:xTrim [.sv (.str (bs l)),.sv (.str (bs cs))]=some (.sv (.str (bs (Lib.trimS l cs))),List.replicate 2 none):=by
  unfold xTrim
  simp only[bs_toList,bs_size]
  rw[if_pos ⟨h,h1,h2⟩]
 have h4:CX.X 35 ([SV.str (bs l),.str (bs cs)].map Arg.sv)=some (.sv (.str (bs (Lib.trimS l cs))),List.replicate 2 none):=h3
 unfold callN
 rw[stq_sv,h4]
theorem x_trimLeft (l:List UInt8) (cs:List UInt8) (h1:cs.length<4294967281) (h2:cs.all (fun b=>decide (b.toNat<128))=true) :
  Go.Ev.Fn CX 100 [.str (bs l),.str (bs cs)] (.str (bs (Lib.trimLeftS l cs))):=by
 refine⟨1,List.replicate 2 none,?_⟩
 have h3:xTrimLeft [.sv (.str (bs l)),.sv (.str (bs cs))]=some (.sv (.str (bs (Lib.trimLeftS l cs))),List.replicate 2 none):=by
  unfold xTrimLeft
  simp only[bs_toList,bs_size]
  rw[if_pos ⟨h1,h2⟩]
 have h4:CX.X 100 ([SV.str (bs l),.str (bs cs)].map Arg.sv)=some (.sv (.str (bs (Lib.trimLeftS l cs))),List.replicate 2 none):=h3
 unfold callN
 rw[stq_sv,h4]
theorem natD_lt : ∀ {l:List UInt8},digs l=true->natD l<10^l.length:=by
 intro l h
 have:=natLE_lt (l:=l.reverse) (by unfold digs;rw[List.all_reverse];exact h)
 rw[<- natD_rev,List.reverse_reverse,List.length_reverse]at this
 exact this
theorem lim_small {n k:Nat} (h:n<4294967296^k):(lim n).length<=k:=by
 rcases Nat.eq_zero_or_pos (lim n).length with h0|h0
 ·omega
 ·have hne:lim n≠[]:=fun e=>by rw[e]at h0;exact absurd h0 (by simp)
  have h1:=trimL_pos (trimL_lim n) hne
  rw[wth_lim]at h1
  have h2:4294967296^((lim n).length-1)<4294967296^k:=Nat.lt_of_le_of_lt h1 h
  have h3:=(Nat.pow_lt_pow_iff_right (a:=4294967296) (by omega)).1 h2
  omega
theorem lim_ten {n k:Nat} (h:n<10^k):(lim n).length<=k:=by
 refine lim_small (Nat.lt_of_lt_of_le h (Nat.pow_le_pow_left (by omega) k))
theorem lim_ten' {n k:Nat} (h:n<10^k):(lim (n*10)).length<=k+1:=lim_ten (by rw[Nat.pow_succ];omega)
theorem natV_ten:natV (lim 10)=SV.sl 1 [.int .u32 10]:=rfl
theorem natV_zero:natV (lim 0)=SV.sl 0 []:=rfl
def parseV (l:List UInt8):SV:=match natP l with
 |some n => .tup [natV (lim n),.bool true]
 |none => .tup [.sl 0 [],.bool false]
theorem parseV_ok {l:List UInt8} (h0:l≠[]) (h1:l.length<=400) (h2:digs l=true):parseV l = .tup [natV (lim (natD l)),.bool true]:=by
 unfold parseV natP
 rw[if_neg (by simp[h0,h2];exact h1)]
theorem parseV_bad {l:List UInt8} (h:l=[]\/400<l.length\/digs l=false):parseV l = .tup [.sl 0 [],.bool false]:=by
 unfold parseV natP
 rw[if_pos h]
theorem nat_Parse (l:List UInt8) (hl:l.length<=1048576):Go.Ev.Fn CX 98 [.str (bs l)] (parseV l):=by
 have ht:=x_trim l D10 (by omega) (by decide) (by decide)
 unfold D10 at ht
 have htd:=trim_digs l
 unfold D10 at htd
 by_cases h0:l=[]
 ·rw[parseV_bad (.inl h0)]
  subst h0
  refine fni Tryz.f98 ?_;unfold Tryz.f98;simp only[Option.get!_some]
  repeat (first|simp only[go_sem,bs_list,mk_bs,nil_beq]|simp (disch:=first|exact oa|fail) only[AX,bs_list,mk_bs,nil_beq]|refine wki ?_|refine wqn ?_|refine vpd 7 [4,24,25,31] ?_)
 have hb:(l==[])=false:=by simpa using h0
 by_cases h1:400<l.length
 ·rw[parseV_bad (.inr (.inl h1))]
  refine fni Tryz.f98 ?_;unfold Tryz.f98;simp only[Option.get!_some]
  repeat (first|simp only[go_sem,bs_list,mk_bs,hb,bs_size]|simp (disch:=first|exact oa|fail) only[AX,bs_list,mk_bs,hb,bs_size]|refine wki ?_|refine wqn ?_|refine vpd 7 [4,24,25,31] ?_)
 cases h2:digs l with
 |false=>
  rw[h2]at htd
  rw[parseV_bad (.inr (.inr h2))]
  refine fni Tryz.f98 ?_;unfold Tryz.f98;simp only[Option.get!_some]
  repeat (first|simp only[go_sem,bs_list,mk_bs,hb,bs_size,htd,Bool.not_false]|simp (disch:=first|exact oa|fail) only[AX,bs_list,mk_bs,hb,bs_size,htd,Bool.not_false]|refine wki ?_|refine wqn ?_|refine vpd 7 [4,24,25,31] ?_|refine vf_of (by first|exact ht) ?_)
 |true=>
  rw[h2]at htd
  rw[parseV_ok h0 (by omega) h2]
  refine fni Tryz.f98 ?_;unfold Tryz.f98;simp only[Option.get!_some]
  repeat (first|simp only[go_sem,bs_list,mk_bs,hb,bs_size,htd,Bool.not_true]|simp (disch:=first|exact oa|fail) only[AX,bs_list,mk_bs,hb,bs_size,htd,Bool.not_true]|refine wki ?_|refine wqn ?_|refine vpd 7 [4,24,25,31] ?_|refine vf_of (by first|exact ht) ?_)
  refine vp_loop_inv (fun s=>s.tmp 0 = .sv (.str (bs l))/\s.tmp 19 = .sv (.int .i64 (l.length:Int)) /\
    ∃i:Nat,s.tmp 20 = .sv (.int .i64 (i:Int))/\i<=l.length/\((i=0/\s.tmp 4 = .nil/\s.tmp 24 = .undef/\s.tmp 25 = .undef/\s.tmp 31 = .undef)\/(s.tmp 4 = .sv (natV (lim (natD (l.take i)))) /\ ∃x y z,s.tmp 24 = .sv x/\s.tmp 25 = .sv y/\s.tmp 31 = .sv z)))
   (fun s=>match s.tmp 20 with | .sv (.int _ i)=>l.length-i.toNat|_=>0) ⟨rfl,rfl,0,rfl,by omega,.inl ⟨rfl,rfl,rfl,rfl,rfl⟩⟩ ?_
  rintro s2 ⟨i0,i19,i,i20,hi,hc⟩
  by_cases hend:i=l.length
  ·subst hend
   rcases hc with⟨h00,_⟩|⟨i4,_⟩
   ·exact absurd (List.eq_nil_of_length_eq_zero h00) h0
   ·rw[List.take_of_length_le (by omega)]at i4
    repeat (first|simp only[go_sem,i0,i19,i20,i4]|simp (disch:=first|exact oa|fail) only[AX,i0,i19,i20,i4]|refine wki ?_|refine wqn ?_|refine vpd 7 [4,24,25,31] ?_)
  ·have hlt:i<l.length:=by omega
   have hd:dig l[i]=true:=List.all_eq_true.1 h2 _ (List.getElem_mem hlt)
   unfold dig at hd
   simp only[Bool.and_eq_true,decide_eq_true_eq]at hd
   have hg:l[i]?=some l[i]:=List.getElem?_eq_getElem hlt
   have hsnoc:natD (l.take (i+1))=natD (l.take i)*10+(l[i].toNat-48):=by
    rw[List.take_add_one,hg]
    exact natD_snoc _ _
   have hs1:(lim (natD (l.take i))).length<=400:=by
    have:=lim_ten (natD_lt (l:=l.take i) (by unfold digs;exact List.all_eq_true.2 fun x hx=>List.all_eq_true.1 h2 x (List.mem_of_mem_take hx)))
    rw[List.length_take]at this
    omega
   have hs2:(lim (natD (l.take i)*10)).length<=401:=by
    have h3:=lim_ten' (natD_lt (l:=l.take i) (by unfold digs;exact List.all_eq_true.2 fun x hx=>List.all_eq_true.1 h2 x (List.mem_of_mem_take hx)))
    rw[List.length_take]at h3
    omega
   have hs3:(lim (l[i].toNat-48)).length<=2:=lim_ten (by omega)
   have m:=nat_MulL (N:=natD (l.take i)) (D:=10) (by omega) (by decide)
   rw[natV_ten]at m
   have o:=nat_Of (l[i].toNat-48) (by omega)
   have a:=nat_AddL (N:=natD (l.take i)*10) (D:=l[i].toNat-48) (by omega) (by omega)
   rw[<- hsnoc]at a
   generalize l[i]=b at *
   have e1:((b.toNat:Int)-48)=((b.toNat-48:Nat):Int):=by omega
   have e2:IntKind.u8.wrap ((b.toNat-48:Nat):Int)=((b.toNat-48:Nat):Int):=wU8 (by omega)
   have e3:IntKind.u64.wrap ((b.toNat-48:Nat):Int)=((b.toNat-48:Nat):Int):=wU64 (by omega)
   clear hs1 hs2 hs3 hsnoc
   rcases hc with⟨h00,i4,i24,i25,i31⟩|⟨i4,x,y,z,i24,i25,i31⟩
   ·subst h00
    rw[List.take_zero,natD_nil,natV_zero]at m
    rw[List.take_zero,natD_nil]at a
    repeat (first|simp only[go_sem,i0,i19,i20,i4,i24,i25,i31,vo_ix,idxB_bs,hg,e1,e2,e3]|simp (disch:=first|exact oa|fail) only[AX,i0,i19,i20,i4,i24,i25,i31,vo_ix,idxB_bs,hg,e1,e2,e3]|refine wki ?_|refine wqn ?_|refine vpd 7 [4,24,25,31] ?_|refine vf_of (by first|exact m|exact o|exact a) ?_)
    exact⟨⟨1,rfl,by omega,.inr ⟨rfl,_,_,_,rfl,rfl,rfl⟩⟩,by omega⟩
   ·repeat (first|simp only[go_sem,i0,i19,i20,i4,i24,i25,i31,vo_ix,idxB_bs,hg,e1,e2,e3]|simp (disch:=first|exact oa|fail) only[AX,i0,i19,i20,i4,i24,i25,i31,vo_ix,idxB_bs,hg,e1,e2,e3]|refine wki ?_|refine wqn ?_|refine vpd 7 [4,24,25,31] ?_)
    repeat (first|simp only[go_sem,i0,i19,i20,i4,i24,i25,i31,vo_ix,idxB_bs,hg,e1,e2,e3]|simp (disch:=first|exact oa|fail) only[AX,i0,i19,i20,i4,i24,i25,i31,vo_ix,idxB_bs,hg,e1,e2,e3]|refine wki ?_|refine wqn ?_|refine vpd 7 [4,24,25,31] ?_|refine vf_of (by first|exact m|exact o|exact a) ?_)
    exact⟨⟨i+1,rfl,by omega,.inr ⟨rfl,_,_,_,rfl,rfl,rfl⟩⟩,by omega⟩
end Go.Proofs.YtjphnjffglapgaaGreatDoor
namespace Go.Proofs.YtjphnjffglapgaaGreatDoor
open Go.Ev
theorem lite_HasPrefix (l:List UInt8) (c:UInt8):Go.Ev.Fn CX 141 [.str (bs l),.str (bs [c])] (.bool (l.head?==some c)):=by
 refine fni Tryz.f141 ?_;unfold Tryz.f141;simp only[Option.get!_some]
 cases l with
 |nil=>
  repeat (first|simp only[go_sem,bs_size]|simp (disch:=first|exact oa|fail) only[AX,bs_size]|refine wki ?_|refine wqn ?_)
  rfl
 |cons b l=>
  have e:([b]==[c])=(b==c):=by simp
  have e2:((b::l).head?==some c)=(b==c):=by simp
  rw[e2]
  repeat (first|simp only[go_sem,bs_size,bs_extract,bs_list,Nat.sub_zero,e]|simp (disch:=first|exact oa|fail) only[AX,bs_size,bs_extract,bs_list,Nat.sub_zero,e]|refine wki ?_|refine wqn ?_)
theorem lite_CutPrefix (l:List UInt8) (c:UInt8):Go.Ev.Fn CX 124 [.str (bs l),.str (bs [c])] (.tup [.str (bs (if l.head?==some c then l.tail else l)),.bool (l.head?==some c)]):=by
 have h:=lite_HasPrefix l c
 refine fni Tryz.f124 ?_;unfold Tryz.f124;simp only[Option.get!_some]
 cases hc:l.head?==some c with
 |false=>
  rw[hc]at h
  simp only[go_sem]
  refine vf_of (h) ?_;simp only[go_sem,Bool.not_false]
 |true=>
  rw[hc]at h
  cases l with
  |nil=>cases hc
  |cons b l=>
   have e:List.take (l.length+1-1) l=l:=List.take_of_length_le (by omega)
   repeat (first|simp only[go_sem,bs_size,Bool.not_true,bs_extract,List.tail_cons,e]|simp (disch:=first|exact oa|fail) only[AX,bs_size,Bool.not_true,bs_extract,List.tail_cons,e]|refine wki ?_|refine wqn ?_|refine vf_of (by first|exact h) ?_)
theorem str_CutPrefix (l:List UInt8) (c:UInt8):Go.Ev.Fn CX 97 [.str (bs l),.str (bs [c])] (.tup [.str (bs (if l.head?==some c then l.tail else l)),.bool (l.head?==some c)]):=by
 have h:=lite_CutPrefix l c
 refine fni Tryz.f97 ?_;unfold Tryz.f97;simp only[Option.get!_some]
 simp only[go_sem]
 refine vf_of (h) ?_;simp only[go_sem]
theorem pow_lim {k:Nat}:(lim (10^k)).length<=k+1:=lim_ten (Nat.pow_lt_pow_right (by omega) (by omega))
theorem dec_ten (n:Nat) (hn:n<=400):Go.Ev.Fn CX 99 [.int .i64 (n:Int)] (natV (lim (10^n))):=by
 have o1:=nat_Of 1 (by omega)
 have o10:=nat_Of 10 (by omega)
 refine fni Tryz.f99 ?_;unfold Tryz.f99;simp only[Option.get!_some]
 repeat (first|simp only[go_sem]|simp (disch:=first|exact oa|fail) only[AX]|refine wki ?_|refine wqn ?_|refine vf_of (by first|exact o1) ?_)
 refine vp_loop_inv (fun s=>s.tmp 5 = .sv (.int .i64 (n:Int)) /\ ∃i:Nat,s.tmp 6 = .sv (.int .i64 (i:Int))/\i<=n/\s.tmp 3 = .sv (natV (lim (10^i))))
  (fun s=>match s.tmp 6 with | .sv (.int _ i)=>n-i.toNat|_=>0) ⟨rfl,0,rfl,by omega,rfl⟩ ?_
 rintro s2 ⟨i5,i,i6,hi,i3⟩
 by_cases hend:i=n
 ·subst hend
  repeat (first|simp only[go_sem,i5,i6,i3]|simp (disch:=first|exact oa|fail) only[AX,i5,i6,i3]|refine wki ?_|refine wqn ?_)
 ·have hp:=pow_lim (k:=i)
  have m:=nat_MulL (N:=10^i) (D:=10) (by omega) (by decide)
  rw[show 10^i*10=10^(i+1) by rw[Nat.pow_succ]]at m
  generalize 10^i=X at *
  generalize hY:10^(i+1)=Y at *
  repeat (first|simp only[go_sem,i5,i6,i3]|simp (disch:=first|exact oa|fail) only[AX,i5,i6,i3]|refine wki ?_|refine wqn ?_|refine vf_of (by first|exact o10|exact m) ?_)
  exact⟨⟨i+1,rfl,by omega,by rw[hY]⟩,by omega⟩
def noR:SV := .agg [.bool false,.sl 0 [],.sl 0 []]
def decPV (l:List UInt8):SV:=match decP l with
 |some q => .tup [rv q,.int .i64 0]
 |none => .tup [noR,.int .i64 2]
theorem parse_len {l:List UInt8} {n:Nat} (h:natP l=some n):(lim n).length<=400:=by
 unfold natP at h
 split at h
 ·cases h
 ·rename_i hc
  cases h
  have h1 : ¬400<l.length:=fun e=>hc (.inr (.inl e))
  have h2:digs l=true:=by
   cases e:digs l with
   |true=>rfl
   |false=>exact absurd (.inr (.inr e)) hc
  have h3:=lim_ten (natD_lt h2)
  omega
theorem front_len {c:UInt8} {l:List UInt8}:(frontL c l).length<=l.length:=(List.takeWhile_sublist _).length_le
theorem abs_eq (l:List UInt8):(if l.head?==some 45 then l.tail else l)=absP l:=rfl
theorem parseV_some {l:List UInt8} {n:Nat} (h:natP l=some n):parseV l = .tup [natV (lim n),.bool true]:=by unfold parseV;rw[h]
theorem parseV_none {l:List UInt8} (h:natP l=none):parseV l = .tup [natV (lim 0),.bool false]:=by unfold parseV;rw[h];rfl
theorem lim_ne {d:Nat} (h:d≠0):((lim d).length:Int)≠0:=by
 intro e
 have:lim d=[]:=List.eq_nil_of_length_eq_zero (by omega)
 exact h (lim_eq_nil.1 this)
set_option maxHeartbeats 2000000 in
theorem dec_Parse (l:List UInt8) (hl:l.length<=400):Go.Ev.Fn CX 65 [.str (bs l)] (decPV l):=by
 have hp:=str_CutPrefix l 45
 rw[abs_eq,show (l.head?==some 45)=negP l from rfl]at hp
 have ha:(absP l).length<=400:=by
  unfold absP
  split
  ·rw[List.length_tail];omega
  ·exact hl
 generalize hA:absP l=A at *
 have c46:=str_Cut CX_str A 46 (by omega)
 have c47:=str_Cut CX_str A 47 (by omega)
 have f46:=front_len (c:=46) (l:=A)
 have b46:=back_len (c:=46) (l:=A)
 have f47:=front_len (c:=47) (l:=A)
 have b47:=back_len (c:=47) (l:=A)
 generalize hN:negP l=ng at *
 cases h46:A.contains 46 with
 |true=>
  rw[h46]at c46
  have p1:=nat_Parse (backL 46 A) (by omega)
  have p2:=nat_Parse (frontL 46 A++backL 46 A) (by rw[List.length_append];omega)
  generalize hF:frontL 46 A=F at *
  generalize hB:backL 46 A=B at *
  by_cases hF0:F=[]
  ·have hFb:(F==[])=true:=by rw[hF0];rfl
   have e:decPV l = .tup [noR,.int .i64 2]:=by unfold decPV decP;rw[hA];simp only[h46,hF,if_true,hF0]
   rw[e]
   clear e
   have q1 : ∃v b,parseV B = .tup [v,.bool b]:=by
    cases n1:natP B with
    |none=>exact⟨_,_,parseV_none n1⟩
    |some m=>exact⟨_,_,parseV_some n1⟩
   have q2 : ∃v b,parseV (F++B) = .tup [v,.bool b]:=by
    cases n1:natP (F++B) with
    |none=>exact⟨_,_,parseV_none n1⟩
    |some m=>exact⟨_,_,parseV_some n1⟩
   obtain⟨v1,b1,q1⟩:=q1
   obtain⟨v2,b2,q2⟩:=q2
   rw[q1]at p1
   rw[q2]at p2
   refine fni Tryz.f65 ?_;unfold Tryz.f65;simp only[Option.get!_some]
   repeat (first|simp only[go_sem,mk_bs,bs_size,bs_append,bs_list,hFb,noR]|simp (disch:=first|exact oa|fail) only[AX,mk_bs,bs_size,bs_append,bs_list,hFb,noR]|refine wki ?_|refine wqn ?_|refine vf_of (by first|exact hp|exact c46|exact p1|exact p2) ?_)
  ·have hFb:(F==[])=false:=by simpa using hF0
   cases n1:natP B with
   |none=>
    have q2 : ∃v b,parseV (F++B) = .tup [v,.bool b]:=by
     cases n1:natP (F++B) with
     |none=>exact⟨_,_,parseV_none n1⟩
     |some m=>exact⟨_,_,parseV_some n1⟩
    obtain⟨v2,b2,q2⟩:=q2
    rw[parseV_none n1]at p1
    rw[q2]at p2
    have e:decPV l = .tup [noR,.int .i64 2]:=by unfold decPV decP;rw[hA];simp only[h46,hF,hB,if_true,hF0,if_false,n1]
    rw[e]
    clear e
    refine fni Tryz.f65 ?_;unfold Tryz.f65;simp only[Option.get!_some]
    repeat (first|simp only[go_sem,mk_bs,bs_size,bs_append,bs_list,hFb,Bool.not_false,noR]|simp (disch:=first|exact oa|fail) only[AX,mk_bs,bs_size,bs_append,bs_list,hFb,Bool.not_false,noR]|refine wki ?_|refine wqn ?_|refine vf_of (by first|exact hp|exact c46|exact p1|exact p2) ?_)
   |some m=>
    rw[parseV_some n1]at p1
    cases n2:natP (F++B) with
    |none=>
     rw[parseV_none n2]at p2
     have e:decPV l = .tup [noR,.int .i64 2]:=by unfold decPV decP;rw[hA];simp only[h46,hF,hB,if_true,hF0,if_false,n1,n2]
     rw[e]
     clear e
     refine fni Tryz.f65 ?_;unfold Tryz.f65;simp only[Option.get!_some]
     repeat (first|simp only[go_sem,mk_bs,bs_size,bs_append,bs_list,hFb,Bool.not_false,Bool.not_true,noR]|simp (disch:=first|exact oa|fail) only[AX,mk_bs,bs_size,bs_append,bs_list,hFb,Bool.not_false,Bool.not_true,noR]|refine wki ?_|refine wqn ?_|refine vf_of (by first|exact hp|exact c46|exact p1|exact p2) ?_)
    |some n=>
     rw[parseV_some n2]at p2
     have ht:=dec_ten B.length (by omega)
     have o:=rat_OfL (s:=ng) (n:=n) (d:=10^B.length) (by have:=parse_len n2;omega) (by have:=pow_lim (k:=B.length);omega)
     have e:decPV l = .tup [rv (mkRat (sgn ng n) (10^B.length)),.int .i64 0]:=by unfold decPV decP;rw[hA];simp only[h46,hF,hB,if_true,hF0,if_false,n1,n2,hN]
     rw[e]
     clear e
     generalize mkRat (sgn ng n) (10^B.length)=q at *
     refine fni Tryz.f65 ?_;unfold Tryz.f65;simp only[Option.get!_some]
     repeat (first|simp only[go_sem,mk_bs,bs_size,bs_append,bs_list,hFb,Bool.not_true,rv,ratV]|simp (disch:=first|exact oa|fail) only[AX,mk_bs,bs_size,bs_append,bs_list,hFb,Bool.not_true,rv,ratV]|refine wki ?_|refine wqn ?_|refine vf_of (by first|exact hp|exact c46|exact p1|exact p2|exact ht|exact o) ?_)
 |false=>
  rw[h46]at c46
  have p1:=nat_Parse (frontL 47 A) (by omega)
  have hden : ∃D,D=(if A.contains 47 then backL 47 A else [49])/\D.length<=400:=by
   refine⟨_,rfl,?_⟩
   split
   ·omega
   ·decide
  obtain⟨D,hD,hDl⟩:=hden
  have p2:=nat_Parse D (by omega)
  have hd:decPV l=match (match natP (frontL 47 A),natP D with|some n,some d=>if d=0 then none else some (mkRat (sgn ng n) d)|_,_=>none) with
    |some q => .tup [rv q,.int .i64 0]
    |none => .tup [noR,.int .i64 2]:=by
   unfold decPV decP
   rw[hA,hN,h46,hD]
   rfl
  rw[hd]
  clear hd
  generalize frontL 47 A=F at *
  cases n1:natP F with
  |none=>
   have q2 : ∃v b,parseV D = .tup [v,.bool b]:=by
    cases n1:natP D with
    |none=>exact⟨_,_,parseV_none n1⟩
    |some m=>exact⟨_,_,parseV_some n1⟩
   obtain⟨v2,b2,q2⟩:=q2
   rw[parseV_none n1]at p1
   rw[q2]at p2
   dsimp only
   cases h47:A.contains 47 with
   |true=>
    rw[h47]at c47 hD
    simp only[if_true]at hD
    rw[hD]at p2
    refine fni Tryz.f65 ?_;unfold Tryz.f65;simp only[Option.get!_some]
    repeat (first|simp only[go_sem,mk_bs,bs_size,Bool.not_true,bs_list,Bool.not_false,noR]|simp (disch:=first|exact oa|fail) only[AX,mk_bs,bs_size,Bool.not_true,bs_list,Bool.not_false,noR]|refine wki ?_|refine wqn ?_|refine vf_of (by first|exact hp|exact c46|exact c47|exact p1|exact p2) ?_)
   |false=>
    rw[h47]at c47 hD
    simp only[Bool.false_eq_true,if_false]at hD
    rw[hD]at p2
    refine fni Tryz.f65 ?_;unfold Tryz.f65;simp only[Option.get!_some]
    repeat (first|simp only[go_sem,mk_bs,bs_size,Bool.not_false,bs_list,noR]|simp (disch:=first|exact oa|fail) only[AX,mk_bs,bs_size,Bool.not_false,bs_list,noR]|refine wki ?_|refine wqn ?_|refine vf_of (by first|exact hp|exact c46|exact c47|exact p1|exact p2) ?_)
  |some n=>
   rw[parseV_some n1]at p1
   have l1:=parse_len n1
   cases n2:natP D with
   |none=>
    rw[parseV_none n2]at p2
    dsimp only
    cases h47:A.contains 47 with
    |true=>
     rw[h47]at c47 hD
     simp only[if_true]at hD
     rw[hD]at p2
     refine fni Tryz.f65 ?_;unfold Tryz.f65;simp only[Option.get!_some]
     repeat (first|simp only[go_sem,mk_bs,bs_size,Bool.not_true,bs_list,Bool.not_false,noR]|simp (disch:=first|exact oa|fail) only[AX,mk_bs,bs_size,Bool.not_true,bs_list,Bool.not_false,noR]|refine wki ?_|refine wqn ?_|refine vf_of (by first|exact hp|exact c46|exact c47|exact p1|exact p2) ?_)
    |false=>
     rw[h47]at hD
     simp only[Bool.false_eq_true,if_false]at hD
     subst hD
     have:natP [49]=some 1:=rfl
     rw[this]at n2
     cases n2
   |some d=>
    rw[parseV_some n2]at p2
    dsimp only
    have l2:=parse_len n2
    by_cases hd0:d=0
    ·subst hd0
     rw[if_pos rfl]
     dsimp only
     rw[natV_zero]at p2
     cases h47:A.contains 47 with
     |true=>
      rw[h47]at c47 hD
      simp only[if_true]at hD
      rw[hD]at p2
      refine fni Tryz.f65 ?_;unfold Tryz.f65;simp only[Option.get!_some]
      repeat (first|simp only[go_sem,mk_bs,bs_size,Bool.not_true,bs_list,Bool.not_false,noR]|simp (disch:=first|exact oa|fail) only[AX,mk_bs,bs_size,Bool.not_true,bs_list,Bool.not_false,noR]|refine wki ?_|refine wqn ?_|refine vf_of (by first|exact hp|exact c46|exact c47|exact p1|exact p2) ?_)
     |false=>
      rw[h47]at hD
      simp only[Bool.false_eq_true,if_false]at hD
      subst hD
      have:natP [49]=some 1:=rfl
      rw[this]at n2
      cases n2
    ·rw[if_neg hd0]
     dsimp only
     have hne:=lim_ne hd0
     have o:=rat_OfL (s:=ng) (n:=n) (d:=d) (by omega) (by omega)
     generalize mkRat (sgn ng n) d=q at *
     cases h47:A.contains 47 with
     |true=>
      rw[h47]at c47 hD
      simp only[if_true]at hD
      rw[hD]at p2
      refine fni Tryz.f65 ?_;unfold Tryz.f65;simp only[Option.get!_some]
      repeat (first|simp only[go_sem,mk_bs,bs_size,Bool.not_true,bs_list,Bool.not_false,rv,ratV]|simp (disch:=first|exact oa|fail) only[AX,mk_bs,bs_size,Bool.not_true,bs_list,Bool.not_false,rv,ratV]|refine wki ?_|refine wqn ?_|refine vf_of (by first|exact hp|exact c46|exact c47|exact p1|exact p2|exact o) ?_)
     |false=>
      rw[h47]at c47 hD
      simp only[Bool.false_eq_true,if_false]at hD
      rw[hD]at p2
      refine fni Tryz.f65 ?_;unfold Tryz.f65;simp only[Option.get!_some]
      repeat (first|simp only[go_sem,mk_bs,bs_size,Bool.not_false,bs_list,Bool.not_true,rv,ratV]|simp (disch:=first|exact oa|fail) only[AX,mk_bs,bs_size,Bool.not_false,bs_list,Bool.not_true,rv,ratV]|refine wki ?_|refine wqn ?_|refine vf_of (by first|exact hp|exact c46|exact c47|exact p1|exact p2|exact o) ?_)
end Go.Proofs.YtjphnjffglapgaaGreatDoor
namespace Go.Proofs.YtjphnjffglapgaaGreatDoor
open Go.Ev
theorem pm_set (l:List UInt8):Lib.trimLeftS l [43,45]=l.dropWhile isPM:=by
 unfold Lib.trimLeftS
 congr 1
 funext b
 unfold isPM
 simp only[List.contains_cons,List.contains_nil,Bool.or_false]
theorem dec_from : ∀ {l:List UInt8} (a:Nat),digs l=true->Lib.decFrom a l=some (l.foldl (fun a b=>a*10+(b.toNat-48)) a):=by
 intro l
 induction l with
 |nil=>intro a _;rfl
 |cons b l ih=>
  intro a h
  unfold digs at h
  rw[List.all_cons,Bool.and_eq_true]at h
  have hb:=h.1
  unfold dig at hb
  simp only[Bool.and_eq_true,decide_eq_true_eq]at hb
  have hd:Lib.digitVal b=some (b.toNat-48):=by unfold Lib.digitVal;rw[if_pos hb]
  rw[Lib.decFrom,hd]
  exact ih _ h.2
theorem dec_nat {l:List UInt8} (h0:l≠[]) (h:digs l=true):Lib.decNat l=some (natD l):=by
 unfold Lib.decNat
 rw[if_neg (by simpa using h0),dec_from 0 h]
 rfl
theorem atoi_is {l:List UInt8} (h1:l.length-(l.dropWhile isPM).length<=1) (h2:1<=(l.dropWhile isPM).length) (h3:digs (l.dropWhile isPM)=true) :
  Lib.atoi l=some (if l.head?=some 45 then - (natD (l.dropWhile isPM):Int) else (natD (l.dropWhile isPM):Int)):=by
 cases l with
 |nil=>simp at h2
 |cons b r=>
  cases hb:isPM b with
  |false=>
   rw[List.dropWhile_cons,hb]at h2 h3 ⊢
   simp only[Bool.false_eq_true,if_false]at h2 h3 ⊢
   unfold isPM at hb
   rw[Bool.or_eq_false_iff]at hb
   have e45 : ¬b=45:=by simpa using hb.2
   rw[Lib.atoi,hb.1,hb.2,dec_nat (by simp) h3]
   simp[e45]
  |true=>
   rw[List.dropWhile_cons,hb]at h1 h2 h3 ⊢
   simp only[if_true]at h1 h2 h3 ⊢
   have hr:r.dropWhile isPM=r:=by
    have hle:=(List.dropWhile_sublist (l:=r) isPM).length_le
    have:(r.dropWhile isPM).length=r.length:=by simp at h1;omega
    exact(List.dropWhile_sublist isPM).eq_of_length this
   rw[hr]at h2 h3 ⊢
   have h0:r≠[]:=fun e=>by subst e;simp at h2
   rw[Lib.atoi,dec_nat h0 h3]
   unfold isPM at hb
   rw[Bool.or_eq_true]at hb
   rcases hb with hb|hb
   ·have e:b=43:=by simpa using hb
    subst e
    rfl
   ·have e:b=45:=by simpa using hb
    subst e
    rfl
theorem x_atoi {l:List UInt8} {v:Int} (h:l.length<=18) (hv:Lib.atoi l=some v):Go.Ev.Fn CX 101 [.str (bs l)] (.tup [.int .i64 v,.con .nilIface]):=by
 refine⟨1,List.replicate 1 none,?_⟩
 have h3:xAtoi [.sv (.str (bs l))]=some (.sv (.tup [.int .i64 v,.con .nilIface]),List.replicate 1 none):=by
  unfold xAtoi
  simp only[bs_toList,bs_size,hv]
  rw[if_pos h]
 have h4:CX.X 101 ([SV.str (bs l)].map Arg.sv)=some (.sv (.tup [.int .i64 v,.con .nilIface]),List.replicate 1 none):=h3
 unfold callN
 rw[stq_sv,h4]
theorem data_exponent (l:List UInt8) (hl:l.length<=1048576) : ∃k:Int,Go.Ev.Fn CX 66 [.str (bs l)] (.tup [.int .i64 k,.bool (expP l).isSome]) /\ ∀v,expP l=some v->v=k /\ -30<=k/\k<=30:=by
 have htl:=x_trimLeft l [43,45] (by decide) (by decide)
 rw[pm_set]at htl
 have hle:=(List.dropWhile_sublist (l:=l) isPM).length_le
 have ht:=x_trim (l.dropWhile isPM) D10 (by omega) (by decide) (by decide)
 have htd:=trim_digs (l.dropWhile isPM)
 unfold D10 at ht htd
 by_cases hc:l.length-(l.dropWhile isPM).length>1\/(l.dropWhile isPM).length<1\/(l.dropWhile isPM).length>2\/digs (l.dropWhile isPM)=false
 ·have e:expP l=none:=by unfold expP;rw[if_pos hc]
  rw[e]
  refine⟨0,?_,fun v h=>by cases h⟩
  rw[Option.isSome_none]
  clear e
  generalize hd:l.dropWhile isPM=d at *
  by_cases h1:l.length-d.length>1
  ·refine fni Tryz.f66 ?_;unfold Tryz.f66;simp only[Option.get!_some]
   repeat (first|simp only[go_sem,mk_bs,bs_size]|simp (disch:=first|exact oa|fail) only[AX,mk_bs,bs_size]|refine wki ?_|refine wqn ?_|refine vf_of (by first|exact htl) ?_)
  by_cases h2:d.length<1
  ·refine fni Tryz.f66 ?_;unfold Tryz.f66;simp only[Option.get!_some]
   repeat (first|simp only[go_sem,mk_bs,bs_size]|simp (disch:=first|exact oa|fail) only[AX,mk_bs,bs_size]|refine wki ?_|refine wqn ?_|refine vf_of (by first|exact htl) ?_)
  by_cases h3:d.length>2
  ·refine fni Tryz.f66 ?_;unfold Tryz.f66;simp only[Option.get!_some]
   repeat (first|simp only[go_sem,mk_bs,bs_size]|simp (disch:=first|exact oa|fail) only[AX,mk_bs,bs_size]|refine wki ?_|refine wqn ?_|refine vf_of (by first|exact htl) ?_)
  ·have h4:digs d=false:=by
    rcases hc with h|h|h|h
    ·exact absurd h h1
    ·exact absurd h h2
    ·exact absurd h h3
    ·exact h
   rw[h4]at htd
   refine fni Tryz.f66 ?_;unfold Tryz.f66;simp only[Option.get!_some]
   repeat (first|simp only[go_sem,mk_bs,bs_size,bs_list,htd,Bool.not_false]|simp (disch:=first|exact oa|fail) only[AX,mk_bs,bs_size,bs_list,htd,Bool.not_false]|refine wki ?_|refine wqn ?_|refine vf_of (by first|exact htl|exact ht) ?_)
 ·have e:expP l=if natD (l.dropWhile isPM)<=30 then some (if l.head?=some 45 then - (natD (l.dropWhile isPM):Int) else (natD (l.dropWhile isPM):Int)) else none:=by unfold expP;rw[if_neg hc]
  rw[e]
  clear e
  simp only[not_or,Nat.not_lt]at hc
  obtain⟨h1,h2,h3,h4⟩:=hc
  have h4:digs (l.dropWhile isPM)=true:=by simpa using h4
  have ha:=x_atoi (l:=l) (by omega) (atoi_is (by omega) (by omega) h4)
  rw[h4]at htd
  have hn:natD (l.dropWhile isPM)<100:=by
   have:=natD_lt h4
   have h5:10^(l.dropWhile isPM).length<=10^2:=Nat.pow_le_pow_right (by omega) (by omega)
   omega
  generalize natD (l.dropWhile isPM)=n at *
  generalize hd:l.dropWhile isPM=d at *
  have hv:(if l.head?=some 45 then - (n:Int) else (n:Int)).natAbs=n:=by split<;>omega
  generalize (if l.head?=some 45 then - (n:Int) else (n:Int))=v at *
  have e1:IntKind.i64.wrap (0-v) = -v:=by rw[wI64 (by omega)];omega
  have e2:(if -v>v then -v else v)=(n:Int):=by split<;>omega
  refine⟨v,?_,fun u hu=>by
   split at hu
   ·cases hu;omega
   ·cases hu⟩
  by_cases hn30:n<=30
  ·rw[if_pos hn30,Option.isSome_some]
   have e3:decide ((n:Int)<=30)=true:=decide_eq_true (by omega)
   refine fni Tryz.f66 ?_;unfold Tryz.f66;simp only[Option.get!_some]
   repeat (first|simp only[go_sem,mk_bs,bs_size,bs_list,htd,Bool.not_true,isCst,e1,e2,e3]|simp (disch:=first|exact oa|fail) only[AX,mk_bs,bs_size,bs_list,htd,Bool.not_true,isCst,e1,e2,e3]|refine wki ?_|refine wqn ?_|refine vf_of (by first|exact htl|exact ht|exact ha) ?_)
  ·rw[if_neg hn30,Option.isSome_none]
   have e3:decide ((n:Int)<=30)=false:=decide_eq_false (by omega)
   refine fni Tryz.f66 ?_;unfold Tryz.f66;simp only[Option.get!_some]
   repeat (first|simp only[go_sem,mk_bs,bs_size,bs_list,htd,Bool.not_true,isCst,e1,e2,e3]|simp (disch:=first|exact oa|fail) only[AX,mk_bs,bs_size,bs_list,htd,Bool.not_true,isCst,e1,e2,e3]|refine wki ?_|refine wqn ?_|refine vf_of (by first|exact htl|exact ht|exact ha) ?_)
theorem sz_ten (k:Nat) (h:k<=60):szR ((10:Rat)^k) 61:=by
 have e:((10:Rat)^k)=((10^k:Nat):Rat):=by simp
 rw[e]
 refine⟨?_,?_⟩
 ·have:=pow_lim (k:=k)
  simpa using Nat.le_trans this (by omega)
 ·simp
  decide
theorem data_ten (n:Nat) (hn:n<=60):Go.Ev.Fn CX 69 [.int .i64 (n:Int)] (rv ((10:Rat)^n)):=by
 have o1:=rat_Int 1 (by omega)
 have o10:=rat_Int 10 (by omega)
 have z10:szR ((10:Int):Rat) 1:=⟨by decide,by decide⟩
 refine fni Tryz.f69 ?_;unfold Tryz.f69;simp only[Option.get!_some]
 repeat (first|simp only[go_sem,rv,ratV]|simp (disch:=first|exact oa|fail) only[AX,rv,ratV]|refine wki ?_|refine wqn ?_|refine vpd 4 [] ?_|refine vf_of (by first|exact o1) ?_)
 refine vp_loop_inv (fun s=>s.tmp 2 = .ptr 2 0 0/\s.obj 2 0=some [.bool false,.sl 0 [],.sl 0 []]/\s.tmp 3 = .ptr 3 0 0/\s.tmp 5 = .sv (.int .i64 (n:Int)) /\
   ∃i:Nat,s.tmp 6 = .sv (.int .i64 (i:Int))/\i<=n/\s.obj 3 0=some (rvC ((10:Rat)^i)))
  (fun s=>match s.tmp 6 with | .sv (.int _ i)=>n-i.toNat|_=>0) ?_ ?_
 ·have e0:rvC ((10:Rat)^0)=[.bool false,natV (lim 1),natV (lim 1)]:=by simp[rvC]
  exact⟨rfl,rfl,rfl,rfl,0,rfl,by omega,by rw[e0];rfl⟩
 rintro s2 ⟨i2,o2,i3,i5,i,i6,hi,o3⟩
 by_cases hend:i=n
 ·subst hend
  generalize (10:Rat)^i=q at *
  repeat (first|simp only[go_sem,i2,o2,i3,i5,i6,o3,rvC]|simp (disch:=first|exact oa|fail) only[AX,i2,o2,i3,i5,i6,o3,rvC]|refine wki ?_|refine wqn ?_|refine vpd 4 [] ?_)
  first|rfl|skip
 ·have z:=sz_ten i (by omega)
  have m:=rat_Mul (RatA_rv z) (RatA_rv z10) (by omega) (by omega) (by omega)
  rw[show (10:Rat)^i*((10:Int):Rat)=(10:Rat)^(i+1) by rw[Rat.pow_succ];rfl]at m
  generalize hp:(10:Rat)^i=q at *
  generalize hp2:(10:Rat)^(i+1)=q2 at *
  unfold rvC at o3
  unfold rv ratV at m o10
  repeat (first|simp only[go_sem,i2,o2,i3,i5,i6,o3]|simp (disch:=first|exact oa|fail) only[AX,i2,o2,i3,i5,i6,o3]|refine wki ?_|refine wqn ?_|refine vpd 4 [] ?_|refine vf_of (by first|exact o10|exact m) ?_)
  exact⟨⟨i+1,rfl,by omega,by rw[hp2];rfl⟩,by omega⟩
def ratS (v:SV):Prop := ∃s n1 c1 n2 c2,v = .agg [.bool s,.sl n1 c1,.sl n2 c2]
theorem ratS_rv (q:Rat):ratS (rv q):=⟨_,_,_,_,_,rfl⟩
theorem szR_decP {l:List UInt8} {q:Rat} (h:decP l=some q) (hl:l.length<=400):szR q 401:=by
 have key : ∀ (s:Bool) (n d:Nat),(lim n).length<=400->(lim d).length<=401->szR (mkRat (sgn s n) d) 401:=fun s n d h1 h2=>szR_of (v:=ratV s (lim n) (lim d)) ⟨s,lim n,lim d,rfl,okL_lim _,okL_lim _,by omega,h2,by rw[wth_lim,wth_lim]⟩ (by omega)
 have ha:(absP l).length<=400:=by
  unfold absP
  split
  ·rw[List.length_tail];omega
  ·exact hl
 unfold decP at h
 split at h
 ·split at h
  ·cases h
  ·split at h
   ·rename_i n m h1 h2
    cases h
    have:=back_len (c:=46) (l:=absP l)
    have h3:=pow_lim (k:=(backL 46 (absP l)).length)
    exact key _ _ _ (parse_len h2) (by omega)
   ·cases h
 ·split at h
  ·rename_i n d h1 h2
   split at h
   ·cases h
   ·cases h
    exact key _ _ _ (parse_len h1) (by have:=parse_len h2;omega)
  ·cases h
theorem str_Contains (l:List UInt8) (c:UInt8):Go.Ev.Fn CX 67 [.str (bs l),.str (bs [c])] (.bool (l.contains c)):=by
 have hx:=str_Index CX_str l c
 refine fni Tryz.f67 ?_;unfold Tryz.f67;simp only[Option.get!_some]
 rcases index_cases c l with⟨h1,h2,_⟩|⟨i,h1,h2,_⟩
 ·rw[h2]at hx
  rw[h1]
  repeat (first|simp only[go_sem]|simp (disch:=first|exact oa|fail) only[AX]|refine wki ?_|refine wqn ?_|refine vf_of (by first|exact hx) ?_)
  first|rfl|skip
 ·rw[h2]at hx
  rw[h1]
  repeat (first|simp only[go_sem]|simp (disch:=first|exact oa|fail) only[AX]|refine wki ?_|refine wqn ?_|refine vf_of (by first|exact hx) ?_)
  first|rfl|skip
set_option maxHeartbeats 2000000 in
theorem data_Number (l:List UInt8) (hl:l.length<=1048576) : ∃v,ratS v/\Go.Ev.Fn CX 37 [.str (bs l)] (.tup [v,.int .i64 ((numP l).1:Int)])/\((numP l).1=0->v=rv (numP l).2/\szR (numP l).2 500):=by
 have o0:=rat_Int 0 (by omega)
 have s0 : ∀e:Nat,e≠0->(e=0->rv ((0:Int):Rat)=rv (0:Rat)/\szR 0 500):=fun e h1 h2=>absurd h2 h1
 by_cases h60:60<l.length
 ·have e:numP l=(3,0):=by unfold numP;rw[if_pos h60]
  rw[e]
  refine⟨_,ratS_rv ((0:Int):Rat),?_,fun h=>by cases h⟩
  unfold rv ratV at o0
  refine fni Tryz.f37 ?_;unfold Tryz.f37;simp only[Option.get!_some]
  repeat (first|simp only[go_sem,bs_size,rv,ratV]|simp (disch:=first|exact oa|fail) only[AX,bs_size,rv,ratV]|refine wki ?_|refine wqn ?_|refine vpd 11 [] ?_|refine vpd 13 [] ?_|refine vf_of (by first|exact o0) ?_)
  first|rfl|skip
 have c101:=str_Cut CX_str l 101 (by omega)
 have c47:=str_Contains l 47
 have f1:=front_len (c:=101) (l:=l)
 have b1:=back_len (c:=101) (l:=l)
 have hp:=dec_Parse (frontL 101 l) (by omega)
 cases h101:l.contains 101 with
 |false=>
  have hfr:frontL 101 l=l:=by
   rcases index_cases 101 l with⟨_,_,h,_⟩|⟨_,h,_⟩
   ·exact h
   ·rw[h101]at h;cases h
  rw[h101]at c101
  rw[hfr]at c101 hp
  cases hd:decP l with
  |some q=>
   have e:numP l=(0,q):=by unfold numP;rw[if_neg h60,h101,hd];rfl
   have e2:decPV l = .tup [rv q,.int .i64 0]:=by unfold decPV;rw[hd]
   rw[e]
   rw[e2]at hp
   refine⟨_,ratS_rv q,?_,fun _=>⟨rfl,?_⟩⟩
   ·unfold rv ratV at hp ⊢
    refine fni Tryz.f37 ?_;unfold Tryz.f37;simp only[Option.get!_some]
    repeat (first|simp only[go_sem,bs_size,mk_bs,Bool.not_false]|simp (disch:=first|exact oa|fail) only[AX,bs_size,mk_bs,Bool.not_false]|refine wki ?_|refine wqn ?_|refine vpd 11 [] ?_|refine vpd 13 [] ?_|refine vf_of (by first|exact c101|exact hp) ?_)
    first|rfl|skip
   ·have:=szR_decP hd (by omega)
    exact⟨by have:=this.1;simp only;omega,by have:=this.2;simp only;omega⟩
  |none=>
   have e:numP l=(2,0):=by unfold numP;rw[if_neg h60,h101,hd];rfl
   have e2:decPV l = .tup [noR,.int .i64 2]:=by unfold decPV;rw[hd]
   rw[e]
   rw[e2]at hp
   unfold noR at hp
   refine⟨noR,⟨_,_,_,_,_,rfl⟩,?_,fun h=>by cases h⟩
   unfold noR
   refine fni Tryz.f37 ?_;unfold Tryz.f37;simp only[Option.get!_some]
   repeat (first|simp only[go_sem,bs_size,mk_bs,Bool.not_false]|simp (disch:=first|exact oa|fail) only[AX,bs_size,mk_bs,Bool.not_false]|refine wki ?_|refine wqn ?_|refine vpd 11 [] ?_|refine vpd 13 [] ?_|refine vf_of (by first|exact c101|exact hp) ?_)
   first|rfl|skip
 |true=>
  rw[h101]at c101
  obtain⟨k,hk,hkv⟩:=data_exponent (backL 101 l) (by omega)
  cases hd:decP (frontL 101 l) with
  |none=>
   have e:numP l=(2,0):=by unfold numP;rw[if_neg h60,h101,hd];rfl
   have e2:decPV (frontL 101 l) = .tup [noR,.int .i64 2]:=by unfold decPV;rw[hd]
   rw[e]
   rw[e2]at hp
   unfold noR at hp
   refine⟨_,ratS_rv ((0:Int):Rat),?_,fun h=>by cases h⟩
   unfold rv ratV at o0
   generalize (expP (backL 101 l)).isSome=bb at *
   refine fni Tryz.f37 ?_;unfold Tryz.f37;simp only[Option.get!_some]
   repeat (first|simp only[go_sem,bs_size,mk_bs,Bool.not_true,rv,ratV]|simp (disch:=first|exact oa|fail) only[AX,bs_size,mk_bs,Bool.not_true,rv,ratV]|refine wki ?_|refine wqn ?_|refine vpd 11 [] ?_|refine vpd 13 [] ?_|refine vf_of (by first|exact c101|exact hp|exact hk|exact o0) ?_)
   first|rfl|skip
  |some q=>
   have e2:decPV (frontL 101 l) = .tup [rv q,.int .i64 0]:=by unfold decPV;rw[hd]
   rw[e2]at hp
   have zq:=szR_decP hd (by omega)
   cases hx:expP (backL 101 l) with
   |none=>
    have e:numP l=(2,0):=by unfold numP;rw[if_neg h60,h101,hd,hx];rfl
    rw[e]
    rw[hx,Option.isSome_none]at hk
    refine⟨_,ratS_rv ((0:Int):Rat),?_,fun h=>by cases h⟩
    unfold rv ratV at o0 hp
    refine fni Tryz.f37 ?_;unfold Tryz.f37;simp only[Option.get!_some]
    repeat (first|simp only[go_sem,bs_size,mk_bs,Bool.not_true,Bool.not_false,rv,ratV]|simp (disch:=first|exact oa|fail) only[AX,bs_size,mk_bs,Bool.not_true,Bool.not_false,rv,ratV]|refine wki ?_|refine wqn ?_|refine vpd 11 [] ?_|refine vpd 13 [] ?_|refine vf_of (by first|exact c101|exact hp|exact hk|exact o0) ?_)
    first|rfl|skip
   |some v=>
    obtain⟨rfl,hk1,hk2⟩:=hkv v hx
    rw[hx,Option.isSome_some]at hk
    cases h47:l.contains 47 with
    |true=>
     have e:numP l=(2,0):=by unfold numP;rw[if_neg h60,h101,hd,hx,h47];rfl
     rw[e]
     rw[h47]at c47
     refine⟨_,ratS_rv ((0:Int):Rat),?_,fun h=>by cases h⟩
     unfold rv ratV at o0 hp
     refine fni Tryz.f37 ?_;unfold Tryz.f37;simp only[Option.get!_some]
     repeat (first|simp only[go_sem,bs_size,mk_bs,Bool.not_true,rv,ratV]|simp (disch:=first|exact oa|fail) only[AX,bs_size,mk_bs,Bool.not_true,rv,ratV]|refine wki ?_|refine wqn ?_|refine vpd 11 [] ?_|refine vpd 13 [] ?_|refine vf_of (by first|exact c101|exact hp|exact hk|exact c47|exact o0) ?_)
     first|rfl|skip
    |false=>
     have e:numP l=(0,q*tenR v):=by unfold numP;rw[if_neg h60,h101,hd,hx,h47];rfl
     rw[e]
     rw[h47]at c47
     have ht:=data_ten v.natAbs (by omega)
     have zt:=sz_ten v.natAbs (by omega)
     by_cases hneg:v<0
     ·have e5:tenR v=1/(10:Rat)^v.natAbs:=by unfold tenR;rw[if_pos hneg]
      have hm:=rat_Div (RatA_rv zq) (RatA_rv zt) (by omega) (by omega) (by omega)
      have e6:q/(10:Rat)^v.natAbs=q*tenR v:=by rw[e5,Rat.div_def,Rat.div_def,Rat.one_mul]
      have zd:=szR_div zq zt (by omega) (by omega)
      rw[e6]at hm zd
      refine⟨_,ratS_rv (q*tenR v),?_,fun _=>⟨rfl,⟨by have:=zd.1;simp only;omega,by have:=zd.2;simp only;omega⟩⟩⟩
      have e7:(v.natAbs:Int)=0-v:=by omega
      rw[e7]at ht
      generalize (10:Rat)^v.natAbs=t at *
      generalize q*tenR v=r at *
      unfold rv ratV at o0 hp hm ⊢
      refine fni Tryz.f37 ?_;unfold Tryz.f37;simp only[Option.get!_some]
      repeat (first|simp only[go_sem,bs_size,mk_bs,Bool.not_true]|simp (disch:=first|exact oa|fail) only[AX,bs_size,mk_bs,Bool.not_true]|refine wki ?_|refine wqn ?_|refine vpd 11 [] ?_|refine vpd 13 [] ?_|refine vf_of (by first|exact c101|exact hp|exact hk|exact c47) ?_)
      repeat (first|simp only[go_sem,rv,ratV]|simp (disch:=first|exact oa|fail) only[AX,rv,ratV]|refine wki ?_|refine wqn ?_|refine vpd 11 [] ?_|refine vpd 13 [] ?_|refine vf_of (by first|exact ht|exact hm) ?_)
      first|rfl|skip
     ·have e5:tenR v=(10:Rat)^v.natAbs:=by unfold tenR;rw[if_neg hneg]
      have hm:=rat_Mul (RatA_rv zq) (RatA_rv zt) (by omega) (by omega) (by omega)
      have zd:=szR_mul zq zt (by omega)
      rw[e5]
      refine⟨_,ratS_rv (q*(10:Rat)^v.natAbs),?_,fun _=>⟨rfl,⟨by have:=zd.1;simp only;omega,by have:=zd.2;simp only;omega⟩⟩⟩
      have e7:v=(v.natAbs:Int):=by omega
      generalize (10:Rat)^v.natAbs=t at *
      generalize q*t=r at *
      generalize hm':v.natAbs=m at *
      subst e7
      unfold rv ratV at o0 hp hm ⊢
      refine fni Tryz.f37 ?_;unfold Tryz.f37;simp only[Option.get!_some]
      repeat (first|simp only[go_sem,bs_size,mk_bs,Bool.not_true]|simp (disch:=first|exact oa|fail) only[AX,bs_size,mk_bs,Bool.not_true]|refine wki ?_|refine wqn ?_|refine vpd 11 [] ?_|refine vpd 13 [] ?_|refine vf_of (by first|exact c101|exact hp|exact hk|exact c47) ?_)
      repeat (first|simp only[go_sem,rv,ratV]|simp (disch:=first|exact oa|fail) only[AX,rv,ratV]|refine wki ?_|refine wqn ?_|refine vpd 11 [] ?_|refine vpd 13 [] ?_|refine vf_of (by first|exact ht|exact hm) ?_)
      first|rfl|skip
end Go.Proofs.YtjphnjffglapgaaGreatDoor
namespace Go.Proofs.YtjphnjffglapgaaGreatDoor
open Go.Ev
def ngB (b:UInt8):Bool := !gapB b
theorem toks_skip (r:List UInt8):toks [] r=toks [] (r.dropWhile gapB):=by
 induction r with
 |nil=>rfl
 |cons b r ih=>
  rw[List.dropWhile_cons]
  cases h:gapB b with
  |true=>
   rw[toks,h]
   simpa using ih
  |false=>rfl
theorem toks_cut {b:UInt8} {r:List UInt8} (hb:gapB b=false):toks [] (b::r)=(b::r).takeWhile ngB::toks [] ((b::r).dropWhile ngB):=by
 have key : ∀ (r cur:List UInt8),cur≠[]->toks cur r=(cur.reverse++r.takeWhile ngB)::toks [] (r.dropWhile ngB):=by
  intro r
  induction r with
  |nil=>intro cur hc;simp[toks,hc]
  |cons x r ih=>
   intro cur hc
   rw[toks,List.takeWhile_cons,List.dropWhile_cons]
   unfold ngB
   cases hx:gapB x with
   |true=>
    simp only[if_true,Bool.not_true,Bool.false_eq_true,if_false,List.append_nil]
    rw[if_neg hc,toks,hx]
    simp
   |false=>
    simp only[Bool.false_eq_true,if_false,Bool.not_false,if_true]
    rw[ih (x::cur) (by simp)]
    unfold ngB
    simp
 rw[toks,hb]
 simp only[Bool.false_eq_true,if_false]
 rw[key r [b] (by simp),List.takeWhile_cons,List.dropWhile_cons]
 unfold ngB
 simp[hb]
def runA (qs:List Rat) (ts:List (List UInt8)):Nat×List Rat:=match runP ts with
 |(0,l)=>(0,qs++l)
 |(e,_)=>(e,[])
theorem runA_nil (qs:List Rat):runA qs []=(0,qs):=by simp[runA,runP]
theorem runA_cons_ok {qs:List Rat} {t:List UInt8} {r:List (List UInt8)} (h:(numP t).1=0):runA qs (t::r)=runA (qs++[(numP t).2]) r:=by
 unfold runA
 rw[runP]
 cases hq:numP t with
 |mk e q=>
  rw[hq]at h
  cases h
  dsimp only
  cases runP r with
  |mk e2 l=>
   cases e2 with
   |zero=>simp
   |succ n=>rfl
theorem runA_cons_bad {qs:List Rat} {t:List UInt8} {r:List (List UInt8)} (h:(numP t).1≠0):runA qs (t::r)=((numP t).1,[]):=by
 unfold runA
 rw[runP]
 cases hq:numP t with
 |mk e q=>
  rw[hq]at h
  cases e with
  |zero=>exact absurd rfl h
  |succ n=>rfl
def finP (r:Nat×List Rat):Nat×List Rat:=match r with
 |(0,x)=>if 256<x.length then (3,[]) else (0,x)
 |(e,_)=>(e,[])
theorem parse_runA (l:List UInt8):parseP l=finP (runA [] (toks [] (plainL false l))):=by
 unfold parseP runA finP
 cases runP (toks [] (plainL false l)) with
 |mk e x=>cases e<;>rfl
theorem runP_sz : ∀ {ts:List (List UInt8)},∀q∈(runP ts).2,szR q 500:=by
 intro ts
 induction ts with
 |nil=>intro q hq;simp[runP]at hq
 |cons t r ih=>
  intro q hq
  unfold runP at hq
  split at hq
  ·rename_i q0 hq0
   split at hq
   ·rename_i l0 hl0
    rcases List.mem_cons.1 hq with h|h
    ·subst h
     have ht : ¬60<t.length:=fun h60=>by
      have:numP t=(3,0):=by unfold numP;rw[if_pos h60]
      rw[this]at hq0
      cases hq0
     obtain⟨v,_,_,h⟩:=data_Number t (by omega)
     rw[hq0]at h
     exact(h rfl).2
    ·rw[hl0]at ih
     exact ih q h
   ·simp at hq
  ·simp at hq
theorem parse_sz {l:List UInt8} : ∀q∈(parseP l).2,szR q 500:=by
 intro q hq
 unfold parseP at hq
 split at hq
 ·rename_i x hx
  split at hq
  ·simp at hq
  ·have:=runP_sz (ts:=toks [] (plainL false l)) q
   rw[hx]at this
   exact this hq
 ·simp at hq
theorem gap_index (b:UInt8) : ∃z:Int,Lib.indexByte [32,44,10] b=z /\ -1<=z/\z<3/\(gapB b=true->0<=z)/\(gapB b=false->z<0):=by
 refine⟨_,rfl,?_⟩
 have key : ∀n:Nat,n<256->(-1<=Lib.indexByte [32,44,10] (UInt8.ofNat n)/\Lib.indexByte [32,44,10] (UInt8.ofNat n)<3/\(gapB (UInt8.ofNat n)=true->0<=Lib.indexByte [32,44,10] (UInt8.ofNat n))/\(gapB (UInt8.ofNat n)=false->Lib.indexByte [32,44,10] (UInt8.ofNat n)<0)):=by decide
 have:=key b.toNat b.toNat_lt
 rwa [UInt8.ofNat_toNat]at this
theorem str_IndexByte (s:List UInt8) (b:UInt8):Go.Ev.Fn CX 34 [.str (bs s),.int .u8 (b.toNat:Int)] (.int .i64 (Lib.indexByte s b)):=by
 have h:=lite_IndexByte CX_str (bs s) b
 rw[bs_toList]at h
 refine fni Tryz.f34 ?_;unfold Tryz.f34;simp only[Option.get!_some]
 simp only[go_sem]
 refine vf_of (h) ?_;simp only[go_sem]
theorem rvsC_app (l:List Rat) (q:Rat):rvsC (l++[q])=rvsC l++rvC q:=by unfold rvsC;simp
set_option maxHeartbeats 4000000 in
theorem data_Parse (l:List UInt8) (hl:l.length<=100000):Go.Ev.Fn CX 19 [.str (bs l)] (.tup [.sl (parseP l).2.length (rvsC (parseP l).2),.int .i64 ((parseP l).1:Int)]):=by
 have hp:=data_plain l (by omega)
 have hPl:=plain_len l false
 rw[parse_runA]
 generalize plainL false l=P at *
 generalize hres:runA [] (toks [] P)=res at *
 refine fni Tryz.f19 ?_;unfold Tryz.f19;simp only[Option.get!_some]
 repeat (first|simp only[go_sem,mk_bs]|simp (disch:=first|exact oa|fail) only[AX,mk_bs]|refine wki ?_|refine wqn ?_|refine vf_of (by first|exact hp) ?_)
 refine vp_ind (fun s=>s.tmp 0 = .sv (.str (bs P)) /\ ∃ (i:Nat) (qs:List Rat),s.tmp 5 = .sv (.int .i64 (i:Int))/\i<=P.length/\qs.length<=i/\runA qs (toks [] (P.drop i))=res /\
   ((qs=[]/\s.tmp 4 = .nil/\s.gen 56=0)\/(qs≠[]/\s.tmp 4 = .ref 56 0 3 0 qs.length/\s.obj 56 0=some (rvsC qs))))
  (fun s=>match s.tmp 5 with | .sv (.int _ i)=>P.length-i.toNat|_=>0) ?_ ?_
 ·exact⟨rfl,0,[],rfl,by omega,by simp,hres,.inl ⟨rfl,rfl,rfl⟩⟩
 rintro s2 ⟨i0,i,qs,i5,hi,hq,hr,hc⟩ ih
 have hμ:(match s2.tmp 5 with | .sv (.int _ i)=>P.length-i.toNat|_=>0)=P.length-i:=by rw[i5];simp
 rw[hμ]at ih
 refine vp_loop_inv (fun s=>s.tmp 0 = .sv (.str (bs P))/\s.tmp 4=s2.tmp 4/\s.gen 56=s2.gen 56/\s.obj 56 0=s2.obj 56 0 /\
   ∃j:Nat,s.tmp 5 = .sv (.int .i64 (j:Int))/\i<=j/\j<=P.length/\(P.drop j).dropWhile gapB=(P.drop i).dropWhile gapB)
  (fun s=>match s.tmp 5 with | .sv (.int _ j)=>P.length-j.toNat|_=>0) ?_ ?_
 ·exact⟨i0,rfl,rfl,rfl,i,i5,by omega,hi,rfl⟩
 rintro s3 ⟨j0,j4,jg,jo,j,j5,hij,hj,hdw⟩
 by_cases hend:j=P.length
 ·have hnil:(P.drop i).dropWhile gapB=[]:=by rw[<- hdw,hend,List.drop_length];rfl
  rw[toks_skip,hnil,show toks [] ([]:List UInt8)=[] from rfl,runA_nil]at hr
  subst hend
  by_cases hbig:256<qs.length
  ·have e:finP res=(3,[]):=by rw[<- hr];unfold finP;simp only;rw[if_pos hbig]
   rw[e]
   rcases hc with⟨rfl,_⟩|⟨_,i4,iO⟩
   ·simp at hbig
   ·rw[i4]at j4
    repeat (first|simp only[go_sem,j0,j4,j5,bs_size]|simp (disch:=first|exact oa|fail) only[AX,j0,j4,j5,bs_size]|refine wki ?_|refine wqn ?_)
    exact⟨rfl,rfl⟩
  ·have e:finP res=(0,qs):=by rw[<- hr];unfold finP;simp only;rw[if_neg hbig]
   rw[e]
   rcases hc with⟨rfl,i4,_⟩|⟨_,i4,iO⟩
   ·rw[i4]at j4
    repeat (first|simp only[go_sem,j0,j4,j5,bs_size]|simp (disch:=first|exact oa|fail) only[AX,j0,j4,j5,bs_size]|refine wki ?_|refine wqn ?_)
    exact⟨rfl,rfl⟩
   ·rw[i4]at j4
    rw[iO]at jo
    have hrl:=rvsC_len qs
    have ht:(rvsC qs).take (qs.length*3)=rvsC qs:=List.take_of_length_le (by omega)
    repeat (first|simp only[go_sem,j0,j4,j5,bs_size]|simp (disch:=first|exact oa|fail) only[AX,j0,j4,j5,bs_size]|refine wki ?_|refine wqn ?_)
    refine⟨ro_ref (cs:=rvsC qs) (by decide) ?_ ?_,rfl⟩
    ·simp only[go_sem,jo]
    ·rw[List.drop_zero,ht]
 ·have hlt:j<P.length:=by omega
  have hg:P[j]?=some P[j]:=List.getElem?_eq_getElem hlt
  have hdr:P.drop j=P[j]::P.drop (j+1):=List.drop_eq_getElem_cons hlt
  obtain⟨z,hz0,hz1,hz2,hz3,hz4⟩:=gap_index P[j]
  have hx:=str_IndexByte [32,44,10] P[j]
  rw[hz0]at hx
  cases hgap:gapB P[j]with
  |true=>
   have hz5:=hz3 hgap
   have hdw2:(P.drop (j+1)).dropWhile gapB=(P.drop i).dropWhile gapB:=by
    rw[<- hdw,hdr,List.dropWhile_cons,hgap]
    rfl
   clear hdr
   generalize P[j]=b at *
   repeat (first|simp only[go_sem,j0,j4,j5,bs_size,vo_ix,idxB_bs,hg,mk_bs,jg,jo]|simp (disch:=first|exact oa|fail) only[AX,j0,j4,j5,bs_size,vo_ix,idxB_bs,hg,mk_bs,jg,jo]|refine wki ?_|refine wqn ?_|refine vf_of (by first|exact hx) ?_)
   exact⟨⟨j+1,rfl,by omega,by omega,hdw2⟩,by omega⟩
  |false=>
   have hz5:=hz4 hgap
   have hself:(P.drop j).dropWhile gapB=P.drop j:=by rw[hdr,List.dropWhile_cons,hgap];rfl
   rw[hself]at hdw
   rw[toks_skip,<- hdw]at hr
   have hcut:=toks_cut (r:=P.drop (j+1)) hgap
   rw[<- hdr]at hcut
   rw[hcut]at hr
   clear hdr hcut hself hdw
   have hng:ngB P[j]=true:=by unfold ngB;rw[hgap];rfl
   repeat (first|simp only[go_sem,j0,j4,j5,bs_size,vo_ix,idxB_bs,hg,mk_bs,jg,jo]|simp (disch:=first|exact oa|fail) only[AX,j0,j4,j5,bs_size,vo_ix,idxB_bs,hg,mk_bs,jg,jo]|refine wki ?_|refine wqn ?_|refine vf_of (by first|exact hx) ?_)
   refine vp_loop_inv (fun s=>s.tmp 0 = .sv (.str (bs P))/\s.tmp 4=s3.tmp 4/\s.gen 56=s3.gen 56/\s.obj 56 0=s3.obj 56 0/\s.tmp 5 = .sv (.int .i64 (j:Int)) /\
     ∃k:Nat,s.tmp 6 = .sv (.int .i64 (k:Int))/\j<=k/\k<=P.length/\(P.drop j).takeWhile ngB=(P.drop j).take (k-j)++(P.drop k).takeWhile ngB/\(P.drop j).dropWhile ngB=(P.drop k).dropWhile ngB)
    (fun s=>match s.tmp 6 with | .sv (.int _ k)=>P.length-k.toNat|_=>0) ?_ ?_
   ·exact⟨j0,rfl,rfl,rfl,j5,j,rfl,by omega,hj,by simp,rfl⟩
   rintro s4 ⟨k0,k4,kg,ko,k5,k,k6,hjk,hk,htw,hdw⟩
   have kk:s4.tmp 4=s2.tmp 4:=k4.trans j4
   have kkg:s4.gen 56=s2.gen 56:=kg.trans jg
   have kko:s4.obj 56 0=s2.obj 56 0:=ko.trans jo
   have stop:(k=P.length \/ ∃hkl:k<P.length,gapB P[k]=true)->(P.drop k).takeWhile ngB=[]/\(P.drop k).dropWhile ngB=P.drop k/\j<k:=by
    rintro(h|⟨hkl,h⟩)
    ·rw[h,List.drop_length]
     exact⟨rfl,rfl,by omega⟩
    ·rw[List.drop_eq_getElem_cons hkl,List.takeWhile_cons,List.dropWhile_cons]
     have e:ngB P[k]=false:=by unfold ngB;rw[h];rfl
     rw[e]
     refine⟨rfl,rfl,?_⟩
     rcases Nat.lt_or_ge j k with h1|h1
     ·exact h1
     ·have:k=j:=by omega
      subst this
      rw[hgap]at h
      cases h
   have done:(k=P.length \/ ∃hkl:k<P.length,gapB P[k]=true)->j<k /\ ∃w,w=(P.drop j).take (k-j)/\w.length<=100000/\runA qs (w::toks [] (P.drop k))=res:=by
    intro h
    obtain⟨h1,h2,h3⟩:=stop h
    refine⟨h3,_,rfl,by rw[List.length_take];omega,?_⟩
    rw[h1,List.append_nil]at htw
    rw[htw,hdw,h2]at hr
    exact hr
   have fin : ∀w:List UInt8,runA qs (w::toks [] (P.drop k))=res->((numP w).1≠0->finP res=((numP w).1,[]))/\((numP w).1=0->runA (qs++[(numP w).2]) (toks [] (P.drop k))=res):=by
    intro w hw
    refine⟨fun h => ?_,fun h => ?_⟩
    ·rw[runA_cons_bad h]at hw
     rw[<- hw]
     cases hn:(numP w).1 with
     |zero=>exact absurd hn h
     |succ n=>rfl
    ·rw[runA_cons_ok h]at hw
     exact hw
   have go : ∀ (w:List UInt8),j<k->w=(P.drop j).take (k-j)->w.length<=100000->runA qs (w::toks [] (P.drop k))=res ->
     (∃v,ratS v/\Go.Ev.Fn CX 37 [.str (bs w)] (.tup [v,.int .i64 ((numP w).1:Int)])/\((numP w).1=0->v=rv (numP w).2)):=by
    intro w _ _ hw _
    obtain⟨v,h1,h2,h3⟩:=data_Number w (by omega)
    exact⟨v,h1,h2,fun h=>(h3 h).1⟩
   by_cases hke:k=P.length
   ·obtain⟨hjk',w,hw,hwl,hrw⟩:=done (.inl hke)
    have hw':(P.drop j).take (k-j)=w:=hw.symm
    obtain⟨v,⟨sg,n1,c1,n2,c2,rfl⟩,hN,hv⟩:=go w hjk' hw hwl hrw
    obtain⟨f1,f2⟩:=fin w hrw
    by_cases hm:(numP w).1=0
    ·have f3:=f2 hm
     rw[hv hm,hm]at hN
     generalize (numP w).2=q at *
     have hap:=rvsC_app qs q
     have hrl:=rvsC_len qs
     clear go fin done stop hx hv f1 f2
     unfold rv ratV at hN
     rcases hc with⟨rfl,i4,ig⟩|⟨hq0,i4,iO⟩
     ·rw[i4]at kk
      rw[ig]at kkg
      repeat (first|simp only[go_sem,k0,k5,k6,bs_size,mk_bs,bs_extract,hw',kk,kkg]|simp (disch:=first|exact oa|fail) only[AX,k0,k5,k6,bs_size,mk_bs,bs_extract,hw',kk,kkg]|refine wki ?_|refine wqn ?_|refine vf_of (by first|exact hN) ?_)
      refine sc_goto (by exact rfl) ?_
      simp only[go_sem]
      refine ih _ ⟨?_,k,[q],?_,by omega,by simp;omega,f3,.inr ⟨by simp,?_,?_⟩⟩ ?_
      ·simp only[go_sem,k0,kk,kkg]
      ·simp only[go_sem,k6]
      ·simp only[go_sem,kk,kkg]
       first|rfl|skip
      ·simp only[go_sem,kk,kkg]
       first|rfl|skip
      ·simp only[go_sem,k6]
       simp
       omega
     ·rw[i4]at kk
      rw[iO]at kko
      unfold rvC at hap
      repeat (first|simp only[go_sem,k0,k5,k6,bs_size,mk_bs,bs_extract,hw',kk,kko,N0,hrl]|simp (disch:=first|exact oa|fail) only[AX,k0,k5,k6,bs_size,mk_bs,bs_extract,hw',kk,kko,N0,hrl]|refine wki ?_|refine wqn ?_|refine vf_of (by first|exact hN) ?_)
      refine sc_goto (by exact rfl) ?_
      simp only[go_sem]
      refine ih _ ⟨?_,k,qs++[q],?_,by omega,by simp;omega,f3,.inr ⟨by simp,?_,?_⟩⟩ ?_
      ·simp only[go_sem,k0,kk,kko,hrl]
      ·simp only[go_sem,k6]
      ·simp only[go_sem,kk,kko,List.length_append]
       first|rfl|skip
      ·simp only[go_sem,kk,kko,hap]
       first|rfl|skip
      ·simp only[go_sem,k6]
       simp
       omega
    ·rw[f1 hm]
     generalize (numP w).1=m at *
     clear go fin done stop hx hv f1 f2
     repeat (first|simp only[go_sem,k0,k5,k6,bs_size,mk_bs,bs_extract,hw']|simp (disch:=first|exact oa|fail) only[AX,k0,k5,k6,bs_size,mk_bs,bs_extract,hw']|refine wki ?_|refine wqn ?_|refine vf_of (by first|exact hN) ?_)
     first|exact⟨rfl,rfl⟩|rfl|skip
   ·have hkl:k<P.length:=by omega
    have hgk:P[k]?=some P[k]:=List.getElem?_eq_getElem hkl
    obtain⟨y,hy0,hy1,hy2,hy3,hy4⟩:=gap_index P[k]
    have hyx:=str_IndexByte [32,44,10] P[k]
    rw[hy0]at hyx
    cases hgapk:gapB P[k]with
    |true=>
     have hy5:=hy3 hgapk
     obtain⟨hjk',w,hw,hwl,hrw⟩:=done (.inr ⟨hkl,hgapk⟩)
     have hw':(P.drop j).take (k-j)=w:=hw.symm
     clear hy3 hy4
     generalize P[k]=b at *
     obtain⟨v,⟨sg,n1,c1,n2,c2,rfl⟩,hN,hv⟩:=go w hjk' hw hwl hrw
     obtain⟨f1,f2⟩:=fin w hrw
     by_cases hm:(numP w).1=0
     ·have f3:=f2 hm
      rw[hv hm,hm]at hN
      generalize (numP w).2=q at *
      have hap:=rvsC_app qs q
      have hrl:=rvsC_len qs
      clear go fin done stop hx hv f1 f2
      unfold rv ratV at hN
      rcases hc with⟨rfl,i4,ig⟩|⟨hq0,i4,iO⟩
      ·rw[i4]at kk
       rw[ig]at kkg
       repeat (first|simp only[go_sem,k0,k5,k6,bs_size,mk_bs,bs_extract,vo_ix,idxB_bs,hgk,hw',kk,kkg]|simp (disch:=first|exact oa|fail) only[AX,k0,k5,k6,bs_size,mk_bs,bs_extract,vo_ix,idxB_bs,hgk,hw',kk,kkg]|refine wki ?_|refine wqn ?_|refine vf_of (by first|exact hyx|exact hN) ?_)
       refine sc_goto (by exact rfl) ?_
       simp only[go_sem]
       refine ih _ ⟨?_,k,[q],?_,by omega,by simp;omega,f3,.inr ⟨by simp,?_,?_⟩⟩ ?_
       ·simp only[go_sem,k0,kk,kkg]
       ·simp only[go_sem,k6]
       ·simp only[go_sem,kk,kkg]
        first|rfl|skip
       ·simp only[go_sem,kk,kkg]
        first|rfl|skip
       ·simp only[go_sem,k6]
        simp
        omega
      ·rw[i4]at kk
       rw[iO]at kko
       unfold rvC at hap
       repeat (first|simp only[go_sem,k0,k5,k6,bs_size,mk_bs,bs_extract,vo_ix,idxB_bs,hgk,hw',kk,kko,N0,hrl]|simp (disch:=first|exact oa|fail) only[AX,k0,k5,k6,bs_size,mk_bs,bs_extract,vo_ix,idxB_bs,hgk,hw',kk,kko,N0,hrl]|refine wki ?_|refine wqn ?_|refine vf_of (by first|exact hyx|exact hN) ?_)
       refine sc_goto (by exact rfl) ?_
       simp only[go_sem]
       refine ih _ ⟨?_,k,qs++[q],?_,by omega,by simp;omega,f3,.inr ⟨by simp,?_,?_⟩⟩ ?_
       ·simp only[go_sem,k0,kk,kko,hrl]
       ·simp only[go_sem,k6]
       ·simp only[go_sem,kk,kko,List.length_append]
        first|rfl|skip
       ·simp only[go_sem,kk,kko,hap]
        first|rfl|skip
       ·simp only[go_sem,k6]
        simp
        omega
     ·rw[f1 hm]
      generalize (numP w).1=m at *
      clear go fin done stop hx hv f1 f2
      repeat (first|simp only[go_sem,k0,k5,k6,bs_size,mk_bs,bs_extract,vo_ix,idxB_bs,hgk,hw']|simp (disch:=first|exact oa|fail) only[AX,k0,k5,k6,bs_size,mk_bs,bs_extract,vo_ix,idxB_bs,hgk,hw']|refine wki ?_|refine wqn ?_|refine vf_of (by first|exact hyx|exact hN) ?_)
      first|exact⟨rfl,rfl⟩|rfl|skip
    |false=>
     have hy5:=hy4 hgapk
     have hngk:ngB P[k]=true:=by unfold ngB;rw[hgapk];rfl
     have h2:(P.drop j).dropWhile ngB=(P.drop (k+1)).dropWhile ngB:=by
      rw[hdw,List.drop_eq_getElem_cons hkl,List.dropWhile_cons,hngk]
      rfl
     have h3:(P.drop j).takeWhile ngB=(P.drop j).take (k+1-j)++(P.drop (k+1)).takeWhile ngB:=by
      rw[htw,List.drop_eq_getElem_cons hkl,List.takeWhile_cons,hngk,show k+1-j=(k-j)+1 by omega,List.take_add_one,List.getElem?_drop,show j+(k-j)=k by omega,hgk]
      simp
     clear go fin done stop hx hy3 hy4
     generalize P[k]=b at *
     repeat (first|simp only[go_sem,k0,k4,k5,k6,bs_size,mk_bs,vo_ix,idxB_bs,hgk,kg,ko]|simp (disch:=first|exact oa|fail) only[AX,k0,k4,k5,k6,bs_size,mk_bs,vo_ix,idxB_bs,hgk,kg,ko]|refine wki ?_|refine wqn ?_|refine vf_of (by first|exact hyx) ?_)
     exact⟨⟨k+1,rfl,by omega,by omega,h3,h2⟩,by omega⟩
end Go.Proofs.YtjphnjffglapgaaGreatDoor
namespace Go.Proofs.YtjphnjffglapgaaGreatDoor
open Go.Ev
theorem x_cmp (a b:List UInt8):Go.Ev.Fn CX 109 [.str (bs a),.str (bs b)] (.int .i64 (Lib.compareBytes a b)):=by
 refine⟨1,List.replicate 2 none,?_⟩
 have h4:CX.X 109 ([SV.str (bs a),.str (bs b)].map Arg.sv)=some (.sv (.int .i64 (Lib.compareBytes a b)),List.replicate 2 none):=by
  show xCmp [.sv (.str (bs a)),.sv (.str (bs b))]=_
  unfold xCmp
  simp only[bs_toList]
 unfold callN
 rw[stq_sv,h4]
theorem str_Compare (a b:List UInt8):Go.Ev.Fn CX 43 [.str (bs a),.str (bs b)] (.int .i64 (Lib.compareBytes a b)):=by
 have h0:=x_cmp a b
 have h1:Go.Ev.Fn CX 77 [.str (bs a),.str (bs b)] (.int .i64 (Lib.compareBytes a b)):=by
  refine fni Tryz.f77 ?_;unfold Tryz.f77;simp only[Option.get!_some]
  simp only[go_sem]
  refine vf_of (h0) ?_;simp only[go_sem]
 refine fni Tryz.f43 ?_;unfold Tryz.f43;simp only[Option.get!_some]
 simp only[go_sem]
 refine vf_of (h1) ?_;simp only[go_sem]
theorem sess_by (a b:List UInt8) (n:Nat) (rs:List SV):Go.Ev.Fn CX 42 [.agg [.str (bs a),.sl n rs],.str (bs b)] (.int .i64 (Lib.compareBytes a b)):=by
 have h0:=str_Compare a b
 refine fni Tryz.f42 ?_;unfold Tryz.f42;simp only[Option.get!_some]
 simp only[go_sem]
 refine vf_of (h0) ?_;simp only[go_sem]
def letB:List UInt8:=[97,98,99,100,101,102,103,104,105,106,107,108,109,110,111,112,113,114,115,116,117,118,119,120,121,122]
def sgnB:List UInt8:=letB++[48,49,50,51,52,53,54,55,56,57]
def nameP (l:List UInt8):Bool:=match l with
 | []=>false
 |b::r=>decide (r.length<12)&&(decide (0<=Lib.indexByte letB b)&&(Lib.trimS (b::r) sgnB).isEmpty)
theorem isEmpty_beq (l:List UInt8):(l==[])=l.isEmpty:=by cases l<;>rfl
theorem sess_Name (l:List UInt8) (hl:l.length<=1048576):Go.Ev.Fn CX 18 [.str (bs l)] (.bool (nameP l)):=by
 cases l with
 |nil=>
  have h0:(([]:List UInt8)==[])=true:=rfl
  refine fni Tryz.f18 ?_;unfold Tryz.f18;simp only[Option.get!_some]
  repeat (first|simp only[go_sem,mk_bs,bs_eq,h0,Bool.not_true]|simp (disch:=first|exact oa|fail) only[AX,mk_bs,bs_eq,h0,Bool.not_true]|refine wki ?_|refine wqn ?_)
  rfl
 |cons b r=>
  have hi:=str_IndexByte letB b
  have ht:=x_trim (b::r) sgnB (by omega) (by decide) (by decide)
  have hn:((b::r)==([]:List UInt8))=false:=rfl
  have hx:(b::r)[0]?=some b:=rfl
  have hsz:(b::r).length=r.length+1:=rfl
  have hnp:nameP (b::r)=(decide (r.length<12)&&(decide (0<=Lib.indexByte letB b)&&(Lib.trimS (b::r) sgnB).isEmpty)):=rfl
  rw[hnp]
  generalize (b::r)=l at *
  generalize hT:Lib.trimS l sgnB=T at *
  generalize hI:Lib.indexByte letB b=z at *
  rw[show letB=[97,98,99,100,101,102,103,104,105,106,107,108,109,110,111,112,113,114,115,116,117,118,119,120,121,122] from rfl]at hi
  rw[show sgnB=[97,98,99,100,101,102,103,104,105,106,107,108,109,110,111,112,113,114,115,116,117,118,119,120,121,122,48,49,50,51,52,53,54,55,56,57] from rfl]at ht
  clear hT hI
  by_cases h1:r.length<12
  ·have d1:=decide_eq_true h1
   by_cases h2:0<=z
   ·have d2:=decide_eq_true h2
    refine fni Tryz.f18 ?_;unfold Tryz.f18;simp only[Option.get!_some]
    repeat (first|simp only[go_sem,mk_bs,bs_eq,bs_size,hn,hsz,hx,vo_ix,idxB_bs,Bool.not_false,d1,d2,ge_iff_le,isEmpty_beq,Option.map_some]|simp (disch:=first|exact oa|fail) only[AX,mk_bs,bs_eq,bs_size,hn,hsz,hx,vo_ix,idxB_bs,Bool.not_false,d1,d2,ge_iff_le,isEmpty_beq,Option.map_some]|refine wki ?_|refine wqn ?_|refine vf_of (by first|exact hi|exact ht) ?_)
   ·have d2:=decide_eq_false h2
    refine fni Tryz.f18 ?_;unfold Tryz.f18;simp only[Option.get!_some]
    repeat (first|simp only[go_sem,mk_bs,bs_eq,bs_size,hn,hsz,hx,vo_ix,idxB_bs,Bool.not_false,d1,d2,ge_iff_le,isEmpty_beq,Option.map_some]|simp (disch:=first|exact oa|fail) only[AX,mk_bs,bs_eq,bs_size,hn,hsz,hx,vo_ix,idxB_bs,Bool.not_false,d1,d2,ge_iff_le,isEmpty_beq,Option.map_some]|refine wki ?_|refine wqn ?_|refine vf_of (by first|exact hi) ?_)
    rw[Bool.false_and]
  ·refine fni Tryz.f18 ?_;unfold Tryz.f18;simp only[Option.get!_some]
   repeat (first|simp only[go_sem,mk_bs,bs_eq,bs_size,hn,hsz,Bool.not_false]|simp (disch:=first|exact oa|fail) only[AX,mk_bs,bs_eq,bs_size,hn,hsz,Bool.not_false]|refine wki ?_|refine wqn ?_)
   simp[h1]
theorem rvs_snocA {l:List Rat} {i:Nat} (h:i<l.length):rvsC (l.take i)++rvC (l.getD i 0)=rvsC (l.take (i+1)):=by rw[take_snoc l h,rvsC_snoc]
theorem sess_copied {cs:List SV} {l:List Rat} {L:Nat} (h:RowC cs l L) (hL:1<=L) (hL2:L<=10000) (hl:l.length<=100000):Go.Ev.Fn CX 24 [.sl l.length cs] (.sl l.length (rvsC l)):=by
 have hlen:=row_len h
 refine fni Tryz.f24 ?_;unfold Tryz.f24;simp only[Option.get!_some]
 repeat (first|simp only[go_sem]|simp (disch:=first|exact oa|fail) only[AX]|refine wki ?_|refine wqn ?_)
 refine vp_loop_inv (fun s=>s.tmp 6 = .sv (.sl l.length cs)/\s.tmp 7 = .sv (.int .i64 (l.length:Int)) /\ ∃i:Nat,s.tmp 8 = .sv (.int .i64 (i:Int))/\i<=l.length /\
   ((i=0/\s.tmp 3 = .nil/\s.gen 16=0)\/(0<i/\s.tmp 3 = .ref 16 0 3 0 i/\s.obj 16 0=some (rvsC (l.take i)))))
  (fun s=>match s.tmp 8 with | .sv (.int _ i)=>l.length-i.toNat|_=>0) ⟨rfl,rfl,0,rfl,by omega,.inl ⟨rfl,rfl,rfl⟩⟩ ?_
 rintro s2 ⟨i6,i7,i,i8,hi,hcase⟩
 by_cases hend:i=l.length
 ·subst hend
  rw[List.take_length]at hcase
  rcases hcase with⟨h0,i3,_⟩|⟨h0,i3,iO⟩
  ·have:l=[]:=List.eq_nil_of_length_eq_zero h0
   subst this
   repeat (first|simp only[go_sem,i6,i7,i8,i3]|simp (disch:=first|exact oa|fail) only[AX,i6,i7,i8,i3]|refine wki ?_|refine wqn ?_)
   first|rfl|skip
  ·have hrl:=rvsC_len l
   repeat (first|simp only[go_sem,i6,i7,i8,i3,iO]|simp (disch:=first|exact oa|fail) only[AX,i6,i7,i8,i3,iO]|refine wki ?_|refine wqn ?_)
   refine ro_ref (cs:=rvsC l) (by decide) ?_ ?_
   ·simp only[go_sem,i3,iO]
   ·rw[List.drop_zero,List.take_of_length_le (by omega)]
 ·obtain⟨s,n,d,rest,hat,hA⟩:=row_at (i:=i) h (by omega)
  have a:=rat_Norm hA (by omega)
  have hsn:=rvs_snocA (l:=l) (i:=i) (by omega)
  have hrl:=rvsC_len (l.take i)
  rw[List.length_take,Nat.min_eq_left (by omega)]at hrl
  clear h hA
  rcases hcase with⟨h00,i3,ig⟩|⟨h00,i3,iO⟩
  ·subst h00
   rw[List.take_zero,rvsC_nil,List.nil_append]at hsn
   rw[Nat.zero_mul,List.drop_zero]at hat
   subst hat
   repeat (first|simp only[go_sem,i6,i7,i3,i8,ig,N0,rvC]|simp (disch:=first|exact oa|fail) only[AX,i6,i7,i3,i8,ig,N0,rvC]|refine wki ?_|refine wqn ?_|refine vf_of (by first|exact a) ?_)
   exact⟨⟨1,rfl,by omega,.inr ⟨by omega,rfl,by first|(rw[<- hsn];rfl)|rw[<- hsn]⟩⟩,by omega⟩
  ·unfold rvC at hsn
   repeat (first|simp only[go_sem,i6,i7,i3,i8,iO,hat,hlen,N0,hsn,hrl,rvC]|simp (disch:=first|exact oa|fail) only[AX,i6,i7,i3,i8,iO,hat,hlen,N0,hsn,hrl,rvC]|refine wki ?_|refine wqn ?_|refine vf_of (by first|exact a) ?_)
   exact⟨⟨i+1,rfl,by omega,.inr ⟨by omega,rfl,by first|(rw[<- hsn];rfl)|rw[<- hsn]⟩⟩,by omega⟩
theorem sess_New:FnH CX 5 [] [.nil,.sv (.int .i64 6)]:=⟨20,[],by kernel_rfl⟩
end Go.Proofs.YtjphnjffglapgaaGreatDoor
namespace Go.Proofs.YtjphnjffglapgaaGreatDoor
open Go.Ev
abbrev Ent:=List UInt8×Nat×List SV
def entC (es:List Ent):List SV:=es.flatMap fun e=>[.str (bs e.1),.sl e.2.1 e.2.2]
theorem entC_cons (e:Ent) (es:List Ent):entC (e::es) = .str (bs e.1) :: .sl e.2.1 e.2.2::entC es:=by unfold entC;simp
theorem entC_len : ∀es:List Ent,(entC es).length=es.length*2
 | []=>rfl
 |e::es=>by rw[entC_cons,List.length_cons,List.length_cons,entC_len es,List.length_cons];omega
theorem entC_one : ∀es:List Ent,oneAll (entC es)=true
 | []=>rfl
 |e::es=>by
  have:=entC_one es
  unfold oneAll at this ⊢
  rw[entC_cons,List.all_cons,List.all_cons,this]
  rfl
theorem entC_app (a b:List Ent):entC (a++b)=entC a++entC b:=by unfold entC;simp
theorem ent_at : ∀ {es:List Ent} {k:Nat},k<es.length -> ∃rest,(entC es).drop (k*2) = .str (bs (es.getD k default).1) :: .sl (es.getD k default).2.1 (es.getD k default).2.2::rest
 |e::es,0,_=>⟨entC es,by rw[Nat.zero_mul,List.drop_zero,entC_cons];rfl⟩
 |e::es,k+1,h=>by
  obtain⟨rest,hr⟩:=ent_at (es:=es) (k:=k) (by simpa using h)
  refine⟨rest,?_⟩
  rw[entC_cons,show (k+1)*2=k*2+2 by omega,List.drop_succ_cons,List.drop_succ_cons,hr]
  rfl
def cmpAt (es:List Ent) (k:Nat) (t:List UInt8):Int:=Lib.compareBytes (es.getD k default).1 t
structure PosAt (es:List Ent) (t:List UInt8) (p:Nat):Prop where
 le:p<=es.length
 lo : ∀k,k<p->cmpAt es k t<0
 hi : ∀k,p<=k->k<es.length -> ¬cmpAt es k t<0
def isAt (es:List Ent) (t:List UInt8) (p:Nat):Bool:=decide (p<es.length)&&(cmpAt es p t==0)
theorem exp_search {s:St} {cs:List SV} {n:Nat} {x y:SV}:expOf s [.impref cs 2 0 n,.sv x,.sv y]=[s.obj 1000000 0,none,none]:=rfl
theorem sess_search {es:List Ent} {t:List UInt8} {p:Nat} (hp:PosAt es t p) (hl:es.length<=100000) :
  FnI CX 41 [.impref (entC es) 2 0 es.length,.sv (.str (bs t)),.sv (.fn 42 [])] (.tup [.int .i64 p,.bool (isAt es t p)]) [some (entC es),none,none]:=by
 have key : ∃r exps,(r = .tup [.int .i64 p,.bool (isAt es t p)]/\exps=[some (entC es),none,none])/\FnI CX 41 [.impref (entC es) 2 0 es.length,.sv (.str (bs t)),.sv (.fn 42 [])] r exps:=by
  refine FnI_of (fn:=Tryz.f41) (body:=(Tryz.f41).body.get!) (by kernel_rfl) (by kernel_rfl) (by kernel_rfl) (fun _=>rfl) (Nat.le_of_ble_eq_true (by kernel_rfl)) ?_
  unfold Tryz.f41
  simp only[Option.get!_some,exp_search]
  repeat (first|simp only[go_sem,N0]|simp (disch:=first|exact oa|fail) only[AX,N0]|refine wki ?_|refine wqn ?_)
  refine vp_loop_inv (fun s=>s.tmp 0 = .ref 1000000 0 2 0 es.length/\s.tmp 1 = .sv (.str (bs t))/\s.tmp 2 = .sv (.fn 42 [])/\s.obj 1000000 0=some (entC es)/\s.tmp 8 = .sv (.int .i64 (es.length:Int)) /\
    ∃i j:Nat,s.tmp 9 = .sv (.int .i64 (i:Int))/\s.tmp 10 = .sv (.int .i64 (j:Int))/\i<=p/\p<=j/\j<=es.length)
   (fun s=>match s.tmp 9,s.tmp 10 with | .sv (.int _ i),.sv (.int _ j)=>j.toNat-i.toNat|_,_=>0) ⟨rfl,rfl,rfl,rfl,rfl,0,es.length,rfl,rfl,by omega,hp.le,by omega⟩ ?_
  rintro s ⟨i0,i1,i2,iO,i8,i,j,i9,i10,hi,hj,hjl⟩
  by_cases hend:i=j
  ·have:i=p:=by omega
   subst this
   subst hend
   by_cases hlt:i<es.length
   ·obtain⟨rest,hat⟩:=ent_at hlt
    have c:=sess_by (es.getD i default).1 t (es.getD i default).2.1 (es.getD i default).2.2
    have hfi:isAt es t i=(Lib.compareBytes (es.getD i default).1 t==0):=by unfold isAt cmpAt;rw[decide_eq_true hlt,Bool.true_and]
    rw[hfi]
    generalize Lib.compareBytes (es.getD i default).1 t=z at *
    repeat (first|simp only[go_sem,i0,i1,i2,iO,i8,i9,i10,hat]|simp (disch:=first|exact oa|fail) only[AX,i0,i1,i2,iO,i8,i9,i10,hat]|refine wki ?_|refine wqn ?_)
    refine vf_of (c) ?_;repeat (first|simp only[go_sem,i0,i1,i2,iO,i8,i9,i10,hat]|simp (disch:=first|exact oa|fail) only[AX,i0,i1,i2,iO,i8,i9,i10,hat]|refine wki ?_|refine wqn ?_)
    refine⟨_,_,⟨rfl,rfl⟩,?_,rfl⟩
    simp only[go_sem]
   ·have hfi:isAt es t i=false:=by unfold isAt;rw[decide_eq_false hlt,Bool.false_and]
    rw[hfi]
    repeat (first|simp only[go_sem,i0,i1,i2,iO,i8,i9,i10]|simp (disch:=first|exact oa|fail) only[AX,i0,i1,i2,iO,i8,i9,i10]|refine wki ?_|refine wqn ?_)
    refine⟨_,_,⟨rfl,rfl⟩,?_,rfl⟩
    simp only[go_sem]
  ·have hh : ∃h,(i+j)/2=h:=⟨_,rfl⟩
   obtain⟨h,hh⟩:=hh
   have hhj:h<j:=by omega
   have hih:i<=h:=by omega
   obtain⟨rest,hat⟩:=ent_at (es:=es) (k:=h) (by omega)
   have c:=sess_by (es.getD h default).1 t (es.getD h default).2.1 (es.getD h default).2.2
   have hlo:=hp.lo h
   have hhi:=hp.hi h
   unfold cmpAt at hlo hhi
   generalize Lib.compareBytes (es.getD h default).1 t=z at *
   have hlen:=entC_len es
   by_cases hz:z<0
   ·have dz:=decide_eq_true hz
    repeat (first|simp only[go_sem,i0,i1,i2,iO,i8,i9,i10,hh,hlen,hat]|simp (disch:=first|exact oa|fail) only[AX,i0,i1,i2,iO,i8,i9,i10,hh,hlen,hat]|refine wki ?_|refine wqn ?_)
    refine vf_of (c) ?_;repeat (first|simp only[go_sem,i0,i1,i2,iO,i8,i9,i10,hh,hlen,hat,dz]|simp (disch:=first|exact oa|fail) only[AX,i0,i1,i2,iO,i8,i9,i10,hh,hlen,hat,dz]|refine wki ?_|refine wqn ?_)
    exact⟨⟨h+1,j,rfl,rfl,by omega,hj,hjl⟩,by omega⟩
   ·have dz:=decide_eq_false hz
    repeat (first|simp only[go_sem,i0,i1,i2,iO,i8,i9,i10,hh,hlen,hat]|simp (disch:=first|exact oa|fail) only[AX,i0,i1,i2,iO,i8,i9,i10,hh,hlen,hat]|refine wki ?_|refine wqn ?_)
    refine vf_of (c) ?_;repeat (first|simp only[go_sem,i0,i1,i2,iO,i8,i9,i10,hh,hlen,hat,dz]|simp (disch:=first|exact oa|fail) only[AX,i0,i1,i2,iO,i8,i9,i10,hh,hlen,hat,dz]|refine wki ?_|refine wqn ?_)
    exact⟨⟨i,h,rfl,rfl,hi,by omega,by omega⟩,by omega⟩
 obtain⟨r,exps,⟨rfl,rfl⟩,h⟩:=key
 exact h
end Go.Proofs.YtjphnjffglapgaaGreatDoor
namespace Go.Proofs.YtjphnjffglapgaaGreatDoor
open Go.Ev
def TP (n:Nat):Bool:=Nat.beq n 21||(Nat.beq n 25||Nat.beq n 51)
def plT (T:Nat->Bool):TV->Bool
 | .sv _=>true
 | .nil=>true
 | .undef=>true
 | .ptr d _ _ => !T d
 | .ref d _ _ _ _ => !T d
 | .rfc d _ _ _ _ _ => !T d
 | .pst d _ => !T d
 | .skip=>true
 | .emp=>true
abbrev plV:TV->Bool:=plT TP
theorem nbeq {a b:Nat} (h:a≠b):Nat.beq a b=false:=by
 cases e:Nat.beq a b with
 |false=>rfl
 |true=>exact absurd (Nat.eq_of_beq_eq_true e) h
theorem tp_ob {d:Nat} (h:H0<=d):TP d=false:=by
 have h:2000000<=d:=h
 unfold TP
 rw[nbeq (a:=d) (b:=21) (by omega),nbeq (a:=d) (b:=25) (by omega),nbeq (a:=d) (b:=51) (by omega)]
 rfl
theorem pl_ob {d g o:Nat} (h:H0<=d):plV (.ptr d g o)=true:=by
 show (!TP d)=true
 rw[tp_ob h]
 rfl
section
variable {T:Nat->Bool}
theorem kill_pl {v:TV} {d g:Nat} (h:plT T v=true) (hd:T d=true):v.kill d g=v:=by
 have key : ∀d',(!T d')=true -> ¬(d'=d /\ ∃x:Nat,x=g):=fun d' h e=>by rw[e.1,hd]at h;cases h
 cases v with
 |ptr d' g' off=>exact if_neg fun e=>key d' h ⟨e.1,_,e.2⟩
 |ref d' g' a b c=>exact if_neg fun e=>key d' h ⟨e.1,_,e.2⟩
 |rfc d' g' a b c e'=>exact if_neg fun e=>key d' h ⟨e.1,_,e.2⟩
 |pst d' g'=>exact if_neg fun e=>key d' h ⟨e.1,_,e.2⟩
 |_=>rfl
theorem frz_pl {v:TV} {d g:Nat} {cs:List SV} (h:plT T v=true) (hd:T d=true):v.frz d g cs=v:=by
 have key : ∀d',(!T d')=true -> ¬(d'=d /\ ∃x:Nat,x=g):=fun d' h e=>by rw[e.1,hd]at h;cases h
 cases v with
 |ptr d' g' off=>exact if_neg fun e=>key d' h ⟨e.1,_,e.2⟩
 |ref d' g' a b c=>exact if_neg fun e=>key d' h ⟨e.1,_,e.2⟩
 |rfc d' g' a b c e'=>exact if_neg fun e=>key d' h ⟨e.1,_,e.2⟩
 |pst d' g'=>exact if_neg fun e=>key d' h ⟨e.1,_,e.2⟩
 |_=>rfl
end
theorem up_even {st:St} {vs:List TV} {t:Nat}:(st.enter vs).up (2*t)=st.tmp t:=by
 rw[up_enter,if_pos (by omega),show 2*t/2=t by omega]
theorem up_odd {st:St} {vs:List TV} {t:Nat}:(st.enter vs).up (2*t+1)=st.up t:=by
 rw[up_enter,if_neg (by omega),show (2*t+1)/2=t by omega]
structure Kp (T:Nat->Bool) (d:Nat) (st s:St):Prop where
 up : ∀u,plT T (st.up u)=true->s.up u=st.up u
 obj : ∀n g,T n=false->g<st.gen n->s.obj n g=st.obj n g
 gen : ∀n,st.gen n<=s.gen n
 hob : ∀d' g' ts,d'≠d->st.hob d' g'=some ts->(∀t∈ts,plT T t=true)->s.hob d' g'=some ts
structure KeepT (T:Nat->Bool) (d:Nat) (st st':St):Prop extends Kp T d st st' where
 tmp : ∀t,plT T (st.tmp t)=true->st'.tmp t=st.tmp t
abbrev Keep:=KeepT TP
section
variable {T:Nat->Bool} {d:Nat} {st s:St}
theorem Kp.refl:Kp T d st st:=⟨fun _ _=>rfl,fun _ _ _ _=>rfl,fun _=>Nat.le_refl _,fun _ _ _ _ h _=>h⟩
theorem Kp.trans {a b c:St} (h:Kp T d a b) (k:Kp T d b c):Kp T d a c:=
 ⟨fun u hu=>(k.up u (by rw[h.up u hu];exact hu)).trans (h.up u hu),fun n g hn hg=>(k.obj n g hn (Nat.lt_of_lt_of_le hg (h.gen n))).trans (h.obj n g hn hg),fun n=>Nat.le_trans (h.gen n) (k.gen n),
  fun d' g' ts hd ho hp=>k.hob d' g' ts hd (h.hob d' g' ts hd ho hp) hp⟩
theorem Kp.put {t:Nat} {v:TV} (h:Kp T d st s):Kp T d st (s.put t v):=⟨h.up,h.obj,h.gen,h.hob⟩
theorem Kp.set {n g:Nat} {cs:List SV} (hn:T n=true) (h:Kp T d st s):Kp T d st (s.set n g cs):=
 ⟨h.up,fun n' g' hn' hg=>(if_neg fun e=>by rw[e.1,hn]at hn';cases hn').trans (h.obj n' g' hn' hg),h.gen,h.hob⟩
theorem Kp.new {t:Nat} {cs:List SV} {v:TV} (h:Kp T d st s):Kp T d st (s.new t cs v):=
 ⟨h.up,fun n g hn hg=>(if_neg fun e=>absurd (h.gen n) (by rw[e.1]at hg ⊢;omega)).trans (h.obj n g hn hg),fun n=>Nat.le_trans (h.gen n) (by rw[gen_new];split<;>rename_i e<;>(try rw[e])<;>omega),h.hob⟩
theorem Kp.newset {t:Nat} {cs cs':List SV} {v:TV} (h:Kp T d st s):Kp T d st ((s.new t cs v).set t (s.gen t) cs'):=
 ⟨h.up,fun n g hn hg=>(if_neg fun e=>absurd (h.gen n) (by rw[e.1]at hg ⊢;omega)).trans ((h.new (t:=t) (cs:=cs) (v:=v)).obj n g hn hg),(h.new (t:=t) (cs:=cs) (v:=v)).gen,h.hob⟩
theorem Kp.setH {g:Nat} {ts:List TV} (h:Kp T d st s):Kp T d st (s.setH d g ts):=
 ⟨h.up,h.obj,h.gen,fun d' g' ts hd ho hp=>(if_neg fun e=>hd e.1).trans (h.hob d' g' ts hd ho hp)⟩
theorem map_kill {n g:Nat} {ts:List TV} (hn:T n=true) (hp : ∀t∈ts,plT T t=true):(ts.map fun t=>t.kill n g)=ts:=by
 refine(List.map_congr_left fun t ht=>kill_pl (hp t ht) hn).trans (List.map_id' ts)
theorem map_frz {n g:Nat} {cs:List SV} {ts:List TV} (hn:T n=true) (hp : ∀t∈ts,plT T t=true):(ts.map fun t=>t.frz n g cs)=ts:=by
 refine(List.map_congr_left fun t ht=>frz_pl (hp t ht) hn).trans (List.map_id' ts)
theorem Kp.frzd {n g:Nat} {cs:List SV} (hn:T n=true) (h:Kp T d st s):Kp T d st (s.frzd n g cs):=
 ⟨fun u hu=>(congrArg (TV.frz n g cs) (h.up u hu)).trans (frz_pl hu hn),fun n' g' hn' hg=>(if_neg fun e=>by rw[e.1,hn]at hn';cases hn').trans (h.obj n' g' hn' hg),h.gen,
  fun d' g' ts hd ho hp=>by
   show Option.map (fun ts=>ts.map fun t=>t.frz n g cs) (s.hob d' g')=some ts
   rw[h.hob d' g' ts hd ho hp]
   exact congrArg some (map_frz hn hp)⟩
theorem Kp.grow {t n g a b c:Nat} {cs:List SV} (hn:T n=true) (h:Kp T d st s):Kp T d st (s.grow t n g a b c cs):=
 ⟨fun u hu=>(congrArg (TV.kill n g) (h.up u hu)).trans (kill_pl hu hn),fun n' g' hn' hg=>(if_neg fun e=>by rw[e.1,hn]at hn';cases hn').trans (h.obj n' g' hn' hg),h.gen,
  fun d' g' ts hd ho hp=>by
   show Option.map (fun ts=>ts.map fun t=>t.kill n g) (s.hob d' g')=some ts
   rw[h.hob d' g' ts hd ho hp]
   exact congrArg some (map_kill hn hp)⟩
theorem Kp.ins {n g:Nat} {cs:List SV} (hn:T n=true) (h:Kp T d st s):Kp T d st (insSt s n g cs):=
 ⟨fun u hu=>(congrArg (TV.kill n g) (h.up u hu)).trans (kill_pl hu hn),fun n' g' hn' hg=>(if_neg fun e=>by rw[e.1,hn]at hn';cases hn').trans (h.obj n' g' hn' hg),fun n=>Nat.le_succ_of_le (h.gen n),
  fun d' g' ts hd ho hp=>by
   show Option.map (fun ts=>ts.map fun t=>t.kill n g) (s.hob d' g')=some ts
   rw[h.hob d' g' ts hd ho hp]
   exact congrArg some (map_kill hn hp)⟩
theorem KeepT.kp {st':St} (h:KeepT T d st st'):Kp T d st st':=h.toKp
theorem keep_of {vs:List TV} (h:Kp T d (st.enter vs) s):KeepT T d st s.leave:=
 {up:=fun t ht=>by rw[up_leave,h.up (2*t+1) (by rw[up_odd];exact ht),up_odd]
  tmp:=fun t ht=>by rw[tmp_leave,h.up (2*t) (by rw[up_even];exact ht),up_even]
  obj:=h.obj
  gen:=h.gen
  hob:=h.hob }
theorem KeepT.trans {a b c:St} (h:KeepT T d a b) (k:KeepT T d b c):KeepT T d a c:=
 {h.kp.trans k.kp with tmp:=fun t ht=>by rw[k.tmp t (by rw[h.tmp t ht];exact ht),h.tmp t ht] }
end
structure SessR (st:St) (d g:Nat) (es:List Ent) (D:Int):Prop where
 ob:H0<=d
 row:(es=[]/\st.hob d g=some [.nil,.sv (.int .i64 D)]) \/ ∃g1,g1<st.gen 25/\st.hob d g=some [.ref 25 g1 2 0 es.length,.sv (.int .i64 D)]/\st.obj 25 g1=some (entC es)
theorem SessR.of {st s:St} {d g:Nat} {es:List Ent} {D:Int} (h:SessR st d g es D) (h1:s.hob d g=st.hob d g) (h2 : ∀g1,s.obj 25 g1=st.obj 25 g1) (h3:st.gen 25<=s.gen 25):SessR s d g es D:=by
 obtain⟨hd,hrow⟩:=h
 refine⟨hd,?_⟩
 rcases hrow with⟨e,ho⟩|⟨g1,hg1,ho,hobj⟩
 ·exact .inl ⟨e,h1.trans ho⟩
 ·exact .inr ⟨g1,Nat.lt_of_lt_of_le hg1 h3,h1.trans ho,(h2 g1).trans hobj⟩
theorem search_nil (t:List UInt8):Go.Ev.Fn CX 41 [.sl 0 [],.str (bs t),.fn 42 []] (.tup [.int .i64 0,.bool false]):=by
 refine fni Tryz.f41 ?_;unfold Tryz.f41;simp only[Option.get!_some]
 repeat (first|simp only[go_sem]|simp (disch:=first|exact oa|fail) only[AX]|refine wki ?_|refine wqn ?_)
 refine vp_loop_inv (fun s=>s.tmp 8 = .sv (.int .i64 0)/\s.tmp 9 = .sv (.int .i64 0)/\s.tmp 10 = .sv (.int .i64 0)) (fun _=>0) ⟨rfl,rfl,rfl⟩ ?_
 rintro s ⟨i8,i9,i10⟩
 repeat (first|simp only[go_sem,i8,i9,i10]|simp (disch:=first|exact oa|fail) only[AX,i8,i9,i10]|refine wki ?_|refine wqn ?_)
section
variable {ops:Array Oper} {l:List Oper} {dst:Option Nat} {st:St} {Q:St->Prop} {d g p:Nat} {es:List Ent} {t:List UInt8} {D:Int}
structure Same (st st':St):Prop where
 tmp : ∀t,st'.tmp t=st.tmp t
 up : ∀t,st'.up t=st.up t
 obj : ∀d g,st'.obj d g=st.obj d g
 gen:st'.gen=st.gen
 hob:st'.hob=st.hob
theorem Same.keep {T:Nat->Bool} {d:Nat} {st st':St} (h:Same st st'):KeepT T d st st' :=
 {up:=fun t _=>h.up t,tmp:=fun t _=>h.tmp t,obj:=fun n g _ _=>h.obj n g,gen:=fun n=>by rw[h.gen];exact Nat.le_refl _,hob:=fun d' g' ts _ ho _=>by rw[h.hob];exact ho }
theorem same_leave {st b s1 s:St} {vs:List TV} (h:Same b s1) (hb:b.up=(st.enter vs).up) (hb2:b.obj=st.obj) (hb3:b.gen=st.gen) (hb4:b.hob=st.hob) (hs:s.up=s1.up) (hs2:s.obj=s1.obj) (hs3:s.gen=s1.gen) (hs4:s.hob=s1.hob):Same st s.leave:=
 ⟨fun t=>by rw[tmp_leave,hs,h.up,hb,up_even],fun t=>by rw[up_leave,hs,h.up,hb,up_odd],fun d g=>by rw[obj_leave,hs2,h.obj,hb2],by rw[gen_leave,hs3,h.gen,hb3],by rw[hob_leave,hs4,h.hob,hb4]⟩
theorem sess_atS (hp:PosAt es t p) (hl:es.length<=100000) (h:SessR st d g es D)
  (k : ∀st',Same st st'->WO CX false ops l (st'.putO dst (.sv (.tup [.int .i64 p,.bool (isAt es t p)]))) Q) :
  WN CX ops l dst st Q 22 [.ptr d g 0,.sv (.str (bs t))]:=by
 obtain⟨hd,hrow⟩:=h
 have hd':2000000<=d:=hd
 rcases hrow with⟨rfl,ho⟩|⟨g1,hg1,ho,hobj⟩
 ·have:p=0:=by have:=hp.le;simpa using this
  subst this
  have c:=search_nil t
  refine wni Tryz.f22 ?_;unfold Tryz.f22;simp only[Option.get!_some]
  repeat (first|simp only[go_sem,hd',ho]|simp (disch:=first|exact oa|fail) only[AX,hd',ho]|refine wki ?_|refine wqn ?_|refine vf_of (by first|exact c) ?_)
  exact k _ ⟨fun u=>by simp only[tmp_leave,up_put,up_even],fun u=>by simp only[up_leave,up_put,up_odd],fun _ _=>rfl,rfl,rfl⟩
 ·have c:=sess_search hp hl
  refine wni Tryz.f22 ?_;unfold Tryz.f22;simp only[Option.get!_some]
  repeat (first|simp only[go_sem,hd',ho,hobj]|simp (disch:=first|exact oa|fail) only[AX,hd',ho,hobj]|refine wki ?_|refine wqn ?_)
  refine vi_of c rfl ?_
  repeat (first|simp only[go_sem,hd',ho,hobj]|simp (disch:=first|exact oa|fail) only[AX,hd',ho,hobj]|refine wki ?_|refine wqn ?_)
  refine k _ ⟨fun u=>by simp only[tmp_leave,up_put,up_set,up_even],fun u=>by simp only[up_leave,up_put,up_set,up_odd],fun d2 g2 => ?_,rfl,rfl⟩
  simp only[obj_leave,obj_put,obj_set]
  split
  ·rename_i e
   rw[e.1,e.2,<- hobj]
  ·rfl
theorem sess_at (hp:PosAt es t p) (hl:es.length<=100000) (h:SessR st d g es D)
  (k : ∀st',Keep d st st'->SessR st' d g es D->WO CX false ops l (st'.putO dst (.sv (.tup [.int .i64 p,.bool (isAt es t p)]))) Q) :
  WN CX ops l dst st Q 22 [.ptr d g 0,.sv (.str (bs t))]:=
 sess_atS hp hl h fun s hs=>k s hs.keep (h.of (by rw[hs.hob]) (fun _=>hs.obj _ _) (by rw[hs.gen];exact Nat.le_refl _))
theorem sess_insert_nil {g2:Nat} (h2:st.obj 49 g2=some [.str (bs t),.sl 0 []])
  (k : ∀st' g',Keep d st st'->g'<st'.gen 25->st'.obj 25 g'=some (entC [(t,0,[])])->st'.hob=st.hob->WO CX false ops l (st'.putO dst (.ref 25 g' 2 0 1)) Q) :
  WN CX ops l dst st Q 23 [.nil,.sv (.int .i64 0),.ref 49 g2 2 0 1]:=by
 refine wni Tryz.f23 ?_;unfold Tryz.f23;simp only[Option.get!_some]
 repeat (first|simp only[go_sem,h2]|simp (disch:=first|exact oa|fail) only[AX,h2]|refine wki ?_|refine wqn ?_|refine vpd 11 [] ?_|refine vpd 15 [] ?_)
 refine k _ (st.gen 25) (keep_of (by repeat (first|exact Kp.refl|refine Kp.put ?_|refine Kp.setH ?_|refine Kp.newset ?_|refine Kp.set rfl ?_|refine Kp.set (by assumption) ?_|refine Kp.new ?_|refine Kp.grow rfl ?_|refine Kp.frzd rfl ?_|refine Kp.ins rfl ?_))) ?_ ?_ ?_
 ·simp only[gen_leave,gen_put,gen_new,gen_enter,if_true]
  omega
 ·simp only[obj_leave,obj_put,obj_new,gen_put,gen_enter,and_self,if_true]
  rfl
 ·simp only[hob_leave,hob_put,hob_new,hob_enter]
def insE (es:List Ent) (p:Nat) (e:Ent):List Ent:=es.take p++e::es.drop p
theorem insE_len {es:List Ent} {p:Nat} {e:Ent} (hp:p<=es.length):(insE es p e).length=es.length+1:=by
 unfold insE
 rw[List.length_append,List.length_cons,List.length_take,List.length_drop]
 omega
theorem insE_end {es:List Ent} {e:Ent}:insE es es.length e=es++[e]:=by
 unfold insE
 rw[List.take_length,List.drop_length]
theorem entC_take {es:List Ent} {p:Nat} (hp:p<=es.length):entC (es.take p)=(entC es).take (p*2)/\entC (es.drop p)=(entC es).drop (p*2):=by
 have h:=entC_app (es.take p) (es.drop p)
 rw[List.take_append_drop]at h
 have hl:(entC (es.take p)).length=p*2:=by rw[entC_len,List.length_take];omega
 constructor
 ·rw[h,<- hl,List.take_left]
 ·rw[h,<- hl,List.drop_left]
theorem entC_ins {es:List Ent} {p:Nat} (hp:p<=es.length) {n:List UInt8} {m:Nat} {cs:List SV}:entC (insE es p (n,m,cs))=(entC es).take (p*2)++[.str (bs n),.sl m cs]++(entC es).drop (p*2):=by
 unfold insE
 rw[entC_app,entC_cons,(entC_take hp).1,(entC_take hp).2,List.append_assoc]
 rfl
theorem sess_insert {g1 g2:Nat} (hp:p<=es.length) (hl:es.length<=100000) (h1:st.obj 25 g1=some (entC es)) (h2:st.obj 49 g2=some [.str (bs t),.sl 0 []])
  (k : ∀st',Keep d st st'->st.gen 25<=st'.gen 25->st'.obj 25 g1=some (entC (insE es p (t,0,[])))->(∀d g,st'.hob d g=(st.hob d g).map fun ts=>ts.map fun t=>t.kill 25 g1)->WO CX false ops l (st'.putO dst (.ref 25 g1 2 0 (es.length+1))) Q) :
  WN CX ops l dst st Q 23 [.ref 25 g1 2 0 es.length,.sv (.int .i64 (p:Int)),.ref 49 g2 2 0 1]:=by
 refine wn_by (st':=insSt st 25 g1 (entC (insE es p (t,0,[])))) (r := .ref 25 g1 2 0 (es.length+1)) (e:=[]) ?_ (k _ { Kp.ins rfl Kp.refl with tmp:=fun u hu=>kill_pl hu rfl } (Nat.le_succ _) (if_pos ⟨rfl,rfl⟩) fun _ _=>rfl)
 have e:CX.X 23 [.st false st [.ref 25 g1 2 0 es.length,.sv (.int .i64 (p:Int)),.ref 49 g2 2 0 1]]=xIns [.st false st [.ref 25 g1 2 0 es.length,.sv (.int .i64 (p:Int)),.ref 49 g2 2 0 1]]:=rfl
 rw[e]
 unfold xIns
 simp only[h1,h2]
 rw[if_pos ⟨by decide,by omega,entC_len es,entC_one es,by omega,by omega,hl⟩,entC_ins hp,Int.toNat_natCast]
theorem sess_delete {g1:Nat} (hp:p<es.length) (hl:es.length<=100000) (h1:st.obj 25 g1=some (entC es))
  (k : ∀st',Keep d st st'->st.gen 25<=st'.gen 25->st'.obj 25 g1=some (entC (es.take p++es.drop (p+1)))->(∀d g,st'.hob d g=(st.hob d g).map fun ts=>ts.map fun t=>t.kill 25 g1)->WO CX false ops l (st'.putO dst (.ref 25 g1 2 0 (es.length-1))) Q) :
  WN CX ops l dst st Q 27 [.ref 25 g1 2 0 es.length,.sv (.int .i64 (p:Int)),.sv (.int .i64 ((p+1:Nat):Int))]:=by
 refine wn_by (st':=insSt st 25 g1 (entC (es.take p++es.drop (p+1)))) (r := .ref 25 g1 2 0 (es.length-1)) (e:=[]) ?_ (k _ { Kp.ins rfl Kp.refl with tmp:=fun u hu=>kill_pl hu rfl } (Nat.le_succ _) (if_pos ⟨rfl,rfl⟩) fun _ _=>rfl)
 have e:CX.X 27 [.st false st [.ref 25 g1 2 0 es.length,.sv (.int .i64 (p:Int)),.sv (.int .i64 ((p+1:Nat):Int))]]=xDel [.st false st [.ref 25 g1 2 0 es.length,.sv (.int .i64 (p:Int)),.sv (.int .i64 ((p+1:Nat):Int))]]:=rfl
 rw[e]
 unfold xDel
 simp only[h1]
 rw[if_pos ⟨by decide,entC_len es,entC_one es,by omega,by omega,by omega,hl⟩,entC_app,(entC_take (by omega)).1,(entC_take (by omega)).2,Int.toNat_natCast,show (p+1)*2=p*2+2 by omega]
end
end Go.Proofs.YtjphnjffglapgaaGreatDoor
