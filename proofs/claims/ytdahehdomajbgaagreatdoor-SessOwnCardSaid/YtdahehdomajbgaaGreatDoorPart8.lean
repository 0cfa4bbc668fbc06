/- Part 8 of the proof: the evaluator, contracts of functions and their plain laws (joined by program). No condition. -/
import Derived.Test.YtdahehdomajbgaaGreatDoorPart7
set_option linter.unusedVariables false
set_option linter.unusedSimpArgs false
set_option maxRecDepth 100000
namespace Go.Proofs.YtdahehdomajbgaaGreatDoor
open Go.Ev
theorem pm_set (l:List UInt8):Lib.trimLeftS l [43,45]=l.dropWhile isPM:=by
 unfold Lib.trimLeftS
 congr 1
 funext b
 unfold isPM
 simp only[List.contains_cons,List.contains_nil,Bool.or_false]
theorem dec_from : ∀ {l:List UInt8} (a:Nat),digs l=true->Lib.decFrom a l=some (l.foldl (fun a b=>a*10+(b.toNat-48)) a):=by
 intro l
 induction l with
 |nil=>intro a _;rfl
 |cons b l ih=>
  intro a h
  unfold digs at h
  rw[List.all_cons,Bool.and_eq_true]at h
  have hb:=h.1
  unfold dig at hb
  simp only[Bool.and_eq_true,decide_eq_true_eq]at hb
  have hd:Lib.digitVal b=some (b.toNat-48):=by unfold Lib.digitVal;rw[if_pos hb]
  rw[Lib.decFrom,hd]
  exact ih _ h.2
theorem dec_nat {l:List UInt8} (h0:l≠[]) (h:digs l=true):Lib.decNat l=some (natD l):=by
 unfold Lib.decNat
 rw[if_neg (by simpa using h0),dec_from 0 h]
 rfl
theorem atoi_is {l:List UInt8} (h1:l.length-(l.dropWhile isPM).length<=1) (h2:1<=(l.dropWhile isPM).length) (h3:digs (l.dropWhile isPM)=true) :
  Lib.atoi l=some (if l.head?=some 45 then - (natD (l.dropWhile isPM):Int) else (natD (l.dropWhile isPM):Int)):=by
 cases l with
 |nil=>simp at h2
 |cons b r=>
  cases hb:isPM b with
  |false=>
   rw[List.dropWhile_cons,hb]at h2 h3 ⊢
   simp only[Bool.false_eq_true,if_false]at h2 h3 ⊢
   unfold isPM at hb
   rw[Bool.or_eq_false_iff]at hb
   have e45 : ¬b=45:=by simpa using hb.2
   rw[Lib.atoi,hb.1,hb.2,dec_nat (by simp) h3]
   simp[e45]
  |true=>
   rw[List.dropWhile_cons,hb]at h1 h2 h3 ⊢
   simp only[if_true]at h1 h2 h3 ⊢
   have hr:r.dropWhile isPM=r:=by
    have hle:=(List.dropWhile_sublist (l:=r) isPM).length_le
    have:(r.dropWhile isPM).length=r.length:=by simp at h1;omega
    exact(List.dropWhile_sublist isPM).eq_of_length this
   rw[hr]at h2 h3 ⊢
   have h0:r≠[]:=fun e=>by subst e;simp at h2
   rw[Lib.atoi,dec_nat h0 h3]
   unfold isPM at hb
   rw[Bool.or_eq_true]at hb
   rcases hb with hb|hb
   ·have e:b=43:=by simpa using hb
    subst e
    rfl
   ·have e:b=45:=by simpa using hb
    subst e
    rfl
theorem x_atoi {l:List UInt8} {v:Int} (h:l.length<=18) (hv:Lib.atoi l=some v):Go.Ev.Fn CX 92 [.str (bs l)] (.tup [.int .i64 v,.con .nilIface]):=by
 refine⟨1,List.replicate 1 none,?_⟩
 have h3:xAtoi [.sv (.str (bs l))]=some (.sv (.tup [.int .i64 v,.con .nilIface]),List.replicate 1 none):=by
  unfold xAtoi
  simp only[bs_toList,bs_size,hv]
  rw[if_pos h]
 have h4:CX.X 92 ([SV.str (bs l)].map Arg.sv)=some (.sv (.tup [.int .i64 v,.con .nilIface]),List.replicate 1 none):=h3
 unfold callN
 rw[stq_sv,h4]
theorem data_exponent (l:List UInt8) (hl:l.length<=1048576) : ∃k:Int,Go.Ev.Fn CX 69 [.str (bs l)] (.tup [.int .i64 k,.bool (expP l).isSome]) /\ ∀v,expP l=some v->v=k /\ -30<=k/\k<=30:=by
 have htl:=x_trimLeft l [43,45] (by decide) (by decide)
 rw[pm_set]at htl
 have hle:=(List.dropWhile_sublist (l:=l) isPM).length_le
 have ht:=x_trim (l.dropWhile isPM) D10 (by omega) (by decide) (by decide)
 have htd:=trim_digs (l.dropWhile isPM)
 unfold D10 at ht htd
 by_cases hc:l.length-(l.dropWhile isPM).length>1\/(l.dropWhile isPM).length<1\/(l.dropWhile isPM).length>2\/digs (l.dropWhile isPM)=false
 ·have e:expP l=none:=by unfold expP;rw[if_pos hc]
  rw[e]
  refine⟨0,?_,fun v h=>by cases h⟩
  rw[Option.isSome_none]
  clear e
  generalize hd:l.dropWhile isPM=d at *
  by_cases h1:l.length-d.length>1
  ·refine fni Tryz.f69 ?_;unfold Tryz.f69;simp only[Option.get!_some]
   repeat (first|simp only[go_sem,mk_bs,bs_size]|simp (disch:=first|exact oa|fail) only[AX,mk_bs,bs_size]|refine wki ?_|refine wqn ?_|refine vf_of (by first|exact htl) ?_)
  by_cases h2:d.length<1
  ·refine fni Tryz.f69 ?_;unfold Tryz.f69;simp only[Option.get!_some]
   repeat (first|simp only[go_sem,mk_bs,bs_size]|simp (disch:=first|exact oa|fail) only[AX,mk_bs,bs_size]|refine wki ?_|refine wqn ?_|refine vf_of (by first|exact htl) ?_)
  by_cases h3:d.length>2
  ·refine fni Tryz.f69 ?_;unfold Tryz.f69;simp only[Option.get!_some]
   repeat (first|simp only[go_sem,mk_bs,bs_size]|simp (disch:=first|exact oa|fail) only[AX,mk_bs,bs_size]|refine wki ?_|refine wqn ?_|refine vf_of (by first|exact htl) ?_)
  ·have h4:digs d=false:=by
    rcases hc with h|h|h|h
    ·exact absurd h h1
    ·exact absurd h h2
    ·exact absurd h h3
    ·exact h
   rw[h4]at htd
   refine fni Tryz.f69 ?_;unfold Tryz.f69;simp only[Option.get!_some]
   repeat (first|simp only[go_sem,mk_bs,bs_size,bs_list,htd,Bool.not_false]|simp (disch:=first|exact oa|fail) only[AX,mk_bs,bs_size,bs_list,htd,Bool.not_false]|refine wki ?_|refine wqn ?_|refine vf_of (by first|exact htl|exact ht) ?_)
 ·have e:expP l=if natD (l.dropWhile isPM)<=30 then some (if l.head?=some 45 then - (natD (l.dropWhile isPM):Int) else (natD (l.dropWhile isPM):Int)) else none:=by unfold expP;rw[if_neg hc]
  rw[e]
  clear e
  simp only[not_or,Nat.not_lt]at hc
  obtain⟨h1,h2,h3,h4⟩:=hc
  have h4:digs (l.dropWhile isPM)=true:=by simpa using h4
  have ha:=x_atoi (l:=l) (by omega) (atoi_is (by omega) (by omega) h4)
  rw[h4]at htd
  have hn:natD (l.dropWhile isPM)<100:=by
   have:=natD_lt h4
   have h5:10^(l.dropWhile isPM).length<=10^2:=Nat.pow_le_pow_right (by omega) (by omega)
   omega
  generalize natD (l.dropWhile isPM)=n at *
  generalize hd:l.dropWhile isPM=d at *
  have hv:(if l.head?=some 45 then - (n:Int) else (n:Int)).natAbs=n:=by split<;>omega
  generalize (if l.head?=some 45 then - (n:Int) else (n:Int))=v at *
  have e1:IntKind.i64.wrap (0-v) = -v:=by rw[wI64 (by omega)];omega
  have e2:(if -v>v then -v else v)=(n:Int):=by split<;>omega
  refine⟨v,?_,fun u hu=>by
   split at hu
   ·cases hu;omega
   ·cases hu⟩
  by_cases hn30:n<=30
  ·rw[if_pos hn30,Option.isSome_some]
   have e3:decide ((n:Int)<=30)=true:=decide_eq_true (by omega)
   refine fni Tryz.f69 ?_;unfold Tryz.f69;simp only[Option.get!_some]
   repeat (first|simp only[go_sem,mk_bs,bs_size,bs_list,htd,Bool.not_true,isCst,e1,e2,e3]|simp (disch:=first|exact oa|fail) only[AX,mk_bs,bs_size,bs_list,htd,Bool.not_true,isCst,e1,e2,e3]|refine wki ?_|refine wqn ?_|refine vf_of (by first|exact htl|exact ht|exact ha) ?_)
  ·rw[if_neg hn30,Option.isSome_none]
   have e3:decide ((n:Int)<=30)=false:=decide_eq_false (by omega)
   refine fni Tryz.f69 ?_;unfold Tryz.f69;simp only[Option.get!_some]
   repeat (first|simp only[go_sem,mk_bs,bs_size,bs_list,htd,Bool.not_true,isCst,e1,e2,e3]|simp (disch:=first|exact oa|fail) only[AX,mk_bs,bs_size,bs_list,htd,Bool.not_true,isCst,e1,e2,e3]|refine wki ?_|refine wqn ?_|refine vf_of (by first|exact htl|exact ht|exact ha) ?_)
theorem sz_ten (k:Nat) (h:k<=60):szR ((10:Rat)^k) 61:=by
 have e:((10:Rat)^k)=((10^k:Nat):Rat):=by simp
 rw[e]
 refine⟨?_,?_⟩
 ·have:=pow_lim (k:=k)
  simpa using Nat.le_trans this (by omega)
 ·simp
  decide
theorem data_ten (n:Nat) (hn:n<=60):Go.Ev.Fn CX 72 [.int .i64 (n:Int)] (rv ((10:Rat)^n)):=by
 have o1:=rat_Int 1 (by omega)
 have o10:=rat_Int 10 (by omega)
 have z10:szR ((10:Int):Rat) 1:=⟨by decide,by decide⟩
 refine fni Tryz.f72 ?_;unfold Tryz.f72;simp only[Option.get!_some]
 repeat (first|simp only[go_sem,rv,ratV]|simp (disch:=first|exact oa|fail) only[AX,rv,ratV]|refine wki ?_|refine wqn ?_|refine vpd 4 [] ?_|refine vf_of (by first|exact o1) ?_)
 refine vp_loop_inv (fun s=>s.tmp 2 = .ptr 2 0 0/\s.obj 2 0=some [.bool false,.sl 0 [],.sl 0 []]/\s.tmp 3 = .ptr 3 0 0/\s.tmp 5 = .sv (.int .i64 (n:Int)) /\
   ∃i:Nat,s.tmp 6 = .sv (.int .i64 (i:Int))/\i<=n/\s.obj 3 0=some (rvC ((10:Rat)^i)))
  (fun s=>match s.tmp 6 with | .sv (.int _ i)=>n-i.toNat|_=>0) ?_ ?_
 ·have e0:rvC ((10:Rat)^0)=[.bool false,natV (lim 1),natV (lim 1)]:=by simp[rvC]
  exact⟨rfl,rfl,rfl,rfl,0,rfl,by omega,by rw[e0];rfl⟩
 rintro s2 ⟨i2,o2,i3,i5,i,i6,hi,o3⟩
 by_cases hend:i=n
 ·subst hend
  generalize (10:Rat)^i=q at *
  repeat (first|simp only[go_sem,i2,o2,i3,i5,i6,o3,rvC]|simp (disch:=first|exact oa|fail) only[AX,i2,o2,i3,i5,i6,o3,rvC]|refine wki ?_|refine wqn ?_|refine vpd 4 [] ?_)
  first|rfl|skip
 ·have z:=sz_ten i (by omega)
  have m:=rat_Mul (RatA_rv z) (RatA_rv z10) (by omega) (by omega) (by omega)
  rw[show (10:Rat)^i*((10:Int):Rat)=(10:Rat)^(i+1) by rw[Rat.pow_succ];rfl]at m
  generalize hp:(10:Rat)^i=q at *
  generalize hp2:(10:Rat)^(i+1)=q2 at *
  unfold rvC at o3
  unfold rv ratV at m o10
  repeat (first|simp only[go_sem,i2,o2,i3,i5,i6,o3]|simp (disch:=first|exact oa|fail) only[AX,i2,o2,i3,i5,i6,o3]|refine wki ?_|refine wqn ?_|refine vpd 4 [] ?_|refine vf_of (by first|exact o10|exact m) ?_)
  exact⟨⟨i+1,rfl,by omega,by rw[hp2];rfl⟩,by omega⟩
def ratS (v:SV):Prop := ∃s n1 c1 n2 c2,v = .agg [.bool s,.sl n1 c1,.sl n2 c2]
theorem ratS_rv (q:Rat):ratS (rv q):=⟨_,_,_,_,_,rfl⟩
theorem szR_decP {l:List UInt8} {q:Rat} (h:decP l=some q) (hl:l.length<=400):szR q 401:=by
 have key : ∀ (s:Bool) (n d:Nat),(lim n).length<=400->(lim d).length<=401->szR (mkRat (sgn s n) d) 401:=fun s n d h1 h2=>szR_of (v:=ratV s (lim n) (lim d)) ⟨s,lim n,lim d,rfl,okL_lim _,okL_lim _,by omega,h2,by rw[wth_lim,wth_lim]⟩ (by omega)
 have ha:(absP l).length<=400:=by
  unfold absP
  split
  ·rw[List.length_tail];omega
  ·exact hl
 unfold decP at h
 split at h
 ·split at h
  ·cases h
  ·split at h
   ·rename_i n m h1 h2
    cases h
    have:=back_len (c:=46) (l:=absP l)
    have h3:=pow_lim (k:=(backL 46 (absP l)).length)
    exact key _ _ _ (parse_len h2) (by omega)
   ·cases h
 ·split at h
  ·rename_i n d h1 h2
   split at h
   ·cases h
   ·cases h
    exact key _ _ _ (parse_len h1) (by have:=parse_len h2;omega)
  ·cases h
theorem str_Contains (l:List UInt8) (c:UInt8):Go.Ev.Fn CX 70 [.str (bs l),.str (bs [c])] (.bool (l.contains c)):=by
 have hx:=str_Index CX_str l c
 refine fni Tryz.f70 ?_;unfold Tryz.f70;simp only[Option.get!_some]
 rcases index_cases c l with⟨h1,h2,_⟩|⟨i,h1,h2,_⟩
 ·rw[h2]at hx
  rw[h1]
  repeat (first|simp only[go_sem]|simp (disch:=first|exact oa|fail) only[AX]|refine wki ?_|refine wqn ?_|refine vf_of (by first|exact hx) ?_)
  first|rfl|skip
 ·rw[h2]at hx
  rw[h1]
  repeat (first|simp only[go_sem]|simp (disch:=first|exact oa|fail) only[AX]|refine wki ?_|refine wqn ?_|refine vf_of (by first|exact hx) ?_)
  first|rfl|skip
set_option maxHeartbeats 2000000 in
theorem data_Number (l:List UInt8) (hl:l.length<=1048576) : ∃v,ratS v/\Go.Ev.Fn CX 46 [.str (bs l)] (.tup [v,.int .i64 ((numP l).1:Int)])/\((numP l).1=0->v=rv (numP l).2/\szR (numP l).2 500):=by
 have o0:=rat_Int 0 (by omega)
 have s0 : ∀e:Nat,e≠0->(e=0->rv ((0:Int):Rat)=rv (0:Rat)/\szR 0 500):=fun e h1 h2=>absurd h2 h1
 by_cases h60:60<l.length
 ·have e:numP l=(3,0):=by unfold numP;rw[if_pos h60]
  rw[e]
  refine⟨_,ratS_rv ((0:Int):Rat),?_,fun h=>by cases h⟩
  unfold rv ratV at o0
  refine fni Tryz.f46 ?_;unfold Tryz.f46;simp only[Option.get!_some]
  repeat (first|simp only[go_sem,bs_size,rv,ratV]|simp (disch:=first|exact oa|fail) only[AX,bs_size,rv,ratV]|refine wki ?_|refine wqn ?_|refine vpd 11 [] ?_|refine vpd 13 [] ?_|refine vf_of (by first|exact o0) ?_)
  first|rfl|skip
 have c101:=str_Cut CX_str l 101 (by omega)
 have c47:=str_Contains l 47
 have f1:=front_len (c:=101) (l:=l)
 have b1:=back_len (c:=101) (l:=l)
 have hp:=dec_Parse (frontL 101 l) (by omega)
 cases h101:l.contains 101 with
 |false=>
  have hfr:frontL 101 l=l:=by
   rcases index_cases 101 l with⟨_,_,h,_⟩|⟨_,h,_⟩
   ·exact h
   ·rw[h101]at h;cases h
  rw[h101]at c101
  rw[hfr]at c101 hp
  cases hd:decP l with
  |some q=>
   have e:numP l=(0,q):=by unfold numP;rw[if_neg h60,h101,hd];rfl
   have e2:decPV l = .tup [rv q,.int .i64 0]:=by unfold decPV;rw[hd]
   rw[e]
   rw[e2]at hp
   refine⟨_,ratS_rv q,?_,fun _=>⟨rfl,?_⟩⟩
   ·unfold rv ratV at hp ⊢
    refine fni Tryz.f46 ?_;unfold Tryz.f46;simp only[Option.get!_some]
    repeat (first|simp only[go_sem,bs_size,mk_bs,Bool.not_false]|simp (disch:=first|exact oa|fail) only[AX,bs_size,mk_bs,Bool.not_false]|refine wki ?_|refine wqn ?_|refine vpd 11 [] ?_|refine vpd 13 [] ?_|refine vf_of (by first|exact c101|exact hp) ?_)
    first|rfl|skip
   ·have:=szR_decP hd (by omega)
    exact⟨by have:=this.1;simp only;omega,by have:=this.2;simp only;omega⟩
  |none=>
   have e:numP l=(2,0):=by unfold numP;rw[if_neg h60,h101,hd];rfl
   have e2:decPV l = .tup [noR,.int .i64 2]:=by unfold decPV;rw[hd]
   rw[e]
   rw[e2]at hp
   unfold noR at hp
   refine⟨noR,⟨_,_,_,_,_,rfl⟩,?_,fun h=>by cases h⟩
   unfold noR
   refine fni Tryz.f46 ?_;unfold Tryz.f46;simp only[Option.get!_some]
   repeat (first|simp only[go_sem,bs_size,mk_bs,Bool.not_false]|simp (disch:=first|exact oa|fail) only[AX,bs_size,mk_bs,Bool.not_false]|refine wki ?_|refine wqn ?_|refine vpd 11 [] ?_|refine vpd 13 [] ?_|refine vf_of (by first|exact c101|exact hp) ?_)
   first|rfl|skip
 |true=>
  rw[h101]at c101
  obtain⟨k,hk,hkv⟩:=data_exponent (backL 101 l) (by omega)
  cases hd:decP (frontL 101 l) with
  |none=>
   have e:numP l=(2,0):=by unfold numP;rw[if_neg h60,h101,hd];rfl
   have e2:decPV (frontL 101 l) = .tup [noR,.int .i64 2]:=by unfold decPV;rw[hd]
   rw[e]
   rw[e2]at hp
   unfold noR at hp
   refine⟨_,ratS_rv ((0:Int):Rat),?_,fun h=>by cases h⟩
   unfold rv ratV at o0
   generalize (expP (backL 101 l)).isSome=bb at *
   refine fni Tryz.f46 ?_;unfold Tryz.f46;simp only[Option.get!_some]
   repeat (first|simp only[go_sem,bs_size,mk_bs,Bool.not_true,rv,ratV]|simp (disch:=first|exact oa|fail) only[AX,bs_size,mk_bs,Bool.not_true,rv,ratV]|refine wki ?_|refine wqn ?_|refine vpd 11 [] ?_|refine vpd 13 [] ?_|refine vf_of (by first|exact c101|exact hp|exact hk|exact o0) ?_)
   first|rfl|skip
  |some q=>
   have e2:decPV (frontL 101 l) = .tup [rv q,.int .i64 0]:=by unfold decPV;rw[hd]
   rw[e2]at hp
   have zq:=szR_decP hd (by omega)
   cases hx:expP (backL 101 l) with
   |none=>
    have e:numP l=(2,0):=by unfold numP;rw[if_neg h60,h101,hd,hx];rfl
    rw[e]
    rw[hx,Option.isSome_none]at hk
    refine⟨_,ratS_rv ((0:Int):Rat),?_,fun h=>by cases h⟩
    unfold rv ratV at o0 hp
    refine fni Tryz.f46 ?_;unfold Tryz.f46;simp only[Option.get!_some]
    repeat (first|simp only[go_sem,bs_size,mk_bs,Bool.not_true,Bool.not_false,rv,ratV]|simp (disch:=first|exact oa|fail) only[AX,bs_size,mk_bs,Bool.not_true,Bool.not_false,rv,ratV]|refine wki ?_|refine wqn ?_|refine vpd 11 [] ?_|refine vpd 13 [] ?_|refine vf_of (by first|exact c101|exact hp|exact hk|exact o0) ?_)
    first|rfl|skip
   |some v=>
    obtain⟨rfl,hk1,hk2⟩:=hkv v hx
    rw[hx,Option.isSome_some]at hk
    cases h47:l.contains 47 with
    |true=>
     have e:numP l=(2,0):=by unfold numP;rw[if_neg h60,h101,hd,hx,h47];rfl
     rw[e]
     rw[h47]at c47
     refine⟨_,ratS_rv ((0:Int):Rat),?_,fun h=>by cases h⟩
     unfold rv ratV at o0 hp
     refine fni Tryz.f46 ?_;unfold Tryz.f46;simp only[Option.get!_some]
     repeat (first|simp only[go_sem,bs_size,mk_bs,Bool.not_true,rv,ratV]|simp (disch:=first|exact oa|fail) only[AX,bs_size,mk_bs,Bool.not_true,rv,ratV]|refine wki ?_|refine wqn ?_|refine vpd 11 [] ?_|refine vpd 13 [] ?_|refine vf_of (by first|exact c101|exact hp|exact hk|exact c47|exact o0) ?_)
     first|rfl|skip
    |false=>
     have e:numP l=(0,q*tenR v):=by unfold numP;rw[if_neg h60,h101,hd,hx,h47];rfl
     rw[e]
     rw[h47]at c47
     have ht:=data_ten v.natAbs (by omega)
     have zt:=sz_ten v.natAbs (by omega)
     by_cases hneg:v<0
     ·have e5:tenR v=1/(10:Rat)^v.natAbs:=by unfold tenR;rw[if_pos hneg]
      have hm:=rat_Div (RatA_rv zq) (RatA_rv zt) (by omega) (by omega) (by omega)
      have e6:q/(10:Rat)^v.natAbs=q*tenR v:=by rw[e5,Rat.div_def,Rat.div_def,Rat.one_mul]
      have zd:=szR_div zq zt (by omega) (by omega)
      rw[e6]at hm zd
      refine⟨_,ratS_rv (q*tenR v),?_,fun _=>⟨rfl,⟨by have:=zd.1;simp only;omega,by have:=zd.2;simp only;omega⟩⟩⟩
      have e7:(v.natAbs:Int)=0-v:=by omega
      rw[e7]at ht
      generalize (10:Rat)^v.natAbs=t at *
      generalize q*tenR v=r at *
      unfold rv ratV at o0 hp hm ⊢
      refine fni Tryz.f46 ?_;unfold Tryz.f46;simp only[Option.get!_some]
      repeat (first|simp only[go_sem,bs_size,mk_bs,Bool.not_true]|simp (disch:=first|exact oa|fail) only[AX,bs_size,mk_bs,Bool.not_true]|refine wki ?_|refine wqn ?_|refine vpd 11 [] ?_|refine vpd 13 [] ?_|refine vf_of (by first|exact c101|exact hp|exact hk|exact c47) ?_)
      repeat (first|simp only[go_sem,rv,ratV]|simp (disch:=first|exact oa|fail) only[AX,rv,ratV]|refine wki ?_|refine wqn ?_|refine vpd 11 [] ?_|refine vpd 13 [] ?_|refine vf_of (by first|exact ht|exact hm) ?_)
      first|rfl|skip
     ·have e5:tenR v=(10:Rat)^v.natAbs:=by unfold tenR;rw[if_neg hneg]
      have hm:=rat_Mul (RatA_rv zq) (RatA_rv zt) (by omega) (by omega) (by omega)
      have zd:=szR_mul zq zt (by omega)
      rw[e5]
      refine⟨_,ratS_rv (q*(10:Rat)^v.natAbs),?_,fun _=>⟨rfl,⟨by have:=zd.1;simp only;omega,by have:=zd.2;simp only;omega⟩⟩⟩
      have e7:v=(v.natAbs:Int):=by omega
      generalize (10:Rat)^v.natAbs=t at *
      generalize q*t=r at *
      generalize hm':v.natAbs=m at *
      subst e7
      unfold rv ratV at o0 hp hm ⊢
      refine fni Tryz.f46 ?_;unfold Tryz.f46;simp only[Option.get!_some]
      repeat (first|simp only[go_sem,bs_size,mk_bs,Bool.not_true]|simp (disch:=first|exact oa|fail) only[AX,bs_size,mk_bs,Bool.not_true]|refine wki ?_|refine wqn ?_|refine vpd 11 [] ?_|refine vpd 13 [] ?_|refine vf_of (by first|exact c101|exact hp|exact hk|exact c47) ?_)
      repeat (first|simp only[go_sem,rv,ratV]|simp (disch:=first|exact oa|fail) only[AX,rv,ratV]|refine wki ?_|refine wqn ?_|refine vpd 11 [] ?_|refine vpd 13 [] ?_|refine vf_of (by first|exact ht|exact hm) ?_)
      first|rfl|skip
end Go.Proofs.YtdahehdomajbgaaGreatDoor
namespace Go.Proofs.YtdahehdomajbgaaGreatDoor
open Go.Ev
def ngB (b:UInt8):Bool := !gapB b
theorem toks_skip (r:List UInt8):toks [] r=toks [] (r.dropWhile gapB):=by
 induction r with
 |nil=>rfl
 |cons b r ih=>
  rw[List.dropWhile_cons]
  cases h:gapB b with
  |true=>
   rw[toks,h]
   simpa using ih
  |false=>rfl
theorem toks_cut {b:UInt8} {r:List UInt8} (hb:gapB b=false):toks [] (b::r)=(b::r).takeWhile ngB::toks [] ((b::r).dropWhile ngB):=by
 have key : ∀ (r cur:List UInt8),cur≠[]->toks cur r=(cur.reverse++r.takeWhile ngB)::toks [] (r.dropWhile ngB):=by
  intro r
  induction r with
  |nil=>intro cur hc;simp[toks,hc]
  |cons x r ih=>
   intro cur hc
   rw[toks,List.takeWhile_cons,List.dropWhile_cons]
   unfold ngB
   cases hx:gapB x with
   |true=>
    simp only[if_true,Bool.not_true,Bool.false_eq_true,if_false,List.append_nil]
    rw[if_neg hc,toks,hx]
    simp
   |false=>
    simp only[Bool.false_eq_true,if_false,Bool.not_false,if_true]
    rw[ih (x::cur) (by simp)]
    unfold ngB
    simp
 rw[toks,hb]
 simp only[Bool.false_eq_true,if_false]
 rw[key r [b] (by simp),List.takeWhile_cons,List.dropWhile_cons]
 unfold ngB
 simp[hb]
def runA (qs:List Rat) (ts:List (List UInt8)):Nat×List Rat:=match runP ts with
 |(0,l)=>(0,qs++l)
 |(e,_)=>(e,[])
theorem runA_nil (qs:List Rat):runA qs []=(0,qs):=by simp[runA,runP]
theorem runA_cons_ok {qs:List Rat} {t:List UInt8} {r:List (List UInt8)} (h:(numP t).1=0):runA qs (t::r)=runA (qs++[(numP t).2]) r:=by
 unfold runA
 rw[runP]
 cases hq:numP t with
 |mk e q=>
  rw[hq]at h
  cases h
  dsimp only
  cases runP r with
  |mk e2 l=>
   cases e2 with
   |zero=>simp
   |succ n=>rfl
theorem runA_cons_bad {qs:List Rat} {t:List UInt8} {r:List (List UInt8)} (h:(numP t).1≠0):runA qs (t::r)=((numP t).1,[]):=by
 unfold runA
 rw[runP]
 cases hq:numP t with
 |mk e q=>
  rw[hq]at h
  cases e with
  |zero=>exact absurd rfl h
  |succ n=>rfl
def finP (r:Nat×List Rat):Nat×List Rat:=match r with
 |(0,x)=>if 256<x.length then (3,[]) else (0,x)
 |(e,_)=>(e,[])
theorem parse_runA (l:List UInt8):parseP l=finP (runA [] (toks [] (plainL false l))):=by
 unfold parseP runA finP
 cases runP (toks [] (plainL false l)) with
 |mk e x=>cases e<;>rfl
theorem runP_sz : ∀ {ts:List (List UInt8)},∀q∈(runP ts).2,szR q 500:=by
 intro ts
 induction ts with
 |nil=>intro q hq;simp[runP]at hq
 |cons t r ih=>
  intro q hq
  unfold runP at hq
  split at hq
  ·rename_i q0 hq0
   split at hq
   ·rename_i l0 hl0
    rcases List.mem_cons.1 hq with h|h
    ·subst h
     have ht : ¬60<t.length:=fun h60=>by
      have:numP t=(3,0):=by unfold numP;rw[if_pos h60]
      rw[this]at hq0
      cases hq0
     obtain⟨v,_,_,h⟩:=data_Number t (by omega)
     rw[hq0]at h
     exact(h rfl).2
    ·rw[hl0]at ih
     exact ih q h
   ·simp at hq
  ·simp at hq
theorem parse_sz {l:List UInt8} : ∀q∈(parseP l).2,szR q 500:=by
 intro q hq
 unfold parseP at hq
 split at hq
 ·rename_i x hx
  split at hq
  ·simp at hq
  ·have:=runP_sz (ts:=toks [] (plainL false l)) q
   rw[hx]at this
   exact this hq
 ·simp at hq
theorem gap_index (b:UInt8) : ∃z:Int,Lib.indexByte [32,44,10] b=z /\ -1<=z/\z<3/\(gapB b=true->0<=z)/\(gapB b=false->z<0):=by
 refine⟨_,rfl,?_⟩
 have key : ∀n:Nat,n<256->(-1<=Lib.indexByte [32,44,10] (UInt8.ofNat n)/\Lib.indexByte [32,44,10] (UInt8.ofNat n)<3/\(gapB (UInt8.ofNat n)=true->0<=Lib.indexByte [32,44,10] (UInt8.ofNat n))/\(gapB (UInt8.ofNat n)=false->Lib.indexByte [32,44,10] (UInt8.ofNat n)<0)):=by decide
 have:=key b.toNat b.toNat_lt
 rwa [UInt8.ofNat_toNat]at this
theorem str_IndexByte (s:List UInt8) (b:UInt8):Go.Ev.Fn CX 20 [.str (bs s),.int .u8 (b.toNat:Int)] (.int .i64 (Lib.indexByte s b)):=by
 have h:=lite_IndexByte CX_str (bs s) b
 rw[bs_toList]at h
 refine fni Tryz.f20 ?_;unfold Tryz.f20;simp only[Option.get!_some]
 simp only[go_sem]
 refine vf_of (h) ?_;simp only[go_sem]
theorem rvsC_app (l:List Rat) (q:Rat):rvsC (l++[q])=rvsC l++rvC q:=by unfold rvsC;simp
set_option maxHeartbeats 4000000 in
theorem data_Parse (l:List UInt8) (hl:l.length<=100000):Go.Ev.Fn CX 31 [.str (bs l)] (.tup [.sl (parseP l).2.length (rvsC (parseP l).2),.int .i64 ((parseP l).1:Int)]):=by
 have hp:=data_plain l (by omega)
 have hPl:=plain_len l false
 rw[parse_runA]
 generalize plainL false l=P at *
 generalize hres:runA [] (toks [] P)=res at *
 refine fni Tryz.f31 ?_;unfold Tryz.f31;simp only[Option.get!_some]
 repeat (first|simp only[go_sem,mk_bs]|simp (disch:=first|exact oa|fail) only[AX,mk_bs]|refine wki ?_|refine wqn ?_|refine vf_of (by first|exact hp) ?_)
 refine vp_ind (fun s=>s.tmp 0 = .sv (.str (bs P)) /\ ∃ (i:Nat) (qs:List Rat),s.tmp 5 = .sv (.int .i64 (i:Int))/\i<=P.length/\qs.length<=i/\runA qs (toks [] (P.drop i))=res /\
   ((qs=[]/\s.tmp 4 = .nil/\s.gen 56=0)\/(qs≠[]/\s.tmp 4 = .ref 56 0 3 0 qs.length/\s.obj 56 0=some (rvsC qs))))
  (fun s=>match s.tmp 5 with | .sv (.int _ i)=>P.length-i.toNat|_=>0) ?_ ?_
 ·exact⟨rfl,0,[],rfl,by omega,by simp,hres,.inl ⟨rfl,rfl,rfl⟩⟩
 rintro s2 ⟨i0,i,qs,i5,hi,hq,hr,hc⟩ ih
 have hμ:(match s2.tmp 5 with | .sv (.int _ i)=>P.length-i.toNat|_=>0)=P.length-i:=by rw[i5];simp
 rw[hμ]at ih
 refine vp_loop_inv (fun s=>s.tmp 0 = .sv (.str (bs P))/\s.tmp 4=s2.tmp 4/\s.gen 56=s2.gen 56/\s.obj 56 0=s2.obj 56 0 /\
   ∃j:Nat,s.tmp 5 = .sv (.int .i64 (j:Int))/\i<=j/\j<=P.length/\(P.drop j).dropWhile gapB=(P.drop i).dropWhile gapB)
  (fun s=>match s.tmp 5 with | .sv (.int _ j)=>P.length-j.toNat|_=>0) ?_ ?_
 ·exact⟨i0,rfl,rfl,rfl,i,i5,by omega,hi,rfl⟩
 rintro s3 ⟨j0,j4,jg,jo,j,j5,hij,hj,hdw⟩
 by_cases hend:j=P.length
 ·have hnil:(P.drop i).dropWhile gapB=[]:=by rw[<- hdw,hend,List.drop_length];rfl
  rw[toks_skip,hnil,show toks [] ([]:List UInt8)=[] from rfl,runA_nil]at hr
  subst hend
  by_cases hbig:256<qs.length
  ·have e:finP res=(3,[]):=by rw[<- hr];unfold finP;simp only;rw[if_pos hbig]
   rw[e]
   rcases hc with⟨rfl,_⟩|⟨_,i4,iO⟩
   ·simp at hbig
   ·rw[i4]at j4
    repeat (first|simp only[go_sem,j0,j4,j5,bs_size]|simp (disch:=first|exact oa|fail) only[AX,j0,j4,j5,bs_size]|refine wki ?_|refine wqn ?_)
    exact⟨rfl,rfl⟩
  ·have e:finP res=(0,qs):=by rw[<- hr];unfold finP;simp only;rw[if_neg hbig]
   rw[e]
   rcases hc with⟨rfl,i4,_⟩|⟨_,i4,iO⟩
   ·rw[i4]at j4
    repeat (first|simp only[go_sem,j0,j4,j5,bs_size]|simp (disch:=first|exact oa|fail) only[AX,j0,j4,j5,bs_size]|refine wki ?_|refine wqn ?_)
    exact⟨rfl,rfl⟩
   ·rw[i4]at j4
    rw[iO]at jo
    have hrl:=rvsC_len qs
    have ht:(rvsC qs).take (qs.length*3)=rvsC qs:=List.take_of_length_le (by omega)
    repeat (first|simp only[go_sem,j0,j4,j5,bs_size]|simp (disch:=first|exact oa|fail) only[AX,j0,j4,j5,bs_size]|refine wki ?_|refine wqn ?_)
    refine⟨ro_ref (cs:=rvsC qs) (by decide) ?_ ?_,rfl⟩
    ·simp only[go_sem,jo]
    ·rw[List.drop_zero,ht]
 ·have hlt:j<P.length:=by omega
  have hg:P[j]?=some P[j]:=List.getElem?_eq_getElem hlt
  have hdr:P.drop j=P[j]::P.drop (j+1):=List.drop_eq_getElem_cons hlt
  obtain⟨z,hz0,hz1,hz2,hz3,hz4⟩:=gap_index P[j]
  have hx:=str_IndexByte [32,44,10] P[j]
  rw[hz0]at hx
  cases hgap:gapB P[j]with
  |true=>
   have hz5:=hz3 hgap
   have hdw2:(P.drop (j+1)).dropWhile gapB=(P.drop i).dropWhile gapB:=by
    rw[<- hdw,hdr,List.dropWhile_cons,hgap]
    rfl
   clear hdr
   generalize P[j]=b at *
   repeat (first|simp only[go_sem,j0,j4,j5,bs_size,vo_ix,idxB_bs,hg,mk_bs,jg,jo]|simp (disch:=first|exact oa|fail) only[AX,j0,j4,j5,bs_size,vo_ix,idxB_bs,hg,mk_bs,jg,jo]|refine wki ?_|refine wqn ?_|refine vf_of (by first|exact hx) ?_)
   exact⟨⟨j+1,rfl,by omega,by omega,hdw2⟩,by omega⟩
  |false=>
   have hz5:=hz4 hgap
   have hself:(P.drop j).dropWhile gapB=P.drop j:=by rw[hdr,List.dropWhile_cons,hgap];rfl
   rw[hself]at hdw
   rw[toks_skip,<- hdw]at hr
   have hcut:=toks_cut (r:=P.drop (j+1)) hgap
   rw[<- hdr]at hcut
   rw[hcut]at hr
   clear hdr hcut hself hdw
   have hng:ngB P[j]=true:=by unfold ngB;rw[hgap];rfl
   repeat (first|simp only[go_sem,j0,j4,j5,bs_size,vo_ix,idxB_bs,hg,mk_bs,jg,jo]|simp (disch:=first|exact oa|fail) only[AX,j0,j4,j5,bs_size,vo_ix,idxB_bs,hg,mk_bs,jg,jo]|refine wki ?_|refine wqn ?_|refine vf_of (by first|exact hx) ?_)
   refine vp_loop_inv (fun s=>s.tmp 0 = .sv (.str (bs P))/\s.tmp 4=s3.tmp 4/\s.gen 56=s3.gen 56/\s.obj 56 0=s3.obj 56 0/\s.tmp 5 = .sv (.int .i64 (j:Int)) /\
     ∃k:Nat,s.tmp 6 = .sv (.int .i64 (k:Int))/\j<=k/\k<=P.length/\(P.drop j).takeWhile ngB=(P.drop j).take (k-j)++(P.drop k).takeWhile ngB/\(P.drop j).dropWhile ngB=(P.drop k).dropWhile ngB)
    (fun s=>match s.tmp 6 with | .sv (.int _ k)=>P.length-k.toNat|_=>0) ?_ ?_
   ·exact⟨j0,rfl,rfl,rfl,j5,j,rfl,by omega,hj,by simp,rfl⟩
   rintro s4 ⟨k0,k4,kg,ko,k5,k,k6,hjk,hk,htw,hdw⟩
   have kk:s4.tmp 4=s2.tmp 4:=k4.trans j4
   have kkg:s4.gen 56=s2.gen 56:=kg.trans jg
   have kko:s4.obj 56 0=s2.obj 56 0:=ko.trans jo
   have stop:(k=P.length \/ ∃hkl:k<P.length,gapB P[k]=true)->(P.drop k).takeWhile ngB=[]/\(P.drop k).dropWhile ngB=P.drop k/\j<k:=by
    rintro(h|⟨hkl,h⟩)
    ·rw[h,List.drop_length]
     exact⟨rfl,rfl,by omega⟩
    ·rw[List.drop_eq_getElem_cons hkl,List.takeWhile_cons,List.dropWhile_cons]
     have e:ngB P[k]=false:=by unfold ngB;rw[h];rfl
     rw[e]
     refine⟨rfl,rfl,?_⟩
     rcases Nat.lt_or_ge j k with h1|h1
     ·exact h1
     ·have:k=j:=by omega
      subst this
      rw[hgap]at h
      cases h
   have done:(k=P.length \/ ∃hkl:k<P.length,gapB P[k]=true)->j<k /\ ∃w,w=(P.drop j).take (k-j)/\w.length<=100000/\runA qs (w::toks [] (P.drop k))=res:=by
    intro h
    obtain⟨h1,h2,h3⟩:=stop h
    refine⟨h3,_,rfl,by rw[List.length_take];omega,?_⟩
    rw[h1,List.append_nil]at htw
    rw[htw,hdw,h2]at hr
    exact hr
   have fin : ∀w:List UInt8,runA qs (w::toks [] (P.drop k))=res->((numP w).1≠0->finP res=((numP w).1,[]))/\((numP w).1=0->runA (qs++[(numP w).2]) (toks [] (P.drop k))=res):=by
    intro w hw
    refine⟨fun h => ?_,fun h => ?_⟩
    ·rw[runA_cons_bad h]at hw
     rw[<- hw]
     cases hn:(numP w).1 with
     |zero=>exact absurd hn h
     |succ n=>rfl
    ·rw[runA_cons_ok h]at hw
     exact hw
   have go : ∀ (w:List UInt8),j<k->w=(P.drop j).take (k-j)->w.length<=100000->runA qs (w::toks [] (P.drop k))=res ->
     (∃v,ratS v/\Go.Ev.Fn CX 46 [.str (bs w)] (.tup [v,.int .i64 ((numP w).1:Int)])/\((numP w).1=0->v=rv (numP w).2)):=by
    intro w _ _ hw _
    obtain⟨v,h1,h2,h3⟩:=data_Number w (by omega)
    exact⟨v,h1,h2,fun h=>(h3 h).1⟩
   by_cases hke:k=P.length
   ·obtain⟨hjk',w,hw,hwl,hrw⟩:=done (.inl hke)
    have hw':(P.drop j).take (k-j)=w:=hw.symm
    obtain⟨v,⟨sg,n1,c1,n2,c2,rfl⟩,hN,hv⟩:=go w hjk' hw hwl hrw
    obtain⟨f1,f2⟩:=fin w hrw
    by_cases hm:(numP w).1=0
    ·have f3:=f2 hm
     rw[hv hm,hm]at hN
     generalize (numP w).2=q at *
     have hap:=rvsC_app qs q
     have hrl:=rvsC_len qs
     clear go fin done stop hx hv f1 f2
     unfold rv ratV at hN
     rcases hc with⟨rfl,i4,ig⟩|⟨hq0,i4,iO⟩
     ·rw[i4]at kk
      rw[ig]at kkg
      repeat (first|simp only[go_sem,k0,k5,k6,bs_size,mk_bs,bs_extract,hw',kk,kkg]|simp (disch:=first|exact oa|fail) only[AX,k0,k5,k6,bs_size,mk_bs,bs_extract,hw',kk,kkg]|refine wki ?_|refine wqn ?_|refine vf_of (by first|exact hN) ?_)
      refine sc_goto (by exact rfl) ?_
      simp only[go_sem]
      refine ih _ ⟨?_,k,[q],?_,by omega,by simp;omega,f3,.inr ⟨by simp,?_,?_⟩⟩ ?_
      ·simp only[go_sem,k0,kk,kkg]
      ·simp only[go_sem,k6]
      ·simp only[go_sem,kk,kkg]
       first|rfl|skip
      ·simp only[go_sem,kk,kkg]
       first|rfl|skip
      ·simp only[go_sem,k6]
       simp
       omega
     ·rw[i4]at kk
      rw[iO]at kko
      unfold rvC at hap
      repeat (first|simp only[go_sem,k0,k5,k6,bs_size,mk_bs,bs_extract,hw',kk,kko,N0,hrl]|simp (disch:=first|exact oa|fail) only[AX,k0,k5,k6,bs_size,mk_bs,bs_extract,hw',kk,kko,N0,hrl]|refine wki ?_|refine wqn ?_|refine vf_of (by first|exact hN) ?_)
      refine sc_goto (by exact rfl) ?_
      simp only[go_sem]
      refine ih _ ⟨?_,k,qs++[q],?_,by omega,by simp;omega,f3,.inr ⟨by simp,?_,?_⟩⟩ ?_
      ·simp only[go_sem,k0,kk,kko,hrl]
      ·simp only[go_sem,k6]
      ·simp only[go_sem,kk,kko,List.length_append]
       first|rfl|skip
      ·simp only[go_sem,kk,kko,hap]
       first|rfl|skip
      ·simp only[go_sem,k6]
       simp
       omega
    ·rw[f1 hm]
     generalize (numP w).1=m at *
     clear go fin done stop hx hv f1 f2
     repeat (first|simp only[go_sem,k0,k5,k6,bs_size,mk_bs,bs_extract,hw']|simp (disch:=first|exact oa|fail) only[AX,k0,k5,k6,bs_size,mk_bs,bs_extract,hw']|refine wki ?_|refine wqn ?_|refine vf_of (by first|exact hN) ?_)
     first|exact⟨rfl,rfl⟩|rfl|skip
   ·have hkl:k<P.length:=by omega
    have hgk:P[k]?=some P[k]:=List.getElem?_eq_getElem hkl
    obtain⟨y,hy0,hy1,hy2,hy3,hy4⟩:=gap_index P[k]
    have hyx:=str_IndexByte [32,44,10] P[k]
    rw[hy0]at hyx
    cases hgapk:gapB P[k]with
    |true=>
     have hy5:=hy3 hgapk
     obtain⟨hjk',w,hw,hwl,hrw⟩:=done (.inr ⟨hkl,hgapk⟩)
     have hw':(P.drop j).take (k-j)=w:=hw.symm
     clear hy3 hy4
     generalize P[k]=b at *
     obtain⟨v,⟨sg,n1,c1,n2,c2,rfl⟩,hN,hv⟩:=go w hjk' hw hwl hrw
     obtain⟨f1,f2⟩:=fin w hrw
     by_cases hm:(numP w).1=0
     ·have f3:=f2 hm
      rw[hv hm,hm]at hN
      generalize (numP w).2=q at *
      have hap:=rvsC_app qs q
      have hrl:=rvsC_len qs
      clear go fin done stop hx hv f1 f2
      unfold rv ratV at hN
      rcases hc with⟨rfl,i4,ig⟩|⟨hq0,i4,iO⟩
      ·rw[i4]at kk
       rw[ig]at kkg
       repeat (first|simp only[go_sem,k0,k5,k6,bs_size,mk_bs,bs_extract,vo_ix,idxB_bs,hgk,hw',kk,kkg]|simp (disch:=first|exact oa|fail) only[AX,k0,k5,k6,bs_size,mk_bs,bs_extract,vo_ix,idxB_bs,hgk,hw',kk,kkg]|refine wki ?_|refine wqn ?_|refine vf_of (by first|exact hyx|exact hN) ?_)
       refine sc_goto (by exact rfl) ?_
       simp only[go_sem]
       refine ih _ ⟨?_,k,[q],?_,by omega,by simp;omega,f3,.inr ⟨by simp,?_,?_⟩⟩ ?_
       ·simp only[go_sem,k0,kk,kkg]
       ·simp only[go_sem,k6]
       ·simp only[go_sem,kk,kkg]
        first|rfl|skip
       ·simp only[go_sem,kk,kkg]
        first|rfl|skip
       ·simp only[go_sem,k6]
        simp
        omega
      ·rw[i4]at kk
       rw[iO]at kko
       unfold rvC at hap
       repeat (first|simp only[go_sem,k0,k5,k6,bs_size,mk_bs,bs_extract,vo_ix,idxB_bs,hgk,hw',kk,kko,N0,hrl]|simp (disch:=first|exact oa|fail) only[AX,k0,k5,k6,bs_size,mk_bs,bs_extract,vo_ix,idxB_bs,hgk,hw',kk,kko,N0,hrl]|refine wki ?_|refine wqn ?_|refine vf_of (by first|exact hyx|exact hN) ?_)
       refine sc_goto (by exact rfl) ?_
       simp only[go_sem]
       refine ih _ ⟨?_,k,qs++[q],?_,by omega,by simp;omega,f3,.inr ⟨by simp,?_,?_⟩⟩ ?_
       ·simp only[go_sem,k0,kk,kko,hrl]
       ·simp only[go_sem,k6]
       ·simp only[go_sem,kk,kko,List.length_append]
        first|rfl|skip
       ·simp only[go_sem,kk,kko,hap]
        first|rfl|skip
       ·simp only[go_sem,k6]
        simp
        omega
     ·rw[f1 hm]
      generalize (numP w).1=m at *
      clear go fin done stop hx hv f1 f2
      repeat (first|simp only[go_sem,k0,k5,k6,bs_size,mk_bs,bs_extract,vo_ix,idxB_bs,hgk,hw']|simp (disch:=first|exact oa|fail) only[AX,k0,k5,k6,bs_size,mk_bs,bs_extract,vo_ix,idxB_bs,hgk,hw']|refine wki ?_|refine wqn ?_|refine vf_of (by first|exact hyx|exact hN) ?_)
      first|exact⟨rfl,rfl⟩|rfl|skip
    |false=>
     have hy5:=hy4 hgapk
     have hngk:ngB P[k]=true:=by unfold ngB;rw[hgapk];rfl
     have h2:(P.drop j).dropWhile ngB=(P.drop (k+1)).dropWhile ngB:=by
      rw[hdw,List.drop_eq_getElem_cons hkl,List.dropWhile_cons,hngk]
      rfl
     have h3:(P.drop j).takeWhile ngB=(P.drop j).take (k+1-j)++(P.drop (k+1)).takeWhile ngB:=by
      rw[htw,List.drop_eq_getElem_cons hkl,List.takeWhile_cons,hngk,show k+1-j=(k-j)+1 by omega,List.take_add_one,List.getElem?_drop,show j+(k-j)=k by omega,hgk]
      simp
     clear go fin done stop hx hy3 hy4
     generalize P[k]=b at *
     repeat (first|simp only[go_sem,k0,k4,k5,k6,bs_size,mk_bs,vo_ix,idxB_bs,hgk,kg,ko]|simp (disch:=first|exact oa|fail) only[AX,k0,k4,k5,k6,bs_size,mk_bs,vo_ix,idxB_bs,hgk,kg,ko]|refine wki ?_|refine wqn ?_|refine vf_of (by first|exact hyx) ?_)
     exact⟨⟨k+1,rfl,by omega,by omega,h3,h2⟩,by omega⟩
end Go.Proofs.YtdahehdomajbgaaGreatDoor
namespace Go.Proofs.YtdahehdomajbgaaGreatDoor
open Go.Ev
theorem x_cmp (a b:List UInt8):Go.Ev.Fn CX 52 [.str (bs a),.str (bs b)] (.int .i64 (Lib.compareBytes a b)):=by
 refine⟨1,List.replicate 2 none,?_⟩
 have h4:CX.X 52 ([SV.str (bs a),.str (bs b)].map Arg.sv)=some (.sv (.int .i64 (Lib.compareBytes a b)),List.replicate 2 none):=by
  show xCmp [.sv (.str (bs a)),.sv (.str (bs b))]=_
  unfold xCmp
  simp only[bs_toList]
 unfold callN
 rw[stq_sv,h4]
theorem str_Compare (a b:List UInt8):Go.Ev.Fn CX 24 [.str (bs a),.str (bs b)] (.int .i64 (Lib.compareBytes a b)):=by
 have h0:=x_cmp a b
 have h1:Go.Ev.Fn CX 40 [.str (bs a),.str (bs b)] (.int .i64 (Lib.compareBytes a b)):=by
  refine fni Tryz.f40 ?_;unfold Tryz.f40;simp only[Option.get!_some]
  simp only[go_sem]
  refine vf_of (h0) ?_;simp only[go_sem]
 refine fni Tryz.f24 ?_;unfold Tryz.f24;simp only[Option.get!_some]
 simp only[go_sem]
 refine vf_of (h1) ?_;simp only[go_sem]
theorem sess_by (a b:List UInt8) (n:Nat) (rs:List SV):Go.Ev.Fn CX 23 [.agg [.str (bs a),.sl n rs],.str (bs b)] (.int .i64 (Lib.compareBytes a b)):=by
 have h0:=str_Compare a b
 refine fni Tryz.f23 ?_;unfold Tryz.f23;simp only[Option.get!_some]
 simp only[go_sem]
 refine vf_of (h0) ?_;simp only[go_sem]
def letB:List UInt8:=[97,98,99,100,101,102,103,104,105,106,107,108,109,110,111,112,113,114,115,116,117,118,119,120,121,122]
def sgnB:List UInt8:=letB++[48,49,50,51,52,53,54,55,56,57]
def nameP (l:List UInt8):Bool:=match l with
 | []=>false
 |b::r=>decide (r.length<12)&&(decide (0<=Lib.indexByte letB b)&&(Lib.trimS (b::r) sgnB).isEmpty)
theorem isEmpty_beq (l:List UInt8):(l==[])=l.isEmpty:=by cases l<;>rfl
theorem sess_Name (l:List UInt8) (hl:l.length<=1048576):Go.Ev.Fn CX 11 [.str (bs l)] (.bool (nameP l)):=by
 cases l with
 |nil=>
  have h0:(([]:List UInt8)==[])=true:=rfl
  refine fni Tryz.f11 ?_;unfold Tryz.f11;simp only[Option.get!_some]
  repeat (first|simp only[go_sem,mk_bs,bs_eq,h0,Bool.not_true]|simp (disch:=first|exact oa|fail) only[AX,mk_bs,bs_eq,h0,Bool.not_true]|refine wki ?_|refine wqn ?_)
  rfl
 |cons b r=>
  have hi:=str_IndexByte letB b
  have ht:=x_trim (b::r) sgnB (by omega) (by decide) (by decide)
  have hn:((b::r)==([]:List UInt8))=false:=rfl
  have hx:(b::r)[0]?=some b:=rfl
  have hsz:(b::r).length=r.length+1:=rfl
  have hnp:nameP (b::r)=(decide (r.length<12)&&(decide (0<=Lib.indexByte letB b)&&(Lib.trimS (b::r) sgnB).isEmpty)):=rfl
  rw[hnp]
  generalize (b::r)=l at *
  generalize hT:Lib.trimS l sgnB=T at *
  generalize hI:Lib.indexByte letB b=z at *
  rw[show letB=[97,98,99,100,101,102,103,104,105,106,107,108,109,110,111,112,113,114,115,116,117,118,119,120,121,122] from rfl]at hi
  rw[show sgnB=[97,98,99,100,101,102,103,104,105,106,107,108,109,110,111,112,113,114,115,116,117,118,119,120,121,122,48,49,50,51,52,53,54,55,56,57] from rfl]at ht
  clear hT hI
  by_cases h1:r.length<12
  ·have d1:=decide_eq_true h1
   by_cases h2:0<=z
   ·have d2:=decide_eq_true h2
    refine fni Tryz.f11 ?_;unfold Tryz.f11;simp only[Option.get!_some]
    repeat (first|simp only[go_sem,mk_bs,bs_eq,bs_size,hn,hsz,hx,vo_ix,idxB_bs,Bool.not_false,d1,d2,ge_iff_le,isEmpty_beq,Option.map_some]|simp (disch:=first|exact oa|fail) only[AX,mk_bs,bs_eq,bs_size,hn,hsz,hx,vo_ix,idxB_bs,Bool.not_false,d1,d2,ge_iff_le,isEmpty_beq,Option.map_some]|refine wki ?_|refine wqn ?_|refine vf_of (by first|exact hi|exact ht) ?_)
   ·have d2:=decide_eq_false h2
    refine fni Tryz.f11 ?_;unfold Tryz.f11;simp only[Option.get!_some]
    repeat (first|simp only[go_sem,mk_bs,bs_eq,bs_size,hn,hsz,hx,vo_ix,idxB_bs,Bool.not_false,d1,d2,ge_iff_le,isEmpty_beq,Option.map_some]|simp (disch:=first|exact oa|fail) only[AX,mk_bs,bs_eq,bs_size,hn,hsz,hx,vo_ix,idxB_bs,Bool.not_false,d1,d2,ge_iff_le,isEmpty_beq,Option.map_some]|refine wki ?_|refine wqn ?_|refine vf_of (by first|exact hi) ?_)
    rw[Bool.false_and]
  ·refine fni Tryz.f11 ?_;unfold Tryz.f11;simp only[Option.get!_some]
   repeat (first|simp only[go_sem,mk_bs,bs_eq,bs_size,hn,hsz,Bool.not_false]|simp (disch:=first|exact oa|fail) only[AX,mk_bs,bs_eq,bs_size,hn,hsz,Bool.not_false]|refine wki ?_|refine wqn ?_)
   simp[h1]
theorem rvs_snocA {l:List Rat} {i:Nat} (h:i<l.length):rvsC (l.take i)++rvC (l.getD i 0)=rvsC (l.take (i+1)):=by rw[take_snoc l h,rvsC_snoc]
theorem sess_copied {cs:List SV} {l:List Rat} {L:Nat} (h:RowC cs l L) (hL:1<=L) (hL2:L<=10000) (hl:l.length<=100000):Go.Ev.Fn CX 14 [.sl l.length cs] (.sl l.length (rvsC l)):=by
 have hlen:=row_len h
 refine fni Tryz.f14 ?_;unfold Tryz.f14;simp only[Option.get!_some]
 repeat (first|simp only[go_sem]|simp (disch:=first|exact oa|fail) only[AX]|refine wki ?_|refine wqn ?_)
 refine vp_loop_inv (fun s=>s.tmp 6 = .sv (.sl l.length cs)/\s.tmp 7 = .sv (.int .i64 (l.length:Int)) /\ ∃i:Nat,s.tmp 8 = .sv (.int .i64 (i:Int))/\i<=l.length /\
   ((i=0/\s.tmp 3 = .nil/\s.gen 16=0)\/(0<i/\s.tmp 3 = .ref 16 0 3 0 i/\s.obj 16 0=some (rvsC (l.take i)))))
  (fun s=>match s.tmp 8 with | .sv (.int _ i)=>l.length-i.toNat|_=>0) ⟨rfl,rfl,0,rfl,by omega,.inl ⟨rfl,rfl,rfl⟩⟩ ?_
 rintro s2 ⟨i6,i7,i,i8,hi,hcase⟩
 by_cases hend:i=l.length
 ·subst hend
  rw[List.take_length]at hcase
  rcases hcase with⟨h0,i3,_⟩|⟨h0,i3,iO⟩
  ·have:l=[]:=List.eq_nil_of_length_eq_zero h0
   subst this
   repeat (first|simp only[go_sem,i6,i7,i8,i3]|simp (disch:=first|exact oa|fail) only[AX,i6,i7,i8,i3]|refine wki ?_|refine wqn ?_)
   first|rfl|skip
  ·have hrl:=rvsC_len l
   repeat (first|simp only[go_sem,i6,i7,i8,i3,iO]|simp (disch:=first|exact oa|fail) only[AX,i6,i7,i8,i3,iO]|refine wki ?_|refine wqn ?_)
   refine ro_ref (cs:=rvsC l) (by decide) ?_ ?_
   ·simp only[go_sem,i3,iO]
   ·rw[List.drop_zero,List.take_of_length_le (by omega)]
 ·obtain⟨s,n,d,rest,hat,hA⟩:=row_at (i:=i) h (by omega)
  have a:=rat_Norm hA (by omega)
  have hsn:=rvs_snocA (l:=l) (i:=i) (by omega)
  have hrl:=rvsC_len (l.take i)
  rw[List.length_take,Nat.min_eq_left (by omega)]at hrl
  clear h hA
  rcases hcase with⟨h00,i3,ig⟩|⟨h00,i3,iO⟩
  ·subst h00
   rw[List.take_zero,rvsC_nil,List.nil_append]at hsn
   rw[Nat.zero_mul,List.drop_zero]at hat
   subst hat
   repeat (first|simp only[go_sem,i6,i7,i3,i8,ig,N0,rvC]|simp (disch:=first|exact oa|fail) only[AX,i6,i7,i3,i8,ig,N0,rvC]|refine wki ?_|refine wqn ?_|refine vf_of (by first|exact a) ?_)
   exact⟨⟨1,rfl,by omega,.inr ⟨by omega,rfl,by first|(rw[<- hsn];rfl)|rw[<- hsn]⟩⟩,by omega⟩
  ·unfold rvC at hsn
   repeat (first|simp only[go_sem,i6,i7,i3,i8,iO,hat,hlen,N0,hsn,hrl,rvC]|simp (disch:=first|exact oa|fail) only[AX,i6,i7,i3,i8,iO,hat,hlen,N0,hsn,hrl,rvC]|refine wki ?_|refine wqn ?_|refine vf_of (by first|exact a) ?_)
   exact⟨⟨i+1,rfl,by omega,.inr ⟨by omega,rfl,by first|(rw[<- hsn];rfl)|rw[<- hsn]⟩⟩,by omega⟩
theorem sess_New:FnH CX 5 [] [.nil,.sv (.int .i64 6)]:=⟨20,[],by kernel_rfl⟩
end Go.Proofs.YtdahehdomajbgaaGreatDoor
namespace Go.Proofs.YtdahehdomajbgaaGreatDoor
open Go.Ev
abbrev Ent:=List UInt8×Nat×List SV
def entC (es:List Ent):List SV:=es.flatMap fun e=>[.str (bs e.1),.sl e.2.1 e.2.2]
theorem entC_cons (e:Ent) (es:List Ent):entC (e::es) = .str (bs e.1) :: .sl e.2.1 e.2.2::entC es:=by unfold entC;simp
theorem entC_len : ∀es:List Ent,(entC es).length=es.length*2
 | []=>rfl
 |e::es=>by rw[entC_cons,List.length_cons,List.length_cons,entC_len es,List.length_cons];omega
theorem entC_one : ∀es:List Ent,oneAll (entC es)=true
 | []=>rfl
 |e::es=>by
  have:=entC_one es
  unfold oneAll at this ⊢
  rw[entC_cons,List.all_cons,List.all_cons,this]
  rfl
theorem entC_app (a b:List Ent):entC (a++b)=entC a++entC b:=by unfold entC;simp
theorem ent_at : ∀ {es:List Ent} {k:Nat},k<es.length -> ∃rest,(entC es).drop (k*2) = .str (bs (es.getD k default).1) :: .sl (es.getD k default).2.1 (es.getD k default).2.2::rest
 |e::es,0,_=>⟨entC es,by rw[Nat.zero_mul,List.drop_zero,entC_cons];rfl⟩
 |e::es,k+1,h=>by
  obtain⟨rest,hr⟩:=ent_at (es:=es) (k:=k) (by simpa using h)
  refine⟨rest,?_⟩
  rw[entC_cons,show (k+1)*2=k*2+2 by omega,List.drop_succ_cons,List.drop_succ_cons,hr]
  rfl
def cmpAt (es:List Ent) (k:Nat) (t:List UInt8):Int:=Lib.compareBytes (es.getD k default).1 t
structure PosAt (es:List Ent) (t:List UInt8) (p:Nat):Prop where
 le:p<=es.length
 lo : ∀k,k<p->cmpAt es k t<0
 hi : ∀k,p<=k->k<es.length -> ¬cmpAt es k t<0
def isAt (es:List Ent) (t:List UInt8) (p:Nat):Bool:=decide (p<es.length)&&(cmpAt es p t==0)
theorem exp_search {s:St} {cs:List SV} {n:Nat} {x y:SV}:expOf s [.impref cs 2 0 n,.sv x,.sv y]=[s.obj 1000000 0,none,none]:=rfl
theorem sess_search {es:List Ent} {t:List UInt8} {p:Nat} (hp:PosAt es t p) (hl:es.length<=100000) :
  FnI CX 22 [.impref (entC es) 2 0 es.length,.sv (.str (bs t)),.sv (.fn 23 [])] (.tup [.int .i64 p,.bool (isAt es t p)]) [some (entC es),none,none]:=by
 have key : ∃r exps,(r = .tup [.int .i64 p,.bool (isAt es t p)]/\exps=[some (entC es),none,none])/\FnI CX 22 [.impref (entC es) 2 0 es.length,.sv (.str (bs t)),.sv (.fn 23 [])] r exps:=by
  refine FnI_of (fn:=Tryz.f22) (body:=(Tryz.f22).body.get!) (by kernel_rfl) (by kernel_rfl) (by kernel_rfl) (fun _=>rfl) (Nat.le_of_ble_eq_true (by kernel_rfl)) ?_
  unfold Tryz.f22
  simp only[Option.get!_some,exp_search]
  repeat (first|simp only[go_sem,N0]|simp (disch:=first|exact oa|fail) only[AX,N0]|refine wki ?_|refine wqn ?_)
  refine vp_loop_inv (fun s=>s.tmp 0 = .ref 1000000 0 2 0 es.length/\s.tmp 1 = .sv (.str (bs t))/\s.tmp 2 = .sv (.fn 23 [])/\s.obj 1000000 0=some (entC es)/\s.tmp 8 = .sv (.int .i64 (es.length:Int)) /\
    ∃i j:Nat,s.tmp 9 = .sv (.int .i64 (i:Int))/\s.tmp 10 = .sv (.int .i64 (j:Int))/\i<=p/\p<=j/\j<=es.length)
   (fun s=>match s.tmp 9,s.tmp 10 with | .sv (.int _ i),.sv (.int _ j)=>j.toNat-i.toNat|_,_=>0) ⟨rfl,rfl,rfl,rfl,rfl,0,es.length,rfl,rfl,by omega,hp.le,by omega⟩ ?_
  rintro s ⟨i0,i1,i2,iO,i8,i,j,i9,i10,hi,hj,hjl⟩
  by_cases hend:i=j
  ·have:i=p:=by omega
   subst this
   subst hend
   by_cases hlt:i<es.length
   ·obtain⟨rest,hat⟩:=ent_at hlt
    have c:=sess_by (es.getD i default).1 t (es.getD i default).2.1 (es.getD i default).2.2
    have hfi:isAt es t i=(Lib.compareBytes (es.getD i default).1 t==0):=by unfold isAt cmpAt;rw[decide_eq_true hlt,Bool.true_and]
    rw[hfi]
    generalize Lib.compareBytes (es.getD i default).1 t=z at *
    repeat (first|simp only[go_sem,i0,i1,i2,iO,i8,i9,i10,hat]|simp (disch:=first|exact oa|fail) only[AX,i0,i1,i2,iO,i8,i9,i10,hat]|refine wki ?_|refine wqn ?_)
    refine vf_of (c) ?_;repeat (first|simp only[go_sem,i0,i1,i2,iO,i8,i9,i10,hat]|simp (disch:=first|exact oa|fail) only[AX,i0,i1,i2,iO,i8,i9,i10,hat]|refine wki ?_|refine wqn ?_)
    refine⟨_,_,⟨rfl,rfl⟩,?_,rfl⟩
    simp only[go_sem]
   ·have hfi:isAt es t i=false:=by unfold isAt;rw[decide_eq_false hlt,Bool.false_and]
    rw[hfi]
    repeat (first|simp only[go_sem,i0,i1,i2,iO,i8,i9,i10]|simp (disch:=first|exact oa|fail) only[AX,i0,i1,i2,iO,i8,i9,i10]|refine wki ?_|refine wqn ?_)
    refine⟨_,_,⟨rfl,rfl⟩,?_,rfl⟩
    simp only[go_sem]
  ·have hh : ∃h,(i+j)/2=h:=⟨_,rfl⟩
   obtain⟨h,hh⟩:=hh
   have hhj:h<j:=by omega
   have hih:i<=h:=by omega
   obtain⟨rest,hat⟩:=ent_at (es:=es) (k:=h) (by omega)
   have c:=sess_by (es.getD h default).1 t (es.getD h default).2.1 (es.getD h default).2.2
   have hlo:=hp.lo h
   have hhi:=hp.hi h
   unfold cmpAt at hlo hhi
   generalize Lib.compareBytes (es.getD h default).1 t=z at *
   have hlen:=entC_len es
   by_cases hz:z<0
   ·have dz:=decide_eq_true hz
    repeat (first|simp only[go_sem,i0,i1,i2,iO,i8,i9,i10,hh,hlen,hat]|simp (disch:=first|exact oa|fail) only[AX,i0,i1,i2,iO,i8,i9,i10,hh,hlen,hat]|refine wki ?_|refine wqn ?_)
    refine vf_of (c) ?_;repeat (first|simp only[go_sem,i0,i1,i2,iO,i8,i9,i10,hh,hlen,hat,dz]|simp (disch:=first|exact oa|fail) only[AX,i0,i1,i2,iO,i8,i9,i10,hh,hlen,hat,dz]|refine wki ?_|refine wqn ?_)
    exact⟨⟨h+1,j,rfl,rfl,by omega,hj,hjl⟩,by omega⟩
   ·have dz:=decide_eq_false hz
    repeat (first|simp only[go_sem,i0,i1,i2,iO,i8,i9,i10,hh,hlen,hat]|simp (disch:=first|exact oa|fail) only[AX,i0,i1,i2,iO,i8,i9,i10,hh,hlen,hat]|refine wki ?_|refine wqn ?_)
    refine vf_of (c) ?_;repeat (first|simp only[go_sem,i0,i1,i2,iO,i8,i9,i10,hh,hlen,hat,dz]|simp (disch:=first|exact oa|fail) only[AX,i0,i1,i2,iO,i8,i9,i10,hh,hlen,hat,dz]|refine wki ?_|refine wqn ?_)
    exact⟨⟨i,h,rfl,rfl,hi,by omega,by omega⟩,by omega⟩
 obtain⟨r,exps,⟨rfl,rfl⟩,h⟩:=key
 exact h
end Go.Proofs.YtdahehdomajbgaaGreatDoor
namespace Go.Proofs.YtdahehdomajbgaaGreatDoor
open Go.Ev
def TP (n:Nat):Bool:=Nat.beq n 21||(Nat.beq n 25||Nat.beq n 51)
def plT (T:Nat->Bool):TV->Bool
 | .sv _=>true
 | .nil=>true
 | .undef=>true
 | .ptr d _ _ => !T d
 | .ref d _ _ _ _ => !T d
 | .rfc d _ _ _ _ _ => !T d
 | .pst d _ => !T d
 | .tp d _ _ _ _ _ => !T d
 | .skip=>true
 | .emp=>true
abbrev plV:TV->Bool:=plT TP
theorem nbeq {a b:Nat} (h:a≠b):Nat.beq a b=false:=by
 cases e:Nat.beq a b with
 |false=>rfl
 |true=>exact absurd (Nat.eq_of_beq_eq_true e) h
theorem tp_ob {d:Nat} (h:H0<=d):TP d=false:=by
 have h:2000000<=d:=h
 unfold TP
 rw[nbeq (a:=d) (b:=21) (by omega),nbeq (a:=d) (b:=25) (by omega),nbeq (a:=d) (b:=51) (by omega)]
 rfl
theorem pl_ob {d g o:Nat} (h:H0<=d):plV (.ptr d g o)=true:=by
 show (!TP d)=true
 rw[tp_ob h]
 rfl
section
variable {T:Nat->Bool}
theorem kill_pl {v:TV} {d g:Nat} (h:plT T v=true) (hd:T d=true):v.kill d g=v:=by
 have key : ∀d',(!T d')=true -> ¬(d'=d /\ ∃x:Nat,x=g):=fun d' h e=>by rw[e.1,hd]at h;cases h
 cases v with
 |ptr d' g' off=>exact if_neg fun e=>key d' h ⟨e.1,_,e.2⟩
 |ref d' g' a b c=>exact if_neg fun e=>key d' h ⟨e.1,_,e.2⟩
 |rfc d' g' a b c e'=>exact if_neg fun e=>key d' h ⟨e.1,_,e.2⟩
 |pst d' g'=>exact if_neg fun e=>key d' h ⟨e.1,_,e.2⟩
 |tp d' g' a b c e'=>exact if_neg fun e=>key d' h ⟨e.1,_,e.2⟩
 |_=>rfl
theorem frz_pl {v:TV} {d g:Nat} {cs:List SV} (h:plT T v=true) (hd:T d=true):v.frz d g cs=v:=by
 have key : ∀d',(!T d')=true -> ¬(d'=d /\ ∃x:Nat,x=g):=fun d' h e=>by rw[e.1,hd]at h;cases h
 cases v with
 |ptr d' g' off=>exact if_neg fun e=>key d' h ⟨e.1,_,e.2⟩
 |ref d' g' a b c=>exact if_neg fun e=>key d' h ⟨e.1,_,e.2⟩
 |rfc d' g' a b c e'=>exact if_neg fun e=>key d' h ⟨e.1,_,e.2⟩
 |pst d' g'=>exact if_neg fun e=>key d' h ⟨e.1,_,e.2⟩
 |tp d' g' a b c e'=>exact if_neg fun e=>key d' h ⟨e.1,_,e.2⟩
 |_=>rfl
end
theorem up_even {st:St} {vs:List TV} {t:Nat}:(st.enter vs).up (2*t)=st.tmp t:=by
 rw[up_enter,if_pos (by omega),show 2*t/2=t by omega]
theorem up_odd {st:St} {vs:List TV} {t:Nat}:(st.enter vs).up (2*t+1)=st.up t:=by
 rw[up_enter,if_neg (by omega),show (2*t+1)/2=t by omega]
structure Kp (T:Nat->Bool) (d:Nat) (st s:St):Prop where
 up : ∀u,plT T (st.up u)=true->s.up u=st.up u
 obj : ∀n g,T n=false->g<st.gen n->s.obj n g=st.obj n g
 gen : ∀n,st.gen n<=s.gen n
 hob : ∀d' g' ts,d'≠d->st.hob d' g'=some ts->(∀t∈ts,plT T t=true)->s.hob d' g'=some ts
 bmw:s.bm=st.bm/\s.bw=st.bw
structure KeepT (T:Nat->Bool) (d:Nat) (st st':St):Prop extends Kp T d st st' where
 tmp : ∀t,plT T (st.tmp t)=true->st'.tmp t=st.tmp t
abbrev Keep:=KeepT TP
section
variable {T:Nat->Bool} {d:Nat} {st s:St}
theorem Kp.refl:Kp T d st st:=⟨fun _ _=>rfl,fun _ _ _ _=>rfl,fun _=>Nat.le_refl _,fun _ _ _ _ h _=>h,rfl,rfl⟩
theorem Kp.trans {a b c:St} (h:Kp T d a b) (k:Kp T d b c):Kp T d a c:=
 ⟨fun u hu=>(k.up u (by rw[h.up u hu];exact hu)).trans (h.up u hu),fun n g hn hg=>(k.obj n g hn (Nat.lt_of_lt_of_le hg (h.gen n))).trans (h.obj n g hn hg),fun n=>Nat.le_trans (h.gen n) (k.gen n),
  fun d' g' ts hd ho hp=>k.hob d' g' ts hd (h.hob d' g' ts hd ho hp) hp,k.bmw.1.trans h.bmw.1,k.bmw.2.trans h.bmw.2⟩
theorem Kp.put {t:Nat} {v:TV} (h:Kp T d st s):Kp T d st (s.put t v):=⟨h.up,h.obj,h.gen,h.hob,h.bmw⟩
theorem Kp.set {n g:Nat} {cs:List SV} (hn:T n=true) (h:Kp T d st s):Kp T d st (s.set n g cs):=
 ⟨h.up,fun n' g' hn' hg=>(if_neg fun e=>by rw[e.1,hn]at hn';cases hn').trans (h.obj n' g' hn' hg),h.gen,h.hob,h.bmw⟩
theorem Kp.new {t:Nat} {cs:List SV} {v:TV} (h:Kp T d st s):Kp T d st (s.new t cs v):=
 ⟨h.up,fun n g hn hg=>(if_neg fun e=>absurd (h.gen n) (by rw[e.1]at hg ⊢;omega)).trans (h.obj n g hn hg),fun n=>Nat.le_trans (h.gen n) (by rw[gen_new];split<;>rename_i e<;>(try rw[e])<;>omega),h.hob,h.bmw⟩
theorem Kp.newset {t:Nat} {cs cs':List SV} {v:TV} (h:Kp T d st s):Kp T d st ((s.new t cs v).set t (s.gen t) cs'):=
 ⟨h.up,fun n g hn hg=>(if_neg fun e=>absurd (h.gen n) (by rw[e.1]at hg ⊢;omega)).trans ((h.new (t:=t) (cs:=cs) (v:=v)).obj n g hn hg),(h.new (t:=t) (cs:=cs) (v:=v)).gen,h.hob,h.bmw⟩
theorem Kp.setH {g:Nat} {ts:List TV} (h:Kp T d st s):Kp T d st (s.setH d g ts):=
 ⟨h.up,h.obj,h.gen,fun d' g' ts hd ho hp=>(if_neg fun e=>hd e.1).trans (h.hob d' g' ts hd ho hp),h.bmw⟩
theorem map_kill {n g:Nat} {ts:List TV} (hn:T n=true) (hp : ∀t∈ts,plT T t=true):(ts.map fun t=>t.kill n g)=ts:=by
 refine(List.map_congr_left fun t ht=>kill_pl (hp t ht) hn).trans (List.map_id' ts)
theorem map_frz {n g:Nat} {cs:List SV} {ts:List TV} (hn:T n=true) (hp : ∀t∈ts,plT T t=true):(ts.map fun t=>t.frz n g cs)=ts:=by
 refine(List.map_congr_left fun t ht=>frz_pl (hp t ht) hn).trans (List.map_id' ts)
theorem Kp.frzd {n g:Nat} {cs:List SV} (hn:T n=true) (h:Kp T d st s):Kp T d st (s.frzd n g cs):=
 ⟨fun u hu=>(congrArg (TV.frz n g cs) (h.up u hu)).trans (frz_pl hu hn),fun n' g' hn' hg=>(if_neg fun e=>by rw[e.1,hn]at hn';cases hn').trans (h.obj n' g' hn' hg),h.gen,
  fun d' g' ts hd ho hp=>by
   show Option.map (fun ts=>ts.map fun t=>t.frz n g cs) (s.hob d' g')=some ts
   rw[h.hob d' g' ts hd ho hp]
   exact congrArg some (map_frz hn hp),h.bmw⟩
theorem Kp.grow {t n g a b c:Nat} {cs:List SV} (hn:T n=true) (h:Kp T d st s):Kp T d st (s.grow t n g a b c cs):=
 ⟨fun u hu=>(congrArg (TV.kill n g) (h.up u hu)).trans (kill_pl hu hn),fun n' g' hn' hg=>(if_neg fun e=>by rw[e.1,hn]at hn';cases hn').trans (h.obj n' g' hn' hg),h.gen,
  fun d' g' ts hd ho hp=>by
   show Option.map (fun ts=>ts.map fun t=>t.kill n g) (s.hob d' g')=some ts
   rw[h.hob d' g' ts hd ho hp]
   exact congrArg some (map_kill hn hp),h.bmw⟩
theorem Kp.ins {n g:Nat} {cs:List SV} (hn:T n=true) (h:Kp T d st s):Kp T d st (insSt s n g cs):=
 ⟨fun u hu=>(congrArg (TV.kill n g) (h.up u hu)).trans (kill_pl hu hn),fun n' g' hn' hg=>(if_neg fun e=>by rw[e.1,hn]at hn';cases hn').trans (h.obj n' g' hn' hg),fun n=>Nat.le_succ_of_le (h.gen n),
  fun d' g' ts hd ho hp=>by
   show Option.map (fun ts=>ts.map fun t=>t.kill n g) (s.hob d' g')=some ts
   rw[h.hob d' g' ts hd ho hp]
   exact congrArg some (map_kill hn hp),h.bmw⟩
theorem KeepT.kp {st':St} (h:KeepT T d st st'):Kp T d st st':=h.toKp
theorem keep_of {vs:List TV} (h:Kp T d (st.enter vs) s):KeepT T d st s.leave:=
 {up:=fun t ht=>by rw[up_leave,h.up (2*t+1) (by rw[up_odd];exact ht),up_odd]
  tmp:=fun t ht=>by rw[tmp_leave,h.up (2*t) (by rw[up_even];exact ht),up_even]
  obj:=h.obj
  gen:=h.gen
  hob:=h.hob
  bmw:=h.bmw }
theorem KeepT.trans {a b c:St} (h:KeepT T d a b) (k:KeepT T d b c):KeepT T d a c:=
 {h.kp.trans k.kp with tmp:=fun t ht=>by rw[k.tmp t (by rw[h.tmp t ht];exact ht),h.tmp t ht] }
end
structure SessR (st:St) (d g:Nat) (es:List Ent) (D:Int):Prop where
 ob:H0<=d
 row:(es=[]/\st.hob d g=some [.nil,.sv (.int .i64 D)]) \/ ∃g1,g1<st.gen 25/\st.hob d g=some [.ref 25 g1 2 0 es.length,.sv (.int .i64 D)]/\st.obj 25 g1=some (entC es)
theorem SessR.of {st s:St} {d g:Nat} {es:List Ent} {D:Int} (h:SessR st d g es D) (h1:s.hob d g=st.hob d g) (h2 : ∀g1,s.obj 25 g1=st.obj 25 g1) (h3:st.gen 25<=s.gen 25):SessR s d g es D:=by
 obtain⟨hd,hrow⟩:=h
 refine⟨hd,?_⟩
 rcases hrow with⟨e,ho⟩|⟨g1,hg1,ho,hobj⟩
 ·exact .inl ⟨e,h1.trans ho⟩
 ·exact .inr ⟨g1,Nat.lt_of_lt_of_le hg1 h3,h1.trans ho,(h2 g1).trans hobj⟩
theorem search_nil (t:List UInt8):Go.Ev.Fn CX 22 [.sl 0 [],.str (bs t),.fn 23 []] (.tup [.int .i64 0,.bool false]):=by
 refine fni Tryz.f22 ?_;unfold Tryz.f22;simp only[Option.get!_some]
 repeat (first|simp only[go_sem]|simp (disch:=first|exact oa|fail) only[AX]|refine wki ?_|refine wqn ?_)
 refine vp_loop_inv (fun s=>s.tmp 8 = .sv (.int .i64 0)/\s.tmp 9 = .sv (.int .i64 0)/\s.tmp 10 = .sv (.int .i64 0)) (fun _=>0) ⟨rfl,rfl,rfl⟩ ?_
 rintro s ⟨i8,i9,i10⟩
 repeat (first|simp only[go_sem,i8,i9,i10]|simp (disch:=first|exact oa|fail) only[AX,i8,i9,i10]|refine wki ?_|refine wqn ?_)
section
variable {ops:Array Oper} {l:List Oper} {dst:Option Nat} {st:St} {Q:St->Prop} {d g p:Nat} {es:List Ent} {t:List UInt8} {D:Int}
structure Same (st st':St):Prop where
 tmp : ∀t,st'.tmp t=st.tmp t
 up : ∀t,st'.up t=st.up t
 obj : ∀d g,st'.obj d g=st.obj d g
 gen:st'.gen=st.gen
 hob:st'.hob=st.hob
 bmw:st'.bm=st.bm/\st'.bw=st.bw
theorem Same.keep {T:Nat->Bool} {d:Nat} {st st':St} (h:Same st st'):KeepT T d st st' :=
 {up:=fun t _=>h.up t,tmp:=fun t _=>h.tmp t,obj:=fun n g _ _=>h.obj n g,gen:=fun n=>by rw[h.gen];exact Nat.le_refl _,hob:=fun d' g' ts _ ho _=>by rw[h.hob];exact ho,bmw:=h.bmw }
theorem same_leave {st b s1 s:St} {vs:List TV} (h:Same b s1) (hb:b.up=(st.enter vs).up) (hb2:b.obj=st.obj) (hb3:b.gen=st.gen) (hb4:b.hob=st.hob) (hs:s.up=s1.up) (hs2:s.obj=s1.obj) (hs3:s.gen=s1.gen) (hs4:s.hob=s1.hob) (hs5:s.bm=s1.bm/\s.bw=s1.bw:=by exact⟨rfl,rfl⟩) (hb5:b.bm=st.bm/\b.bw=st.bw:=by exact⟨rfl,rfl⟩):Same st s.leave:=
 ⟨fun t=>by rw[tmp_leave,hs,h.up,hb,up_even],fun t=>by rw[up_leave,hs,h.up,hb,up_odd],fun d g=>by rw[obj_leave,hs2,h.obj,hb2],by rw[gen_leave,hs3,h.gen,hb3],by rw[hob_leave,hs4,h.hob,hb4],by rw[bm_leave,hs5.1,h.bmw.1,hb5.1],by rw[bw_leave,hs5.2,h.bmw.2,hb5.2]⟩
theorem sess_atS (hp:PosAt es t p) (hl:es.length<=100000) (h:SessR st d g es D)
  (k : ∀st',Same st st'->WO CX false ops l (st'.putO dst (.sv (.tup [.int .i64 p,.bool (isAt es t p)]))) Q) :
  WN CX ops l dst st Q 12 [.ptr d g 0,.sv (.str (bs t))]:=by
 obtain⟨hd,hrow⟩:=h
 have hd':2000000<=d:=hd
 rcases hrow with⟨rfl,ho⟩|⟨g1,hg1,ho,hobj⟩
 ·have:p=0:=by have:=hp.le;simpa using this
  subst this
  have c:=search_nil t
  refine wni Tryz.f12 ?_;unfold Tryz.f12;simp only[Option.get!_some]
  repeat (first|simp only[go_sem,hd',ho]|simp (disch:=first|exact oa|fail) only[AX,hd',ho]|refine wki ?_|refine wqn ?_|refine vf_of (by first|exact c) ?_)
  exact k _ ⟨fun u=>by simp only[tmp_leave,up_put,up_even],fun u=>by simp only[up_leave,up_put,up_odd],fun _ _=>rfl,rfl,rfl,rfl,rfl⟩
 ·have c:=sess_search hp hl
  refine wni Tryz.f12 ?_;unfold Tryz.f12;simp only[Option.get!_some]
  repeat (first|simp only[go_sem,hd',ho,hobj]|simp (disch:=first|exact oa|fail) only[AX,hd',ho,hobj]|refine wki ?_|refine wqn ?_)
  refine vi_of c rfl ?_
  repeat (first|simp only[go_sem,hd',ho,hobj]|simp (disch:=first|exact oa|fail) only[AX,hd',ho,hobj]|refine wki ?_|refine wqn ?_)
  refine k _ ⟨fun u=>by simp only[tmp_leave,up_put,up_set,up_even],fun u=>by simp only[up_leave,up_put,up_set,up_odd],fun d2 g2 => ?_,rfl,rfl,rfl,rfl⟩
  simp only[obj_leave,obj_put,obj_set]
  split
  ·rename_i e
   rw[e.1,e.2,<- hobj]
  ·rfl
theorem sess_at (hp:PosAt es t p) (hl:es.length<=100000) (h:SessR st d g es D)
  (k : ∀st',Keep d st st'->SessR st' d g es D->WO CX false ops l (st'.putO dst (.sv (.tup [.int .i64 p,.bool (isAt es t p)]))) Q) :
  WN CX ops l dst st Q 12 [.ptr d g 0,.sv (.str (bs t))]:=
 sess_atS hp hl h fun s hs=>k s hs.keep (h.of (by rw[hs.hob]) (fun _=>hs.obj _ _) (by rw[hs.gen];exact Nat.le_refl _))
theorem sess_insert_nil {g2:Nat} (h2:st.obj 49 g2=some [.str (bs t),.sl 0 []])
  (k : ∀st' g',Keep d st st'->g'<st'.gen 25->st'.obj 25 g'=some (entC [(t,0,[])])->st'.hob=st.hob->WO CX false ops l (st'.putO dst (.ref 25 g' 2 0 1)) Q) :
  WN CX ops l dst st Q 13 [.nil,.sv (.int .i64 0),.ref 49 g2 2 0 1]:=by
 refine wni Tryz.f13 ?_;unfold Tryz.f13;simp only[Option.get!_some]
 repeat (first|simp only[go_sem,h2]|simp (disch:=first|exact oa|fail) only[AX,h2]|refine wki ?_|refine wqn ?_|refine vpd 11 [] ?_|refine vpd 15 [] ?_)
 refine k _ (st.gen 25) (keep_of (by repeat (first|exact Kp.refl|refine Kp.put ?_|refine Kp.setH ?_|refine Kp.newset ?_|refine Kp.set rfl ?_|refine Kp.set (by assumption) ?_|refine Kp.new ?_|refine Kp.grow rfl ?_|refine Kp.frzd rfl ?_|refine Kp.ins rfl ?_))) ?_ ?_ ?_
 ·simp only[gen_leave,gen_put,gen_new,gen_enter,if_true]
  omega
 ·simp only[obj_leave,obj_put,obj_new,gen_put,gen_enter,and_self,if_true]
  rfl
 ·simp only[hob_leave,hob_put,hob_new,hob_enter]
def insE (es:List Ent) (p:Nat) (e:Ent):List Ent:=es.take p++e::es.drop p
theorem insE_len {es:List Ent} {p:Nat} {e:Ent} (hp:p<=es.length):(insE es p e).length=es.length+1:=by
 unfold insE
 rw[List.length_append,List.length_cons,List.length_take,List.length_drop]
 omega
theorem insE_end {es:List Ent} {e:Ent}:insE es es.length e=es++[e]:=by
 unfold insE
 rw[List.take_length,List.drop_length]
theorem entC_take {es:List Ent} {p:Nat} (hp:p<=es.length):entC (es.take p)=(entC es).take (p*2)/\entC (es.drop p)=(entC es).drop (p*2):=by
 have h:=entC_app (es.take p) (es.drop p)
 rw[List.take_append_drop]at h
 have hl:(entC (es.take p)).length=p*2:=by rw[entC_len,List.length_take];omega
 constructor
 ·rw[h,<- hl,List.take_left]
 ·rw[h,<- hl,List.drop_left]
theorem entC_ins {es:List Ent} {p:Nat} (hp:p<=es.length) {n:List UInt8} {m:Nat} {cs:List SV}:entC (insE es p (n,m,cs))=(entC es).take (p*2)++[.str (bs n),.sl m cs]++(entC es).drop (p*2):=by
 unfold insE
 rw[entC_app,entC_cons,(entC_take hp).1,(entC_take hp).2,List.append_assoc]
 rfl
theorem sess_insert {g1 g2:Nat} (hp:p<=es.length) (hl:es.length<=100000) (h1:st.obj 25 g1=some (entC es)) (h2:st.obj 49 g2=some [.str (bs t),.sl 0 []])
  (k : ∀st',Keep d st st'->st.gen 25<=st'.gen 25->st'.obj 25 g1=some (entC (insE es p (t,0,[])))->(∀d g,st'.hob d g=(st.hob d g).map fun ts=>ts.map fun t=>t.kill 25 g1)->WO CX false ops l (st'.putO dst (.ref 25 g1 2 0 (es.length+1))) Q) :
  WN CX ops l dst st Q 13 [.ref 25 g1 2 0 es.length,.sv (.int .i64 (p:Int)),.ref 49 g2 2 0 1]:=by
 refine wn_by (st':=insSt st 25 g1 (entC (insE es p (t,0,[])))) (r := .ref 25 g1 2 0 (es.length+1)) (e:=[]) ?_ (k _ { Kp.ins rfl Kp.refl with tmp:=fun u hu=>kill_pl hu rfl } (Nat.le_succ _) (if_pos ⟨rfl,rfl⟩) fun _ _=>rfl)
 have e:CX.X 13 [.st false st [.ref 25 g1 2 0 es.length,.sv (.int .i64 (p:Int)),.ref 49 g2 2 0 1]]=xIns [.st false st [.ref 25 g1 2 0 es.length,.sv (.int .i64 (p:Int)),.ref 49 g2 2 0 1]]:=rfl
 rw[e]
 unfold xIns
 simp only[h1,h2]
 rw[if_pos ⟨by decide,by omega,entC_len es,entC_one es,by omega,by omega,hl⟩,entC_ins hp,Int.toNat_natCast]
end
end Go.Proofs.YtdahehdomajbgaaGreatDoor
namespace Go.Proofs.YtdahehdomajbgaaGreatDoor
open Go.Ev
theorem ent_set : ∀ {es:List Ent} {k:Nat} {n:Nat} {cs:List SV},k<es.length->splice (entC es) (k*2+1) [.sl n cs]=entC (es.set k ((es.getD k default).1,n,cs))
 |e::es,0,n,cs,_=>by
  rw[entC_cons,List.set_cons_zero,entC_cons]
  rfl
 |e::es,k+1,n,cs,h=>by
  have:=ent_set (es:=es) (k:=k) (n:=n) (cs:=cs) (by simpa using h)
  rw[entC_cons,List.set_cons_succ,entC_cons,show (k+1)*2+1=(k*2+1)+2 by omega]
  unfold splice at this ⊢
  rw[List.take_succ_cons,List.take_succ_cons,List.getD_cons_succ,<- this]
  simp only[List.length_cons,List.length_nil]
  rw[show k*2+1+2+(0+1)=(k*2+1+(0+1))+2 by omega,List.drop_succ_cons,List.drop_succ_cons]
  rfl
section
variable {ops:Array Oper} {l:List Oper} {dst:Option Nat} {st:St} {Q:St->Prop} {d g p:Nat} {es:List Ent} {t:List UInt8} {D:Int}
theorem not_at (es:List Ent) (t:List UInt8):isAt es t es.length=false:=by
 unfold isAt
 rw[decide_eq_false (Nat.lt_irrefl _),Bool.false_and]
theorem insE_set {es:List Ent} {p:Nat} (hp:p<=es.length) {n:List UInt8} {m:Nat} {cs:List SV} {e:Ent} (he:e.1=n):((insE es p e).getD p default).1=n/\(insE es p e).set p (n,m,cs)=insE es p (n,m,cs):=by
 have hl:(es.take p).length=p:=by rw[List.length_take];omega
 unfold insE
 constructor
 ·rw[List.getD_eq_getElem?_getD,List.getElem?_append_right (by omega),hl,Nat.sub_self]
  exact he
 ·rw[List.set_append_right _ _ (by omega),hl,Nat.sub_self]
  rfl
theorem sess_Set_newN {m:Nat} {cs rs:List SV} (nm:Go.Ev.Fn CX 11 [.str (bs t)] (.bool true)) (hp:PosAt es t p) (hat:isAt es t p=false) (hl:es.length<16) (hm:m<=256)
  (hc:Go.Ev.Fn CX 14 [.sl m cs] (.sl m rs)) {tl:TV} (htl:tl = .sv (.sl m cs)\/(tl = .nil/\m=0/\cs=[])) (h:SessR st d g es D) (hbw:st.bw=false)
  (k : ∀st',Keep d st st'->SessR st' d g (insE es p (t,m,rs)) D->WO CX false ops l (st'.putO dst (.sv (.int .i64 0))) Q) :
  WN CX ops l dst st Q 6 [.ptr d g 0,.sv (.str (bs t)),tl]:=by
 have hple:=hp.le
 have hd':2000000<=d:=h.ob
 have hpt:plV tl=true:=by rcases htl with rfl|⟨rfl,_,_⟩<;>rfl
 have hpl:plV (.ptr d g 0)=true:=pl_ob h.ob
 refine wni Tryz.f6 ?_;unfold Tryz.f6;simp only[Option.get!_some]
 repeat (first|simp only[go_sem,hd',Bool.not_true]|simp (disch:=first|exact oa|fail) only[AX,hd',Bool.not_true]|refine wki ?_|refine wqn ?_|refine vpl 10 [2] [([0,1,2,3,4,5],some (6,[0,1,2,3,4])),([7,8],some (9,[])),([],none)] ?_|refine vf_of (by first|exact nm) ?_)
 refine sess_at hp (by omega) (h.of rfl (fun _=>rfl) (Nat.le_refl _)) ?_
 intro s1 hk hs1
 have k0:s1.tmp 0 = .ptr d g 0:=hk.tmp 0 hpl
 have k1:s1.tmp 1 = .sv (.str (bs t)):=hk.tmp 1 rfl
 have k2:s1.tmp 2=tl:=hk.tmp 2 hpt
 have hu:=hk.kp
 have hb1:s1.bw=false:=hk.bmw.2.trans hbw
 clear hk h
 have hlen:=entC_len (insE es p (t,0,[]))
 rw[insE_len hple]at hlen
 have hset:=ent_set (es:=insE es p (t,0,[])) (k:=p) (n:=m) (cs:=rs) (by rw[insE_len hple];omega)
 rw[(insE_set (m:=m) (cs:=rs) hple rfl).1,(insE_set hple rfl).2]at hset
 unfold splice at hset
 rcases htl with rfl|⟨rfl,rfl,rfl⟩
 all_goals
  obtain⟨_,hrow⟩:=hs1
  rcases hrow with⟨rfl,ho⟩|⟨g1,hg1,ho,hobj⟩
  ·have hp0:p=0:=by simpa using hple
   subst hp0
   repeat (first|simp only[go_sem,hd',k0,k1,k2,hat,ho,Bool.not_true,Bool.not_false]|simp (disch:=first|exact oa|fail) only[AX,hd',k0,k1,k2,hat,ho,Bool.not_true,Bool.not_false]|refine wki ?_|refine wqn ?_|refine vpl 10 [2] [([0,1,2,3,4,5],some (6,[0,1,2,3,4])),([7,8],some (9,[])),([],none)] ?_)
   refine sess_insert_nil (d:=d) (t:=t) (g2:=s1.gen 49) ?_ ?_
   ·simp only[obj_put,obj_new,gen_put,and_self,if_true]
   intro s2 g2 hk2 hg2 hobj2 hhob2
   have j0:s2.tmp 0 = .ptr d g 0:=(hk2.tmp 0 (by simp only[tmp_put,tmp_new,k0,reduceIte,Nat.reduceEqDiff];exact hpl)).trans (by simp only[tmp_put,tmp_new,k0,reduceIte,Nat.reduceEqDiff])
   have j41:s2.tmp 41 = .ptr d g 0:=(hk2.tmp 41 hpl).trans rfl
   have j7:s2.tmp 7 = .sv (.int .i64 0):=(hk2.tmp 7 rfl).trans rfl
   have j2:s2.tmp 2=s1.tmp 2:=(hk2.tmp 2 (by simp only[tmp_put,tmp_new,k2,reduceIte,Nat.reduceEqDiff];rfl)).trans (by simp only[tmp_put,tmp_new,k2,reduceIte,Nat.reduceEqDiff])
   have j2:=j2.trans k2
   have hob2:s2.hob d g=some [.nil,.sv (.int .i64 D)]:=by rw[hhob2];exact ho
   have hobj2:s2.obj 25 g2=some [.str (bs t),.sl 0 []]:=hobj2
   have hu2:=hk2.kp
   have hb2:s2.bw=false:=hk2.bmw.2.trans hb1
   clear hk2 hhob2 k0 k1 k2
   repeat (first|simp only[go_sem,hd',j0,j41,j7,j2,hob2,hobj2]|simp (disch:=first|exact oa|fail) only[AX,hd',j0,j41,j7,j2,hob2,hobj2]|refine wki ?_|refine wqn ?_|refine vpl 10 [2] [([0,1,2,3,4,5],some (6,[0,1,2,3,4])),([7,8],some (9,[])),([],none)] ?_|refine vf_of (by first|exact hc) ?_)
   refine k _ (keep_of (by repeat (first|exact Kp.refl|exact hu2|exact hu|refine Kp.trans ?_ hu2|refine Kp.trans ?_ hu|refine Kp.put ?_|refine Kp.setH ?_|refine Kp.newset ?_|refine Kp.set rfl ?_|refine Kp.set (by assumption) ?_|refine Kp.new ?_|refine Kp.grow rfl ?_|refine Kp.frzd rfl ?_|refine Kp.ins rfl ?_))) ⟨hd',.inr ⟨g2,?_,?_,?_⟩⟩
   ·simp only[gen_leave,gen_put,gen_set,gen_setH]
    exact hg2
   ·simp only[hob_leave,hob_put,hob_set,hob_setH,and_self,if_true]
    rfl
   ·simp only[obj_leave,obj_put,obj_set,and_self,if_true]
    rfl
  ·repeat (first|simp only[go_sem,hd',k0,k1,k2,hat,ho,hobj,Bool.not_true,Bool.not_false]|simp (disch:=first|exact oa|fail) only[AX,hd',k0,k1,k2,hat,ho,hobj,Bool.not_true,Bool.not_false]|refine wki ?_|refine wqn ?_|refine vpl 10 [2] [([0,1,2,3,4,5],some (6,[0,1,2,3,4])),([7,8],some (9,[])),([],none)] ?_)
   refine sess_insert (d:=d) (t:=t) (es:=es) (g1:=g1) (g2:=s1.gen 49) hple (by omega) ?_ ?_ ?_
   ·simp only[obj_put,obj_new]
    rw[if_neg (by omega)]
    exact hobj
   ·simp only[obj_put,obj_new,gen_put,and_self,if_true]
   intro s2 hk2 hg2 hobj2 hhob2
   have j0:s2.tmp 0 = .ptr d g 0:=(hk2.tmp 0 (by simp only[tmp_put,tmp_new,k0,reduceIte,Nat.reduceEqDiff];exact hpl)).trans (by simp only[tmp_put,tmp_new,k0,reduceIte,Nat.reduceEqDiff])
   have j41:s2.tmp 41 = .ptr d g 0:=(hk2.tmp 41 hpl).trans rfl
   have j7:s2.tmp 7 = .sv (.int .i64 (p:Int)):=(hk2.tmp 7 rfl).trans rfl
   have j2:s2.tmp 2=s1.tmp 2:=(hk2.tmp 2 (by simp only[tmp_put,tmp_new,k2,reduceIte,Nat.reduceEqDiff];rfl)).trans (by simp only[tmp_put,tmp_new,k2,reduceIte,Nat.reduceEqDiff])
   have j2:=j2.trans k2
   have hob2:s2.hob d g=some [.undef,.sv (.int .i64 D)]:=by
    rw[hhob2]
    simp only[hob_put,hob_new]
    rw[ho]
    simp only[Option.map_some,List.map_cons,List.map_nil,TV.kill,and_self,if_true]
   have hgen2:g1<s2.gen 25:=Nat.lt_of_lt_of_le hg1 (by simpa only[gen_put,gen_new,reduceIte,Nat.reduceEqDiff]using hg2)
   have hu2:=hk2.kp
   have hb2:s2.bw=false:=hk2.bmw.2.trans hb1
   generalize hE:entC (insE es p (t,0,[]))=E at *
   clear hk2 hhob2 k0 k1 k2
   repeat (first|simp only[go_sem,hd',j0,j41,j7,j2,hob2,hobj2,hlen]|simp (disch:=first|exact oa|fail) only[AX,hd',j0,j41,j7,j2,hob2,hobj2,hlen]|refine wki ?_|refine wqn ?_|refine vpl 10 [2] [([0,1,2,3,4,5],some (6,[0,1,2,3,4])),([7,8],some (9,[])),([],none)] ?_|refine vf_of (by first|exact hc) ?_)
   refine k _ (keep_of (by repeat (first|exact Kp.refl|exact hu2|exact hu|refine Kp.trans ?_ hu2|refine Kp.trans ?_ hu|refine Kp.put ?_|refine Kp.setH ?_|refine Kp.newset ?_|refine Kp.set rfl ?_|refine Kp.set (by assumption) ?_|refine Kp.new ?_|refine Kp.grow rfl ?_|refine Kp.frzd rfl ?_|refine Kp.ins rfl ?_))) ⟨hd',.inr ⟨g1,?_,?_,?_⟩⟩
   ·simp only[gen_leave,gen_put,gen_set,gen_setH]
    exact hgen2
   ·simp only[hob_leave,hob_put,hob_set,hob_setH,and_self,if_true]
    rw[insE_len hple]
   ·simp only[obj_leave,obj_put,obj_set,and_self,if_true]
    exact congrArg some hset
theorem sess_Set_new {m:Nat} {cs rs:List SV} (ht:t.length<=1048576) (hn:nameP t=true) (hp:PosAt es t p) (hat:isAt es t p=false) (hl:es.length<16) (hm:m<=256)
  (hc:Go.Ev.Fn CX 14 [.sl m cs] (.sl m rs)) {tl:TV} (htl:tl = .sv (.sl m cs)\/(tl = .nil/\m=0/\cs=[])) (h:SessR st d g es D) (hbw:st.bw=false)
  (k : ∀st',Keep d st st'->SessR st' d g (insE es p (t,m,rs)) D->WO CX false ops l (st'.putO dst (.sv (.int .i64 0))) Q) :
  WN CX ops l dst st Q 6 [.ptr d g 0,.sv (.str (bs t)),tl]:=by
 have nm:=sess_Name t ht
 rw[hn]at nm
 exact sess_Set_newN nm hp hat hl hm hc htl h hbw k
theorem sess_Set_end {m:Nat} {cs rs:List SV} (ht:t.length<=1048576) (hn:nameP t=true) (hp:PosAt es t es.length) (hl:es.length<16) (hm:m<=256)
  (hc:Go.Ev.Fn CX 14 [.sl m cs] (.sl m rs)) {tl:TV} (htl:tl = .sv (.sl m cs)\/(tl = .nil/\m=0/\cs=[])) (h:SessR st d g es D) (hbw:st.bw=false)
  (k : ∀st',Keep d st st'->SessR st' d g (es++[(t,m,rs)]) D->WO CX false ops l (st'.putO dst (.sv (.int .i64 0))) Q) :
  WN CX ops l dst st Q 6 [.ptr d g 0,.sv (.str (bs t)),tl]:=
 sess_Set_new ht hn hp (not_at es t) hl hm hc htl h hbw fun st' hk hs=>k st' hk (by rw[insE_end]at hs;exact hs)
end
end Go.Proofs.YtdahehdomajbgaaGreatDoor
namespace Go.Proofs.YtdahehdomajbgaaGreatDoor
open Go.Ev
section
variable {ops:Array Oper} {l:List Oper} {dst:Option Nat} {st:St} {Q:St->Prop} {d g p:Nat} {es:List Ent} {t:List UInt8} {D:Int}
theorem sess_Let_end {x:List UInt8} {qs:List Rat} (ht:t.length<=1048576) (hn:nameP t=true) (hp:PosAt es t es.length) (hl:es.length<16) (hx:x.length<=100000) (hx2:parseP x=(0,qs)) (hm:qs.length<=256)
  (h:SessR st d g es D) (hbw:st.bw=false)
  (k : ∀st',Keep d st st'->SessR st' d g (es++[(t,qs.length,rvsC qs)]) D->WO CX false ops l (st'.putO dst (.sv (.int .i64 0))) Q) :
  WN CX ops l dst st Q 18 [.ptr d g 0,.sv (.str (bs t)),.sv (.str (bs x))]:=by
 have nm:=sess_Name t ht
 rw[hn]at nm
 have hP:=data_Parse x hx
 have hz : ∀q∈(parseP x).2,szR q 500:=parse_sz
 rw[hx2]at hP hz
 have hc:=sess_copied (rvsC_row (L:=500) qs hz) (by omega) (by omega) (by omega)
 have hd':2000000<=d:=h.ob
 have hpl:plV (.ptr d g 0)=true:=pl_ob h.ob
 refine wni Tryz.f18 ?_;unfold Tryz.f18;simp only[Option.get!_some]
 repeat (first|simp only[go_sem,hd',Bool.not_true]|simp (disch:=first|exact oa|fail) only[AX,hd',Bool.not_true]|refine wki ?_|refine wqn ?_|refine vf_of (by first|exact nm|exact hP) ?_)
 refine sess_Set_end ht hn hp hl hm hc (.inl rfl) (h.of rfl (fun _=>rfl) (Nat.le_refl _)) hbw ?_
 intro s1 hk hs1
 repeat (first|simp only[go_sem]|simp (disch:=first|exact oa|fail) only[AX]|refine wki ?_|refine wqn ?_)
 exact k _ (keep_of (by repeat (first|exact Kp.refl|exact hk.kp|refine Kp.trans ?_ hk.kp|refine Kp.put ?_|refine Kp.setH ?_|refine Kp.newset ?_|refine Kp.set rfl ?_|refine Kp.set (by assumption) ?_|refine Kp.new ?_|refine Kp.grow rfl ?_|refine Kp.frzd rfl ?_|refine Kp.ins rfl ?_))) (hs1.of rfl (fun _=>rfl) (Nat.le_refl _))
theorem sess_Get_atS {rs:List SV} (hp:PosAt es t p) (hl:es.length<=100000) (hat:isAt es t p=true) (hc:Go.Ev.Fn CX 14 [.sl (es.getD p default).2.1 (es.getD p default).2.2] (.sl (es.getD p default).2.1 rs)) (h:SessR st d g es D) (hbw:st.bw=false)
  (k : ∀st',Same st st'->WO CX false ops l (st'.putO dst (.sv (.tup [.sl (es.getD p default).2.1 rs,.int .i64 0]))) Q) :
  WN CX ops l dst st Q 7 [.ptr d g 0,.sv (.str (bs t))]:=by
 have hd':2000000<=d:=h.ob
 have hpl:plV (.ptr d g 0)=true:=pl_ob h.ob
 refine wni Tryz.f7 ?_;unfold Tryz.f7;simp only[Option.get!_some]
 repeat (first|simp only[go_sem,hd']|simp (disch:=first|exact oa|fail) only[AX,hd']|refine wki ?_|refine wqn ?_)
 refine sess_atS hp hl (h.of rfl (fun _=>rfl) (Nat.le_refl _)) ?_
 intro s1 hk
 have k0:s1.tmp 0 = .ptr d g 0:=hk.tmp 0
 have hb1:s1.bw=false:=hk.bmw.2.trans hbw
 have hs1:SessR s1 d g es D:=h.of (by rw[hk.hob];rfl) (fun _=>(hk.obj _ _).trans rfl) (by rw[hk.gen];exact Nat.le_refl _)
 clear h
 obtain⟨_,hrow⟩:=hs1
 have hpl:p<es.length:=by
  unfold isAt at hat
  rw[Bool.and_eq_true]at hat
  exact of_decide_eq_true hat.1
 rcases hrow with⟨rfl,_⟩|⟨g1,hg1,ho,hobj⟩
 ·simp at hpl
 obtain⟨rest,hx⟩:=ent_at hpl
 have hx1:(entC es).drop (p*2+1) = .sl (es.getD p default).2.1 (es.getD p default).2.2::rest:=by
  rw[<- List.drop_drop,hx]
  rfl
 have hlen:=entC_len es
 repeat (first|simp only[go_sem,hd',k0,hat,ho,hobj,Bool.not_true,hlen,hx1,List.head?_cons]|simp (disch:=first|exact oa|fail) only[AX,hd',k0,hat,ho,hobj,Bool.not_true,hlen,hx1,List.head?_cons]|refine wki ?_|refine wqn ?_|refine vf_of (by first|exact hc) ?_)
 exact k _ (same_leave (vs:=[.ptr d g 0,.sv (.str (bs t))]) hk rfl rfl rfl rfl rfl rfl rfl rfl)
theorem sess_Get_at {rs:List SV} (hp:PosAt es t p) (hl:es.length<=100000) (hat:isAt es t p=true) (hc:Go.Ev.Fn CX 14 [.sl (es.getD p default).2.1 (es.getD p default).2.2] (.sl (es.getD p default).2.1 rs)) (h:SessR st d g es D) (hbw:st.bw=false)
  (k : ∀st',Keep d st st'->SessR st' d g es D->WO CX false ops l (st'.putO dst (.sv (.tup [.sl (es.getD p default).2.1 rs,.int .i64 0]))) Q) :
  WN CX ops l dst st Q 7 [.ptr d g 0,.sv (.str (bs t))]:=
 sess_Get_atS hp hl hat hc h hbw fun s hs=>k s hs.keep (h.of (by rw[hs.hob]) (fun _=>hs.obj _ _) (by rw[hs.gen];exact Nat.le_refl _))
end
theorem known_parse22:parseP [49,32,50]=(0,[1,2]):=by kernel_rfl
theorem known_cells22:rvsC [1,2]=[.bool false,natV [1],natV [1],.bool false,natV [2],natV [1]]:=by kernel_rfl
theorem law22_known:Go.Ev.Fn CX 10 [] (.bool true):=by
 have hN:=sess_New
 have o:=ref2_Int 2 (by omega)
 have e5:(rv (((2:Int)):Rat):SV)=ratV false [2] [1]:=by kernel_rfl
 have r1:RatA (ratV false [2] [1]) 2 1:=⟨_,_,_,rfl,by simp[okL],by simp[okL],by decide,by decide,by decide⟩
 have sm:=ref2_Same r1 r1 (by omega) (by omega) (by omega)
 rw[decide_eq_true rfl]at sm
 rw[e5]at o
 refine fni Tryz.f10 ?_;unfold Tryz.f10;simp only[Option.get!_some]
 repeat (first|simp only[go_sem]|simp (disch:=first|exact oa|fail) only[AX]|refine wki ?_|refine wqn ?_|refine vpd 6 [] ?_)
 refine vf_heap hN ?_
 repeat (first|simp only[go_sem]|simp (disch:=first|exact oa|fail) only[AX]|refine wki ?_|refine wqn ?_|refine vpd 6 [] ?_)
 refine sess_Let_end (t:=[97]) (es:=[]) (x:=[49,32,50]) (qs:=[1,2]) (D:=6) (by decide) (by kernel_rfl) ⟨Nat.le_refl 0,fun k h=>absurd h (Nat.not_lt_zero k),fun k _ h=>absurd h (Nat.not_lt_zero k)⟩ (by decide) (by decide) known_parse22 (by decide) ⟨by decide,.inl ⟨rfl,rfl⟩⟩ rfl ?_
 intro s1 hk hs1
 have k1:s1.tmp 1 = .ptr 2000005 1 0:=hk.tmp 1 rfl
 have k0:s1.tmp 0 = .sv (.bool false):=hk.tmp 0 rfl
 have hb1:s1.bw=false:=hk.bmw.2
 clear hk
 repeat (first|simp only[go_sem,k1]|simp (disch:=first|exact oa|fail) only[AX,k1]|refine wki ?_|refine wqn ?_|refine vpd 6 [] ?_)
 have hz : ∀q∈(parseP [49,32,50]).2,szR q 500:=parse_sz
 rw[known_parse22]at hz
 have hc:=sess_copied (rvsC_row (L:=500) [1,2] hz) (by omega) (by omega) (by decide)
 refine sess_Get_at (t:=[97]) (es:=[([97],2,rvsC [1,2])]) (p:=0) (rs:=rvsC [1,2]) (D:=6) ⟨by decide,fun k h=>absurd h (Nat.not_lt_zero k),fun k _ h => ?_⟩ (by decide) (by kernel_rfl) hc (hs1.of rfl (fun _=>rfl) (Nat.le_refl _)) hb1 ?_
 ·have:k=0:=by simpa using h
  subst this
  decide
 intro s2 hk2 hs2
 have j1:s2.tmp 1 = .ptr 2000005 1 0:=(hk2.tmp 1 (by simp only[tmp_put,k1,reduceIte,Nat.reduceEqDiff];rfl)).trans (by simp only[tmp_put,k1,reduceIte,Nat.reduceEqDiff])
 have j2:s2.tmp 2 = .sv (.int .i64 0):=hk2.tmp 2 rfl
 have ec:rvsC [1,2]=[.bool false,natV [1],natV [1],.bool false,natV [2],natV [1]]:=known_cells22
 have hob : ∃te,s2.hob 2000005 1=some [te,.sv (.int .i64 6)]:=by
  rcases hs2.row with⟨h,_⟩|⟨g1,_,h,_⟩
  ·cases h
  ·exact⟨_,h⟩
 obtain⟨te,hob⟩:=hob
 clear hk2 hs2
 repeat (first|simp only[go_sem,j1,j2,ec,hob,List.getD_cons_zero,List.drop_succ_cons,List.drop_zero,List.head?_cons]|simp (disch:=first|exact oa|fail) only[AX,j1,j2,ec,hob,List.getD_cons_zero,List.drop_succ_cons,List.drop_zero,List.head?_cons]|refine wki ?_|refine wqn ?_|refine vpd 6 [] ?_|refine vf_of (by first|exact o|exact sm) ?_)
 refine wli Tryz.f19 (.int .i64 6) ?_ ?_
 ·unfold Tryz.f19
  simp only[Option.get!_some]
  simp only[go_sem,hob]
 simp only[go_sem]
 rfl
end Go.Proofs.YtdahehdomajbgaaGreatDoor
namespace Go.Proofs.YtdahehdomajbgaaGreatDoor
open Go.Ev
abbrev conL (b off k c:Nat):SV := .con (.slice (some ⟨b,off,none⟩) k c)
def LimB (bm:Nat->Option (List SV)) (b off c:Nat) (xs:List Nat):Prop := ∃cs,bm b=some cs/\(cs.drop off).take xs.length=xs.map limb/\xs.length<=c
theorem limb_ld {cs:List SV} {off i:Nat} {xs:List Nat} (h:(cs.drop off).take xs.length=xs.map limb) (hi:i<xs.length):(cs.drop (off+i)).take 1=[limb (xs.getD i 0)]:=by
 have e:=congrArg (fun l:List SV=>(l.drop i).take 1) h
 have hm:((cs.drop off).take xs.length).drop i=((cs.drop (off+i)).take (xs.length-i)):=by
  rw[List.drop_take,List.drop_drop]
 rw[hm,List.take_take,Nat.min_eq_left (by omega)]at e
 rw[e,natV_drop,natV_take]
 have:=limb_at hi
 cases hd:xs.drop i with
 |nil=>rw[hd]at this;cases this
 |cons x r=>
  rw[hd]at this
  simpa using this
theorem LimB.take {bm:Nat->Option (List SV)} {b off c n:Nat} {xs:List Nat} (h:LimB bm b off c xs) (hn:n<=xs.length):LimB bm b off c (xs.take n):=by
 obtain⟨cs,h1,h2,h3⟩:=h
 have hl:(xs.take n).length=n:=by rw[List.length_take];omega
 refine⟨cs,h1,?_,by omega⟩
 rw[hl,<- natV_take,<- h2,List.take_take,Nat.min_eq_left hn]
section
variable {ops:Array Oper} {l:List Oper} {dst:Option Nat} {st:St} {Q:St->Prop} {b off c:Nat} {xs:List Nat}
theorem same_ofB {st s:St} {vs:List TV} (h1:s.up=(st.enter vs).up) (h2:s.obj=st.obj) (h3:s.gen=st.gen) (h4:s.hob=st.hob) (h5:s.bm=st.bm/\s.bw=st.bw):Same st s.leave:=
 ⟨fun t=>by rw[tmp_leave,h1,up_even],fun t=>by rw[up_leave,h1,up_odd],fun d g=>by rw[obj_leave,h2],by rw[gen_leave,h3],by rw[hob_leave,h4],h5⟩
theorem lim_take : ∀ (n:Nat) {xs:List Nat},xs.length=n->okL xs->lim (wth xs)=xs.take (lim (wth xs)).length:=by
 intro n
 induction n with
 |zero=>
  intro xs h hx
  have e0:xs=[]:=List.eq_nil_of_length_eq_zero h
  subst e0
  rfl
 |succ n ih=>
  intro xs h hx
  by_cases hT:isT xs=true
  ·rw[<- lim_unique hx (isT_iff.1 hT),List.take_length]
  ·have hT:isT xs=false:=by simpa using hT
   obtain⟨h1,h2⟩:=lim_dropLast hT
   have hle:(lim (wth (xs.take (xs.length-1)))).length<=(xs.take (xs.length-1)).length:=lim_length_le (okL_take hx _)
   have:=ih (xs:=xs.take (xs.length-1)) (by rw[List.length_take];omega) (okL_take hx _)
   rw[h2]at this hle
   rw[this,List.take_take,Nat.min_eq_left (by rw[List.length_take]at hle;omega),List.length_take,Nat.min_eq_left (by rw[List.length_take]at hle;omega)]
theorem con_Is (h:LimB st.bm b off c xs) (hl:xs.length<=1099511627776) (k : ∀st',Same st st'->WO CX false ops l (st'.putO dst (.sv (.bool (isT xs)))) Q) :
  WN CX ops l dst st Q 98 [.sv (conL b off xs.length c)]:=by
 obtain⟨cs,hb,hx,hc⟩:=h
 refine wni Tryz.f98 ?_;unfold Tryz.f98;simp only[Option.get!_some]
 by_cases h0:xs.length=0
 ·have e:isT xs=true:=by simp[isT,h0]
  rw[e]at k
  rw[h0]at *
  repeat (first|simp only[go_sem]|simp (disch:=first|exact oa|fail) only[AX]|refine wki ?_|refine wqn ?_)
  exact k _ (same_ofB (vs:=[.sv (conL b off 0 c)]) rfl rfl rfl rfl ⟨rfl,rfl⟩)
 ·have e:isT xs=(xs.getD (xs.length-1) 0 != 0):=by simp[isT,h0]
  have hld:=limb_ld (i:=xs.length-1) hx (by omega)
  rw[e]at k
  repeat (first|simp only[go_sem,hb,hld,Nat.mul_one]|simp (disch:=first|exact oa|fail) only[AX,hb,hld,Nat.mul_one]|refine wki ?_|refine wqn ?_)
  rw[bne_nat]
  exact k _ (same_ofB (vs:=[.sv (conL b off xs.length c)]) rfl rfl rfl rfl ⟨rfl,rfl⟩)
theorem con_trim (h:LimB st.bm b off c xs) (hx:okL xs) (hl:xs.length<=1099511627776) (k : ∀st',Same st st'->WO CX false ops l (st'.putO dst (.sv (conL b off (lim (wth xs)).length c))) Q) :
  WN CX ops l dst st Q 78 [.sv (conL b off xs.length c)]:=by
 refine wni Tryz.f78 ?_;unfold Tryz.f78;simp only[Option.get!_some]
 simp only[go_sem]
 refine vp_loop_inv (fun s=>(s.up=(st.enter [.sv (conL b off xs.length c)]).up/\s.obj=st.obj/\s.gen=st.gen/\s.hob=st.hob/\s.bm=st.bm/\s.bw=st.bw) /\ ∃n,n<=xs.length/\s.tmp 0 = .sv (conL b off n c)/\lim (wth (xs.take n))=lim (wth xs)) (fun s=>match s.tmp 0 with | .sv (.con (.slice _ n _))=>n|_=>0) ⟨⟨rfl,rfl,rfl,rfl,rfl,rfl⟩,xs.length,Nat.le_refl _,rfl,by rw[List.take_length]⟩ ?_
 rintro s ⟨⟨u1,u2,u3,u4,u5,u6⟩,n,hn,h0,he⟩
 have hy:okL (xs.take n):=okL_take hx n
 have hyl:(xs.take n).length=n:=by rw[List.length_take];omega
 have hb:=h.take hn
 rw[<- u5]at hb
 generalize hys:xs.take n=ys at *
 subst hyl
 repeat (first|simp only[go_sem,h0]|simp (disch:=first|exact oa|fail) only[AX,h0]|refine wki ?_|refine wqn ?_)
 refine wf_bor (by kernel_rfl) (con_Is hb (by omega) ?_)
 intro s1 hk
 have k0:s1.tmp 0 = .sv (conL b off ys.length c):=(hk.tmp 0).trans (by simp only[tmp_put,h0,reduceIte,Nat.reduceEqDiff])
 have v1:s1.up=(st.enter [.sv (conL b off xs.length c)]).up:=(funext hk.up).trans u1
 have v2:s1.obj=st.obj:=(funext fun d=>funext fun g=>hk.obj d g).trans u2
 have v3:s1.gen=st.gen:=hk.gen.trans u3
 have v4:s1.hob=st.hob:=hk.hob.trans u4
 have v5:s1.bm=st.bm:=hk.bmw.1.trans u5
 have v6:s1.bw=st.bw:=hk.bmw.2.trans u6
 by_cases hT:isT ys=true
 ·repeat (first|simp only[go_sem,k0,hT,Bool.not_true]|simp (disch:=first|exact oa|fail) only[AX,k0,hT,Bool.not_true]|refine wki ?_|refine wqn ?_)
  have:ys.length=(lim (wth xs)).length:=(congrArg List.length (he.symm.trans (lim_unique hy (isT_iff.1 hT)).symm)).symm
  rw[this]
  exact k _ (same_ofB (vs:=[.sv (conL b off xs.length c)]) v1 v2 v3 v4 ⟨v5,v6⟩)
 ·have hT:isT ys=false:=by simpa using hT
  obtain⟨h1,h2⟩:=lim_dropLast hT
  obtain⟨_,_,_,hcc⟩:=hb
  repeat (first|simp only[go_sem,k0,hT,Bool.not_false]|simp (disch:=first|exact oa|fail) only[AX,k0,hT,Bool.not_false]|refine wki ?_|refine wqn ?_)
  refine⟨⟨⟨v1,v2,v3,v4,v5,v6⟩,ys.length-1,by omega,rfl,?_⟩,by omega⟩
  have e:xs.take (ys.length-1)=ys.take (ys.length-1):=by
   have:=List.take_take (i:=ys.length-1) (j:=ys.length) (l:=xs)
   rw[hys,Nat.min_eq_left (by omega)]at this
   exact this.symm
  rw[e]
  exact h2.trans he
def oldT (st:St) (v:TV):Prop := ∀d g,v.id=some (d,g)->g<st.gen d
theorem old_sv {x:SV}:oldT st (.sv x):=fun d g h=>by cases h
theorem old_nil:oldT st .nil:=fun d g h=>by cases h
theorem old_ptr {d g o:Nat} (h:g<st.gen d):oldT st (.ptr d g o):=fun d' g' e=>by
 simp only[TV.id,Option.some.injEq,Prod.mk.injEq]at e
 obtain⟨rfl,rfl⟩:=e
 exact h
theorem lt_new {n:Nat} {cs:List SV} {v:TV}:st.gen n<(st.new n cs v).gen n:=by
 rw[gen_new,if_pos rfl]
 omega
theorem old_gen {s:St} {v:TV} (h:oldT st v) (hg : ∀n,st.gen n<=s.gen n):oldT s v:=fun d g e=>Nat.lt_of_lt_of_le (h d g e) (hg d)
theorem kill_old {v:TV} {d g:Nat} (h:oldT st v) (hg:st.gen d<=g):v.kill d g=v:=by
 have key : ∀d' g',v.id=some (d',g') -> ¬(d'=d/\g'=g):=fun d' g' e1 e2=>by have:=h d' g' e1;rw[e2.1,e2.2]at this;omega
 cases v with
 |ptr d' g' off=>exact if_neg (key d' g' rfl)
 |ref d' g' a b c=>exact if_neg (key d' g' rfl)
 |rfc d' g' a b c e=>exact if_neg (key d' g' rfl)
 |pst d' g'=>exact if_neg (key d' g' rfl)
 |tp d' g' a b c e=>exact if_neg (key d' g' rfl)
 |_=>rfl
theorem frz_old {v:TV} {d g:Nat} {cs:List SV} (h:oldT st v) (hg:st.gen d<=g):v.frz d g cs=v:=by
 have key : ∀d' g',v.id=some (d',g') -> ¬(d'=d/\g'=g):=fun d' g' e1 e2=>by have:=h d' g' e1;rw[e2.1,e2.2]at this;omega
 cases v with
 |ptr d' g' off=>exact if_neg (key d' g' rfl)
 |ref d' g' a b c=>exact if_neg (key d' g' rfl)
 |rfc d' g' a b c e=>exact if_neg (key d' g' rfl)
 |pst d' g'=>exact if_neg (key d' g' rfl)
 |tp d' g' a b c e=>exact if_neg (key d' g' rfl)
 |_=>rfl
structure Kq (st s:St):Prop where
 up : ∀u,oldT st (st.up u)->s.up u=st.up u
 obj : ∀n g,g<st.gen n->s.obj n g=st.obj n g
 gen : ∀n,st.gen n<=s.gen n
 hob : ∀d g ts,st.hob d g=some ts->(∀t∈ts,oldT st t)->s.hob d g=some ts
 bmw:s.bm=st.bm/\s.bw=st.bw
structure KeepG (st st':St):Prop extends Kq st st' where
 tmp : ∀t,oldT st (st.tmp t)->st'.tmp t=st.tmp t
section
variable {s:St} {n g d:Nat} {cs:List SV} {v:TV}
theorem KeepG.kq (h:KeepG st s):Kq st s:=h.toKq
theorem Kq.refl:Kq st st:=⟨fun _ _=>rfl,fun _ _ _=>rfl,fun _=>Nat.le_refl _,fun _ _ _ h _=>h,rfl,rfl⟩
theorem Kq.trans {a b c:St} (h:Kq a b) (k:Kq b c):Kq a c:=
 ⟨fun u hu=>(k.up u (by rw[h.up u hu];exact old_gen hu h.gen)).trans (h.up u hu),fun n g hg=>(k.obj n g (Nat.lt_of_lt_of_le hg (h.gen n))).trans (h.obj n g hg),fun n=>Nat.le_trans (h.gen n) (k.gen n),
  fun d g ts ho ht=>k.hob d g ts (h.hob d g ts ho ht) fun t hm=>old_gen (ht t hm) h.gen,k.bmw.1.trans h.bmw.1,k.bmw.2.trans h.bmw.2⟩
theorem Kq.put (h:Kq st s):Kq st (s.put n v):=⟨h.up,h.obj,h.gen,h.hob,h.bmw⟩
theorem Kq.new (h:Kq st s):Kq st (s.new n cs v):=
 ⟨h.up,fun m g hg=>(if_neg fun e=>absurd (h.gen m) (by rw[e.1,e.2]at hg;rw[e.1];omega)).trans (h.obj m g hg),fun m=>Nat.le_trans (h.gen m) (by rw[gen_new];split<;>rename_i e<;>(try rw[e])<;>omega),h.hob,h.bmw⟩
theorem Kq.set (h:Kq st s) (hg:st.gen n<=g):Kq st (s.set n g cs):=
 ⟨h.up,fun m g' hg'=>(if_neg fun e=>by rw[e.1,e.2]at hg';omega).trans (h.obj m g' hg'),h.gen,h.hob,h.bmw⟩
theorem map_old {ts:List TV} {f:TV->TV} (hf : ∀t,oldT st t->f t=t) (h : ∀t∈ts,oldT st t):ts.map f=ts:=
 (List.map_congr_left fun t ht=>hf t (h t ht)).trans (List.map_id' ts)
theorem Kq.frzd (h:Kq st s) (hg:st.gen n<=g):Kq st (s.frzd n g cs):=
 ⟨fun u hu=>(congrArg (TV.frz n g cs) (h.up u hu)).trans (frz_old hu hg),fun m g' hg'=>(if_neg fun e=>by rw[e.1,e.2]at hg';omega).trans (h.obj m g' hg'),h.gen,
  fun d g' ts ho ht=>by
   show Option.map (fun ts=>ts.map fun t=>t.frz n g cs) (s.hob d g')=some ts
   rw[h.hob d g' ts ho ht]
   exact congrArg some (map_old (fun t h=>frz_old h hg) ht),h.bmw⟩
theorem Kq.grow {t a b c:Nat} (h:Kq st s) (hg:st.gen n<=g):Kq st (s.grow t n g a b c cs):=
 ⟨fun u hu=>(congrArg (TV.kill n g) (h.up u hu)).trans (kill_old hu hg),fun m g' hg'=>(if_neg fun e=>by rw[e.1,e.2]at hg';omega).trans (h.obj m g' hg'),h.gen,
  fun d g' ts ho ht=>by
   show Option.map (fun ts=>ts.map fun t=>t.kill n g) (s.hob d g')=some ts
   rw[h.hob d g' ts ho ht]
   exact congrArg some (map_old (fun t h=>kill_old h hg) ht),h.bmw⟩
theorem keepG_of {vs:List TV} (h:Kq (st.enter vs) s):KeepG st s.leave:=
 {up:=fun t ht=>by rw[up_leave,h.up (2*t+1) (by rw[up_odd];exact ht),up_odd]
  tmp:=fun t ht=>by rw[tmp_leave,h.up (2*t) (by rw[up_even];exact ht),up_even]
  obj:=h.obj
  gen:=h.gen
  hob:=h.hob
  bmw:=h.bmw }
theorem Same.kq (h:Same st s):Kq st s:=⟨fun u _=>h.up u,fun n g _=>h.obj n g,fun n=>by rw[h.gen];exact Nat.le_refl _,fun d g ts ho _=>by rw[h.hob];exact ho,h.bmw⟩
end
theorem slT:isSlT Tryz.prog 26=true:=by kernel_rfl
theorem con_Clone (h:LimB st.bm b off c xs) (hl:xs.length<=1073741824)
  (k : ∀st',KeepG st st'->st'.obj 5 (st.gen 5)=some (xs.map limb)->st.gen 5<st'.gen 5->WO CX false ops l (st'.putO dst (.ref 5 (st.gen 5) 1 0 xs.length)) Q) :
  WN CX ops l dst st Q 77 [.sv (conL b off xs.length c)]:=by
 obtain⟨cs,hb,hx,hc⟩:=h
 have h1:=natV_one xs
 have hlen:=natV_len xs
 refine wni Tryz.f77 ?_;unfold Tryz.f77;simp only[Option.get!_some]
 by_cases h0:xs.length=0
 ·have e0:xs=[]:=List.eq_nil_of_length_eq_zero h0
  subst e0
  repeat (first|simp only[go_sem,hb,hx,slT,isCst,Bool.true_and]|simp (disch:=first|exact oa|fail) only[AX,hb,hx,slT,isCst,Bool.true_and]|refine wki ?_|refine wqn ?_)
  refine k _ (keepG_of (.put (.put (.put (.new (.put (.put (.put .refl)))))))) ?_ ?_
  ·simp only[obj_leave,obj_put,obj_new,gen_put,gen_enter,and_self,if_true]
   rfl
  ·simp only[gen_leave,gen_put,gen_new,gen_enter,if_true]
   omega
 ·repeat (first|simp only[go_sem,hb,hx,slT,isCst,Bool.true_and,N0]|simp (disch:=first|exact oa|fail) only[AX,hb,hx,slT,isCst,Bool.true_and,N0]|refine wki ?_|refine wqn ?_)
  refine k _ (keepG_of (.put (.grow (.put (.new (.put (.put (.put .refl))))) (Nat.le_refl _)))) ?_ ?_
  ·simp only[obj_leave,obj_put,obj_grow,gen_put,gen_enter,and_self,if_true]
  ·simp only[gen_leave,gen_put,gen_grow,gen_new,gen_enter,if_true]
   omega
theorem con_Trim (h:LimB st.bm b off c xs) (hx:okL xs) (hl:xs.length<=1073741824)
  (k : ∀st',KeepG st st'->st'.obj 5 (st.gen 5)=some ((lim (wth xs)).map limb)->st.gen 5<st'.gen 5->WO CX false ops l (st'.putO dst (.ref 5 (st.gen 5) 1 0 (lim (wth xs)).length)) Q) :
  WN CX ops l dst st Q 54 [.sv (conL b off xs.length c)]:=by
 have hle:=lim_length_le hx
 have ht:=lim_take _ rfl hx
 refine wni Tryz.f54 ?_;unfold Tryz.f54;simp only[Option.get!_some]
 repeat (first|simp only[go_sem]|simp (disch:=first|exact oa|fail) only[AX]|refine wki ?_|refine wqn ?_)
 refine wf_bor (by kernel_rfl) (con_trim h hx (by omega) ?_)
 intro s1 hk
 have h1:LimB s1.bm b off c (lim (wth xs)):=by
  rw[hk.bmw.1,ht]
  exact h.take hle
 have hu:=hk.kq
 have hg:s1.gen 5=st.gen 5:=congrFun hk.gen 5
 clear hk
 repeat (first|simp only[go_sem]|simp (disch:=first|exact oa|fail) only[AX]|refine wki ?_|refine wqn ?_)
 refine wf_bor (by kernel_rfl) (con_Clone h1 (by omega) ?_)
 intro s2 hk2 ho hg2
 have hu2:=hk2.kq
 have ho:s2.obj 5 (s1.gen 5)=some ((lim (wth xs)).map limb):=ho
 have hg2:s1.gen 5<s2.gen 5:=hg2
 rw[hg]at ho hg2
 clear hk2
 repeat (first|simp only[go_sem,hg]|simp (disch:=first|exact oa|fail) only[AX,hg]|refine wki ?_|refine wqn ?_)
 exact k _ (keepG_of (.put (.put (.trans (.put (.trans (.put (.put .refl)) hu)) hu2)))) ho hg2
def SlX (bm:Nat->Option (List SV)) (x:SV) (xs:List Nat):Prop:=(x = .sl 0 []/\xs=[]) \/ ∃b off c,x=conL b off xs.length c/\LimB bm b off c xs
def RowT (g0:Nat) (st:St) (T:TV) (ys:List Nat):Prop:=(T = .sv (.sl 0 [])/\ys=[]) \/ ∃g,T = .ref 5 g 1 0 ys.length/\st.obj 5 g=some (ys.map limb)/\g<st.gen 5/\g0<=g
theorem any_Trim {x:SV} (h:SlX st.bm x xs) (hx:okL xs) (hl:xs.length<=1073741)
  (k : ∀st' T,KeepG st st'->RowT (st.gen 5) st' T (lim (wth xs))->WO CX false ops l (st'.putO dst T) Q):WF CX false ops l dst st Q 54 [x]:=by
 rcases h with⟨rfl,rfl⟩|⟨b,off,c,rfl,h⟩
 ·refine vf_of (nat_Trim [] okL_nil (by decide)) ?_
  exact k st _ { Kq.refl with tmp:=fun _ _=>rfl } (.inl ⟨by rw[wth_nil,lim_zero];rfl,by rw[wth_nil,lim_zero]⟩)
 ·refine wf_bor rfl (con_Trim h hx (by omega) ?_)
  intro st' hk ho hg
  exact k st' _ hk (.inr ⟨_,rfl,ho,hg,Nat.le_refl _⟩)
theorem RowT.old {g0:Nat} {T:TV} {ys:List Nat} (h:RowT g0 st T ys):oldT st T:=by
 rcases h with⟨rfl,_⟩|⟨g,rfl,_,hg,_⟩
 ·exact old_sv
 ·intro d g' e
  simp only[TV.id,Option.some.injEq,Prod.mk.injEq]at e
  obtain⟨rfl,rfl⟩:=e
  exact hg
theorem RowT.up {g0:Nat} {T:TV} {ys:List Nat} {s:St} (h:RowT g0 st T ys) (hk:Kq st s):RowT g0 s T ys:=by
 rcases h with h|⟨g,h1,h2,h3,h4⟩
 ·exact .inl h
 ·exact .inr ⟨g,h1,(hk.obj 5 g h3).trans h2,Nat.lt_of_lt_of_le h3 (hk.gen 5),h4⟩
theorem con_Of (s:Bool) {x y:SV} {n d:List Nat} (hx:SlX st.bm x n) (hy:SlX st.bm y d) (hn:okL n) (hd:okL d) (hl:n.length<=500000) (hm:d.length<=500000)
  (k : ∀st',KeepG st st'->WO CX false ops l (st'.putO dst (.sv (rv (mkRat (sgn s (wth n)) (wth d))))) Q):WN CX ops l dst st Q 42 [.sv (.bool s),.sv x,.sv y]:=by
 have lx:=lim_length_le hn
 have ly:=lim_length_le hd
 refine wni Tryz.f42 ?_;unfold Tryz.f42;simp only[Option.get!_some]
 repeat (first|simp only[go_sem]|simp (disch:=first|exact oa|fail) only[AX]|refine wki ?_|refine wqn ?_)
 refine any_Trim (xs:=n) (show SlX _ x n from hx) hn (by omega) ?_
 intro s1 T1 hk1 hT1
 have a0:s1.tmp 0 = .sv (.bool s):=hk1.tmp 0 old_sv
 have a2:s1.tmp 2 = .sv y:=hk1.tmp 2 old_sv
 have a6:s1.tmp 6 = .ptr 6 (st.gen 6) 0:=hk1.tmp 6 (old_ptr (d:=6) (g:=st.gen 6) (o:=0) (lt_new (cs:=[]) (v := .nil)))
 have o6:s1.obj 6 (st.gen 6)=some [.bool false,.sl 0 [],.sl 0 []]:=(hk1.obj 6 (st.gen 6) (lt_new (cs:=[]) (v := .nil))).trans (if_pos ⟨rfl,rfl⟩)
 have b1:s1.bm=st.bm:=hk1.bmw.1
 have g5:st.gen 5<=s1.gen 5:=hk1.gen 5
 have g6:st.gen 6<s1.gen 6:=Nat.lt_of_lt_of_le (lt_new (cs:=[]) (v := .nil)) (hk1.gen 6)
 have hT1:RowT (st.gen 5) s1 T1 (lim (wth n)):=hT1
 have hu1:=hk1.kq
 clear hk1
 repeat (first|simp only[go_sem,a0,a2,a6]|simp (disch:=first|exact oa|fail) only[AX,a0,a2,a6]|refine wki ?_|refine wqn ?_)
 refine any_Trim (xs:=d) (show SlX _ y d from b1▸hy) hd (by omega) ?_
 intro s2 T2 hk2 hT2
 have c0:s2.tmp 0 = .sv (.bool s):=(hk2.tmp 0 (by simp only[tmp_put,a0,reduceIte,Nat.reduceEqDiff];exact old_sv)).trans (by simp only[tmp_put,a0,reduceIte,Nat.reduceEqDiff])
 have c6:s2.tmp 6 = .ptr 6 (st.gen 6) 0:=(hk2.tmp 6 (by
  simp only[tmp_put,a6,reduceIte,Nat.reduceEqDiff]
  exact old_ptr g6)).trans (by simp only[tmp_put,a6,reduceIte,Nat.reduceEqDiff])
 have c9:s2.tmp 9=T1:=(hk2.tmp 9 (by simp only[tmp_put,reduceIte,Nat.reduceEqDiff];exact hT1.old)).trans (by simp only[tmp_put,reduceIte,Nat.reduceEqDiff])
 have p6:s2.obj 6 (st.gen 6)=some [.bool false,.sl 0 [],.sl 0 []]:=(hk2.obj 6 (st.gen 6) g6).trans o6
 have hu2:=hk2.kq
 have hq4 : ∀g,T1 = .ref 5 g 1 0 (lim (wth n)).length->g<s1.gen 5:=fun g e=>hT1.old 5 g (by rw[e];rfl)
 have hT1:RowT (st.gen 5) s2 T1 (lim (wth n)):=hT1.up (show Kq s1 s2 from⟨hu2.up,hu2.obj,hu2.gen,hu2.hob,hu2.bmw⟩)
 have hT2:RowT (s1.gen 5) s2 T2 (lim (wth d)):=hT2
 clear hk2
 have e1:s2.bm=st.bm:=hu2.bmw.1.trans b1
 generalize hN:wth n=N at *
 generalize hD:wth d=D at *
 have oN:=okL_lim N
 have oD:=okL_lim D
 have o1:=nat_Of 1 (by omega)
 rw[lim_one]at o1
 have h65 : ¬(6=5):=by omega
 by_cases h0:(lim N).length=0
 ·have hz:N=0:=by
   by_cases e:N=0
   ·exact e
   ·exact absurd h0 (Nat.ne_of_gt (lim_pos e))
  rw[mk_zero s (.inl hz),rv_zero]at k
  rcases hT1 with⟨rfl,_⟩|⟨g1,rfl,q1,q2,q3⟩
  ·repeat (first|simp only[go_sem,c0,c6,c9]|simp (disch:=first|exact oa|fail) only[AX,c0,c6,c9]|refine wki ?_|refine wqn ?_)
   refine vf_of (o1) ?_;repeat (first|simp only[go_sem,c0,c6,c9,p6]|simp (disch:=first|exact oa|fail) only[AX,c0,c6,c9,p6]|refine wki ?_|refine wqn ?_)
   exact k _ (keepG_of (by repeat (first|exact Kq.refl|refine Kq.put ?_|refine Kq.new ?_|refine Kq.set ?_ (by first|exact Nat.le_refl _|assumption|omega)|refine Kq.grow ?_ (by first|exact Nat.le_refl _|assumption|omega)|refine Kq.frzd ?_ (by first|exact Nat.le_refl _|assumption|omega)|refine Kq.trans ?_ hu2|refine Kq.trans ?_ hu1)))
  ·repeat (first|simp only[go_sem,c0,c6,c9,h0,q1]|simp (disch:=first|exact oa|fail) only[AX,c0,c6,c9,h0,q1]|refine wki ?_|refine wqn ?_)
   refine vf_of (o1) ?_;repeat (first|simp only[go_sem,c0,c6,c9,p6]|simp (disch:=first|exact oa|fail) only[AX,c0,c6,c9,p6]|refine wki ?_|refine wqn ?_)
   exact k _ (keepG_of (by repeat (first|exact Kq.refl|refine Kq.put ?_|refine Kq.new ?_|refine Kq.set ?_ (by first|exact Nat.le_refl _|assumption|omega)|refine Kq.grow ?_ (by first|exact Nat.le_refl _|assumption|omega)|refine Kq.frzd ?_ (by first|exact Nat.le_refl _|assumption|omega)|refine Kq.trans ?_ hu2|refine Kq.trans ?_ hu1)))
 ·have hNz:N≠0:=fun e=>h0 (by rw[e,lim_zero];rfl)
  have h1:=lim_pos hNz
  rcases hT1 with⟨_,e⟩|⟨g1,rfl,q1,q2,q3⟩
  ·exact absurd (by rw[e];rfl) h0
  have q4:=hq4 g1 rfl
  by_cases h00:(lim D).length=0
  ·have hz:D=0:=by
    by_cases e:D=0
    ·exact e
    ·exact absurd h00 (Nat.ne_of_gt (lim_pos e))
   rw[mk_zero s (.inr hz),rv_zero]at k
   rcases hT2 with⟨rfl,_⟩|⟨g2,rfl,r1,r2,r3⟩
   ·repeat (first|simp only[go_sem,c0,c6,c9,q1]|simp (disch:=first|exact oa|fail) only[AX,c0,c6,c9,q1]|refine wki ?_|refine wqn ?_)
    refine vf_of (o1) ?_;repeat (first|simp only[go_sem,c0,c6,c9,p6]|simp (disch:=first|exact oa|fail) only[AX,c0,c6,c9,p6]|refine wki ?_|refine wqn ?_)
    exact k _ (keepG_of (by repeat (first|exact Kq.refl|refine Kq.put ?_|refine Kq.new ?_|refine Kq.set ?_ (by first|exact Nat.le_refl _|assumption|omega)|refine Kq.grow ?_ (by first|exact Nat.le_refl _|assumption|omega)|refine Kq.frzd ?_ (by first|exact Nat.le_refl _|assumption|omega)|refine Kq.trans ?_ hu2|refine Kq.trans ?_ hu1)))
   ·repeat (first|simp only[go_sem,c0,c6,c9,h00,q1,r1]|simp (disch:=first|exact oa|fail) only[AX,c0,c6,c9,h00,q1,r1]|refine wki ?_|refine wqn ?_)
    refine vf_of (o1) ?_;repeat (first|simp only[go_sem,c0,c6,c9,p6]|simp (disch:=first|exact oa|fail) only[AX,c0,c6,c9,p6]|refine wki ?_|refine wqn ?_)
    exact k _ (keepG_of (by repeat (first|exact Kq.refl|refine Kq.put ?_|refine Kq.new ?_|refine Kq.set ?_ (by first|exact Nat.le_refl _|assumption|omega)|refine Kq.grow ?_ (by first|exact Nat.le_refl _|assumption|omega)|refine Kq.frzd ?_ (by first|exact Nat.le_refl _|assumption|omega)|refine Kq.trans ?_ hu2|refine Kq.trans ?_ hu1)))
  ·have hDz:D≠0:=fun e=>h00 (by rw[e,lim_zero];rfl)
   have h2:=lim_pos hDz
   rcases hT2 with⟨_,e⟩|⟨g2,rfl,r1,r2,r3⟩
   ·exact absurd (by rw[e];rfl) h00
   rw[mk_parts s hNz hDz]at k
   have hg:N.gcd D≠0:=Nat.ne_of_gt (Nat.gcd_pos_of_pos_left _ (by omega))
   have h3:=lim_len_mono (Nat.gcd_le_left D (by omega:0<N))
   have r3:s1.gen 5<=g2:=r3
   have r4:st.gen 5<=g2:=Nat.le_trans g5 r3
   have hgg : ¬(g1=g2):=by omega
   have hgg2 : ¬(g2=g1):=fun e=>hgg e.symm
   have a1:=nat_GcdL (N:=N) (D:=D) (by omega) (by omega)
   have a2:=nat_DivL (N:=N) hg (by omega) (by omega)
   have a3:=nat_DivL (N:=D) hg (by omega) (by omega)
   repeat (first|simp only[go_sem,c0,c6,c9,q1,r1,p6,hgg,hgg2,natV_len]|simp (disch:=first|exact oa|fail) only[AX,c0,c6,c9,q1,r1,p6,hgg,hgg2,natV_len]|refine wki ?_|refine wqn ?_|refine vf_of (by first|exact a1|exact a2|exact a3) ?_)
   exact k _ (keepG_of (by repeat (first|exact Kq.refl|refine Kq.put ?_|refine Kq.new ?_|refine Kq.set ?_ (by first|exact Nat.le_refl _|assumption|omega)|refine Kq.grow ?_ (by first|exact Nat.le_refl _|assumption|omega)|refine Kq.frzd ?_ (by first|exact Nat.le_refl _|assumption|omega)|refine Kq.trans ?_ hu2|refine Kq.trans ?_ hu1)))
end
end Go.Proofs.YtdahehdomajbgaaGreatDoor
namespace Go.Proofs.YtdahehdomajbgaaGreatDoor
open Go.Ev
section
variable {ops:Array Oper} {l:List Oper} {dst:Option Nat} {st:St} {Q:St->Prop}
theorem con_Norm (s:Bool) {x y:SV} {n d:List Nat} (hx:SlX st.bm x n) (hy:SlX st.bm y d) (hn:okL n) (hd:okL d) (hl:n.length<=500000) (hm:d.length<=500000) (hb:(conB x||conB y)=true)
  (k : ∀st',KeepG st st'->WO CX false ops l (st'.putO dst (.sv (rv (mkRat (sgn s (wth n)) (wth d))))) Q):WN CX ops l dst st Q 27 [.sv (.agg [.bool s,x,y])]:=by
 have hx0:=hx
 have hy0:=hy
 have hrv : ∃u v w,rv (mkRat (sgn s (wth n)) (wth d)) = .agg [.bool u,natV v,natV w]:=⟨_,_,_,rfl⟩
 obtain⟨u,v,w,e⟩:=hrv
 rw[e]at k
 rcases hx with⟨rfl,ex⟩|⟨b1,o1,c1,rfl,_⟩<;>rcases hy with⟨rfl,ey⟩|⟨b2,o2,c2,rfl,_⟩
 ·cases hb
 all_goals
  clear hb
  refine wni Tryz.f27 ?_;unfold Tryz.f27;simp only[Option.get!_some]
  repeat (first|simp only[go_sem,Bool.not_false]|simp (disch:=first|exact oa|fail) only[AX,Bool.not_false]|refine wki ?_|refine wqn ?_)
  refine wf_bor (by rfl) ?_
  refine con_Of (n:=n) (d:=d) s hx0 hy0 hn hd hl hm ?_
  intro s1 hk
  have a2:s1.tmp 2 = .ptr 2 (st.gen 2) 0:=hk.tmp 2 (old_ptr (d:=2) (g:=st.gen 2) (o:=0) (lt_new (cs:=[]) (v := .nil)))
  have o2:s1.obj 2 (st.gen 2)=some [.bool false,.sl 0 [],.sl 0 []]:=(hk.obj 2 (st.gen 2) (lt_new (cs:=[]) (v := .nil))).trans (if_pos ⟨rfl,rfl⟩)
  have hu:=hk.kq
  clear hk
  rw[e]
  repeat (first|simp only[go_sem,a2,o2]|simp (disch:=first|exact oa|fail) only[AX,a2,o2]|refine wki ?_|refine wqn ?_)
  exact k _ (keepG_of (by repeat (first|exact Kq.refl|refine Kq.put ?_|refine Kq.new ?_|refine Kq.set ?_ (by first|exact Nat.le_refl _|assumption|omega)|refine Kq.grow ?_ (by first|exact Nat.le_refl _|assumption|omega)|refine Kq.frzd ?_ (by first|exact Nat.le_refl _|assumption|omega)|refine Kq.trans ?_ hu)))
def RatX (bm:Nat->Option (List SV)) (cs:List SV) (q:Rat) (L:Nat):Prop := ∃s x y n d,cs=[.bool s,x,y]/\SlX bm x n/\SlX bm y d/\okL n/\okL d/\n.length<=L/\d.length<=L/\q=mkRat (sgn s (wth n)) (wth d)
def RowX (bm:Nat->Option (List SV)) (b off:Nat) (l:List Rat) (L:Nat):Prop := ∃cs,bm b=some cs /\ ∀i,i<l.length->RatX bm ((cs.drop (off+i*3)).take 3) (l.getD i 0) L
theorem any_Norm {s:Bool} {x y:SV} {q:Rat} (h:RatX st.bm [.bool s,x,y] q 500000) (k : ∀st',KeepG st st'->WO CX false ops l (st'.putO dst (.sv (rv q))) Q):WF CX false ops l dst st Q 27 [.agg [.bool s,x,y]]:=by
 obtain⟨s1,x1,y1,n,d,e,hx,hy,hn,hd,hl,hm,rfl⟩:=h
 simp only[List.cons.injEq,SV.bool.injEq,and_true]at e
 obtain⟨rfl,rfl,rfl⟩:=e
 by_cases hb:(conB x||conB y)=true
 ·refine wf_bor ?_ (con_Norm (n:=n) (d:=d) s hx hy hn hd hl hm hb k)
  unfold borC
  have hany:[SV.agg [SV.bool s,x,y]].any borB=true:=by
   show ((false||(conB x||(conB y||false)))||false)=true
   rw[Bool.or_false,Bool.or_false,hb]
   rfl
  have hmu:CX.mu (BOR+27)=true:=by kernel_rfl
  rw[hany,hmu]
  rfl
 ·rcases hx with⟨rfl,rfl⟩|⟨_,_,_,rfl,_⟩
  ·rcases hy with⟨rfl,rfl⟩|⟨_,_,_,rfl,_⟩
   ·refine vf_of (rat_Norm (v:=ratV s [] []) (L:=1) ⟨s,[],[],rfl,okL_nil,okL_nil,by decide,by decide,rfl⟩ (by decide)) ?_
    exact k st { Kq.refl with tmp:=fun _ _=>rfl }
   ·exact absurd rfl hb
  ·exact absurd rfl hb
def RowM (st0 st:St) (T:TV) (qs:List Rat):Prop:=(T = .nil/\qs=[]) \/ ∃g,T = .ref 16 g 3 0 qs.length/\st.obj 16 g=some (rvsC qs)/\st0.gen 16<=g/\g<st.gen 16
theorem con_copied {b off c:Nat} {qs:List Rat} (h:RowX st.bm b off qs 500000) (hl:qs.length<=100000) (hc:qs.length<=c)
  (k : ∀st' T,KeepG st st'->RowM st st' T qs->WO CX false ops l (st'.putO dst T) Q):WN CX ops l dst st Q 14 [.sv (conL b off qs.length c)]:=by
 obtain⟨cs,hb,hrow⟩:=h
 refine wni Tryz.f14 ?_;unfold Tryz.f14;simp only[Option.get!_some]
 repeat (first|simp only[go_sem]|simp (disch:=first|exact oa|fail) only[AX]|refine wki ?_|refine wqn ?_)
 refine vp_loop_inv (fun s=>Kq (st.enter [.sv (conL b off qs.length c)]) s/\s.tmp 6 = .sv (conL b off qs.length c)/\s.tmp 7 = .sv (.int .i64 (qs.length:Int)) /\ ∃i:Nat,s.tmp 8 = .sv (.int .i64 (i:Int))/\i<=qs.length /\
   ((i=0/\s.tmp 3 = .nil/\s.gen 16=st.gen 16)\/(0<i /\ ∃g,s.tmp 3 = .ref 16 g 3 0 i/\s.obj 16 g=some (rvsC (qs.take i))/\st.gen 16<=g/\g<s.gen 16)))
  (fun s=>match s.tmp 8 with|.sv (.int _ i)=>qs.length-i.toNat|_=>0) ⟨(by repeat (first|exact Kq.refl|refine Kq.put ?_|refine Kq.new ?_|refine Kq.set ?_ (by first|exact Nat.le_refl _|assumption|omega)|refine Kq.grow ?_ (by first|exact Nat.le_refl _|assumption|omega)|refine Kq.frzd ?_ (by first|exact Nat.le_refl _|assumption|omega))),rfl,rfl,0,rfl,by omega,.inl ⟨rfl,rfl,rfl⟩⟩ ?_
 rintro s2 ⟨hq,i6,i7,i,i8,hi,hcase⟩
 by_cases hend:i=qs.length
 ·subst hend
  rw[List.take_length]at hcase
  rcases hcase with⟨h0,i3,_⟩|⟨h0,g,i3,iO,ig1,ig2⟩
  ·repeat (first|simp only[go_sem,i6,i7,i8,i3]|simp (disch:=first|exact oa|fail) only[AX,i6,i7,i8,i3]|refine wki ?_|refine wqn ?_)
   exact k _ _ (keepG_of (by repeat (first|exact Kq.refl|refine Kq.put ?_|refine Kq.new ?_|refine Kq.set ?_ (by first|exact Nat.le_refl _|assumption|omega)|refine Kq.grow ?_ (by first|exact Nat.le_refl _|assumption|omega)|refine Kq.frzd ?_ (by first|exact Nat.le_refl _|assumption|omega)|refine Kq.trans ?_ hq))) (.inl ⟨rfl,List.eq_nil_of_length_eq_zero h0⟩)
  ·repeat (first|simp only[go_sem,i6,i7,i8,i3]|simp (disch:=first|exact oa|fail) only[AX,i6,i7,i8,i3]|refine wki ?_|refine wqn ?_)
   exact k _ _ (keepG_of (by repeat (first|exact Kq.refl|refine Kq.put ?_|refine Kq.new ?_|refine Kq.set ?_ (by first|exact Nat.le_refl _|assumption|omega)|refine Kq.grow ?_ (by first|exact Nat.le_refl _|assumption|omega)|refine Kq.frzd ?_ (by first|exact Nat.le_refl _|assumption|omega)|refine Kq.trans ?_ hq))) (.inr ⟨g,rfl,iO,ig1,ig2⟩)
 ·have hx:=hrow i (by omega)
  have hb2:s2.bm b=some cs:=(congrFun hq.bmw.1 b).trans hb
  have hbm:s2.bm=st.bm:=hq.bmw.1
  have g5:(st.enter [.sv (conL b off qs.length c)]).gen 5<=s2.gen 5:=hq.gen 5
  have g16:(st.enter [.sv (conL b off qs.length c)]).gen 16<=s2.gen 16:=hq.gen 16
  obtain⟨s,x,y,n,d,ec,hx1,hy1,hn,hd,hnl,hdl,eq⟩:=hx
  have hR:RatX st.bm [.bool s,x,y] (qs.getD i 0) 500000:=⟨s,x,y,n,d,rfl,hx1,hy1,hn,hd,hnl,hdl,eq⟩
  clear hrow hb
  have hsn:=rvs_snocA (l:=qs) (i:=i) (by omega)
  have hrl:=rvsC_len (qs.take i)
  rw[List.length_take,Nat.min_eq_left (by omega)]at hrl
  generalize hv:qs.getD i 0=q at *
  unfold rvC at hsn
  rcases hx1 with⟨rfl,_⟩|⟨b1,o1,c1,rfl,_⟩<;>rcases hy1 with⟨rfl,_⟩|⟨b2,o2,c2,rfl,_⟩
  all_goals
   rcases hcase with⟨h00,i3,ig⟩|⟨h00,g,i3,iO,ig1,ig2⟩
   ·subst h00
    rw[List.take_zero,rvsC_nil,List.nil_append]at hsn
    repeat (first|simp only[go_sem,i6,i7,i8,i3,hb2,ec,Bool.not_false]|simp (disch:=first|exact oa|fail) only[AX,i6,i7,i8,i3,hb2,ec,Bool.not_false]|refine wki ?_|refine wqn ?_)
    refine any_Norm (q:=q) (by rw[<- hbm]at hR;exact hR) ?_
    intro s3 hk
    have j6:s3.tmp 6 = .sv (conL b off qs.length c):=(hk.tmp 6 (by simp only[tmp_put,tmp_new,tmp_set,i6,reduceIte,Nat.reduceEqDiff];exact old_sv)).trans (by simp only[tmp_put,tmp_new,tmp_set,i6,reduceIte,Nat.reduceEqDiff])
    have j7:s3.tmp 7 = .sv (.int .i64 (qs.length:Int)):=(hk.tmp 7 (by simp only[tmp_put,tmp_new,tmp_set,i7,reduceIte,Nat.reduceEqDiff];exact old_sv)).trans (by simp only[tmp_put,tmp_new,tmp_set,i7,reduceIte,Nat.reduceEqDiff])
    have j8:s3.tmp 8 = .sv (.int .i64 ((0:Nat):Int)):=(hk.tmp 8 (by simp only[tmp_put,tmp_new,tmp_set,i8,reduceIte,Nat.reduceEqDiff];exact old_sv)).trans (by simp only[tmp_put,tmp_new,tmp_set,i8,reduceIte,Nat.reduceEqDiff])
    have j12:s3.tmp 12 = .nil:=hk.tmp 12 old_nil
    have jg:st.gen 16<=s3.gen 16:=Nat.le_trans (Nat.le_of_eq ig.symm) (hk.gen 16)
    have hu:=hk.kq
    clear hk
    repeat (first|simp only[go_sem,j6,j7,j8,j12,N0,rvC]|simp (disch:=first|exact oa|fail) only[AX,j6,j7,j8,j12,N0,rvC]|refine wki ?_|refine wqn ?_)
    refine⟨⟨(by repeat (first|exact Kq.refl|refine Kq.put ?_|refine Kq.new ?_|refine Kq.set ?_ (by first|exact Nat.le_refl _|assumption|omega)|refine Kq.grow ?_ (by first|exact Nat.le_refl _|assumption|omega)|refine Kq.frzd ?_ (by first|exact Nat.le_refl _|assumption|omega)|refine Kq.trans ?_ hu|refine Kq.trans ?_ hq)),1,rfl,by omega,.inr ⟨by omega,s3.gen 16,rfl,?_,jg,?_⟩⟩,by omega⟩
    ·first|(rw[<- hsn];exact if_pos rfl)|(rw[<- hsn];rfl)|rw[<- hsn]
    ·omega
   ·repeat (first|simp only[go_sem,i6,i7,i8,i3,iO,hb2,ec,Bool.not_false]|simp (disch:=first|exact oa|fail) only[AX,i6,i7,i8,i3,iO,hb2,ec,Bool.not_false]|refine wki ?_|refine wqn ?_)
    refine any_Norm (q:=q) (by rw[<- hbm]at hR;exact hR) ?_
    intro s3 hk
    have j6:s3.tmp 6 = .sv (conL b off qs.length c):=(hk.tmp 6 (by simp only[tmp_put,tmp_new,tmp_set,i6,reduceIte,Nat.reduceEqDiff];exact old_sv)).trans (by simp only[tmp_put,tmp_new,tmp_set,i6,reduceIte,Nat.reduceEqDiff])
    have j7:s3.tmp 7 = .sv (.int .i64 (qs.length:Int)):=(hk.tmp 7 (by simp only[tmp_put,tmp_new,tmp_set,i7,reduceIte,Nat.reduceEqDiff];exact old_sv)).trans (by simp only[tmp_put,tmp_new,tmp_set,i7,reduceIte,Nat.reduceEqDiff])
    have j8:s3.tmp 8 = .sv (.int .i64 (i:Int)):=(hk.tmp 8 (by simp only[tmp_put,tmp_new,tmp_set,i8,reduceIte,Nat.reduceEqDiff];exact old_sv)).trans (by simp only[tmp_put,tmp_new,tmp_set,i8,reduceIte,Nat.reduceEqDiff])
    have j12:s3.tmp 12 = .ref 16 g 3 0 i:=hk.tmp 12 (fun d' g' e=>by
     have e:TV.id (.ref 16 g 3 0 i)=some (d',g'):=e
     simp only[TV.id,Option.some.injEq,Prod.mk.injEq]at e
     obtain⟨rfl,rfl⟩:=e
     exact ig2)
    have jO:s3.obj 16 g=some (rvsC (qs.take i)):=(hk.obj 16 g ig2).trans iO
    have jg:g<s3.gen 16:=Nat.lt_of_lt_of_le ig2 (hk.gen 16)
    have hu:=hk.kq
    clear hk
    repeat (first|simp only[go_sem,j6,j7,j8,j12,jO,N0,hrl,rvC,hsn]|simp (disch:=first|exact oa|fail) only[AX,j6,j7,j8,j12,jO,N0,hrl,rvC,hsn]|refine wki ?_|refine wqn ?_)
    refine⟨⟨(by repeat (first|exact Kq.refl|refine Kq.put ?_|refine Kq.new ?_|refine Kq.set ?_ (by first|exact Nat.le_refl _|assumption|omega)|refine Kq.grow ?_ (by first|exact Nat.le_refl _|assumption|omega)|refine Kq.frzd ?_ (by first|exact Nat.le_refl _|assumption|omega)|refine Kq.trans ?_ hu|refine Kq.trans ?_ hq)),i+1,rfl,by omega,.inr ⟨by omega,g,rfl,?_,ig1,jg⟩⟩,by omega⟩
    ·first|(rw[<- hsn];exact if_pos rfl)|(rw[<- hsn];rfl)|rw[<- hsn]
end
end Go.Proofs.YtdahehdomajbgaaGreatDoor
namespace Go.Proofs.YtdahehdomajbgaaGreatDoor
open Go.Ev
structure KeepS (d g:Nat) (st st':St):Prop where
 sv : ∀t x,st.tmp t = .sv x->st'.tmp t = .sv x
 pt : ∀t,st.tmp t = .ptr d g 0->st'.tmp t = .ptr d g 0
 bmw:st'.bm=st.bm/\st'.bw=st.bw
 gd:st.gen d<=st'.gen d
section
variable {ops:Array Oper} {l:List Oper} {dst:Option Nat} {st:St} {Q:St->Prop} {d g:Nat}
theorem own_copied {cs:List SV} {qs:List Rat} {L:Nat} (h:RowC cs qs L) (hL2:L<=10000) (hl:qs.length<=100000)
  (k : ∀st' T,KeepG st st'->RowM st st' T qs->WO CX false ops l (st'.putO dst T) Q):WN CX ops l dst st Q 14 [.sv (.sl qs.length cs)]:=by
 have hlen:=row_len h
 refine wni Tryz.f14 ?_;unfold Tryz.f14;simp only[Option.get!_some]
 repeat (first|simp only[go_sem]|simp (disch:=first|exact oa|fail) only[AX]|refine wki ?_|refine wqn ?_)
 refine vp_loop_inv (fun s=>Kq (st.enter [.sv (.sl qs.length cs)]) s/\s.tmp 6 = .sv (.sl qs.length cs)/\s.tmp 7 = .sv (.int .i64 (qs.length:Int)) /\ ∃i:Nat,s.tmp 8 = .sv (.int .i64 (i:Int))/\i<=qs.length /\
   ((i=0/\s.tmp 3 = .nil/\s.gen 16=st.gen 16)\/(0<i /\ ∃g,s.tmp 3 = .ref 16 g 3 0 i/\s.obj 16 g=some (rvsC (qs.take i))/\st.gen 16<=g/\g<s.gen 16)))
  (fun s=>match s.tmp 8 with|.sv (.int _ i)=>qs.length-i.toNat|_=>0) ⟨(by repeat (first|exact Kq.refl|refine Kq.put ?_|refine Kq.new ?_|refine Kq.set ?_ (by first|exact Nat.le_refl _|assumption|omega)|refine Kq.grow ?_ (by first|exact Nat.le_refl _|assumption|omega)|refine Kq.frzd ?_ (by first|exact Nat.le_refl _|assumption|omega))),rfl,rfl,0,rfl,by omega,.inl ⟨rfl,rfl,rfl⟩⟩ ?_
 rintro s2 ⟨hq,i6,i7,i,i8,hi,hcase⟩
 have g5:(st.enter [.sv (.sl qs.length cs)]).gen 5<=s2.gen 5:=hq.gen 5
 have g16:(st.enter [.sv (.sl qs.length cs)]).gen 16<=s2.gen 16:=hq.gen 16
 by_cases hend:i=qs.length
 ·subst hend
  rw[List.take_length]at hcase
  rcases hcase with⟨h0,i3,_⟩|⟨h0,g,i3,iO,ig1,ig2⟩
  ·repeat (first|simp only[go_sem,i6,i7,i8,i3]|simp (disch:=first|exact oa|fail) only[AX,i6,i7,i8,i3]|refine wki ?_|refine wqn ?_)
   exact k _ _ (keepG_of (by repeat (first|exact Kq.refl|refine Kq.put ?_|refine Kq.new ?_|refine Kq.set ?_ (by first|exact Nat.le_refl _|assumption|omega)|refine Kq.grow ?_ (by first|exact Nat.le_refl _|assumption|omega)|refine Kq.frzd ?_ (by first|exact Nat.le_refl _|assumption|omega)|refine Kq.trans ?_ hq))) (.inl ⟨rfl,List.eq_nil_of_length_eq_zero h0⟩)
  ·repeat (first|simp only[go_sem,i6,i7,i8,i3]|simp (disch:=first|exact oa|fail) only[AX,i6,i7,i8,i3]|refine wki ?_|refine wqn ?_)
   exact k _ _ (keepG_of (by repeat (first|exact Kq.refl|refine Kq.put ?_|refine Kq.new ?_|refine Kq.set ?_ (by first|exact Nat.le_refl _|assumption|omega)|refine Kq.grow ?_ (by first|exact Nat.le_refl _|assumption|omega)|refine Kq.frzd ?_ (by first|exact Nat.le_refl _|assumption|omega)|refine Kq.trans ?_ hq))) (.inr ⟨g,rfl,iO,ig1,ig2⟩)
 ·obtain⟨s,n,d,rest,hat,hA⟩:=row_at (i:=i) h (by omega)
  have a:=rat_Norm hA (by omega)
  have hsn:=rvs_snocA (l:=qs) (i:=i) (by omega)
  have hrl:=rvsC_len (qs.take i)
  rw[List.length_take,Nat.min_eq_left (by omega)]at hrl
  clear h hA
  rcases hcase with⟨h00,i3,ig⟩|⟨h00,g,i3,iO,ig1,ig2⟩
  ·subst h00
   rw[List.take_zero,rvsC_nil,List.nil_append]at hsn
   rw[Nat.zero_mul,List.drop_zero]at hat
   subst hat
   repeat (first|simp only[go_sem,i6,i7,i3,i8,ig,N0,rvC]|simp (disch:=first|exact oa|fail) only[AX,i6,i7,i3,i8,ig,N0,rvC]|refine wki ?_|refine wqn ?_|refine vf_of (by first|exact a) ?_)
   refine⟨⟨(by repeat (first|exact Kq.refl|refine Kq.put ?_|refine Kq.new ?_|refine Kq.set ?_ (by first|exact Nat.le_refl _|assumption|omega)|refine Kq.grow ?_ (by first|exact Nat.le_refl _|assumption|omega)|refine Kq.frzd ?_ (by first|exact Nat.le_refl _|assumption|omega)|refine Kq.trans ?_ hq)),1,rfl,by omega,.inr ⟨by omega,st.gen 16,rfl,?_,Nat.le_refl _,by omega⟩⟩,by omega⟩
   first|(rw[<- hsn];exact if_pos rfl)|(rw[<- hsn];rfl)|rw[<- hsn]
  ·unfold rvC at hsn
   repeat (first|simp only[go_sem,i6,i7,i3,i8,iO,hat,hlen,N0,hsn,hrl,rvC]|simp (disch:=first|exact oa|fail) only[AX,i6,i7,i3,i8,iO,hat,hlen,N0,hsn,hrl,rvC]|refine wki ?_|refine wqn ?_|refine vf_of (by first|exact a) ?_)
   refine⟨⟨(by repeat (first|exact Kq.refl|refine Kq.put ?_|refine Kq.new ?_|refine Kq.set ?_ (by first|exact Nat.le_refl _|assumption|omega)|refine Kq.grow ?_ (by first|exact Nat.le_refl _|assumption|omega)|refine Kq.frzd ?_ (by first|exact Nat.le_refl _|assumption|omega)|refine Kq.trans ?_ hq)),i+1,rfl,by omega,.inr ⟨by omega,g,rfl,?_,ig1,ig2⟩⟩,by omega⟩
   first|(rw[<- hsn];exact if_pos rfl)|(rw[<- hsn];rfl)|rw[<- hsn]
def RowA (bm:Nat->Option (List SV)) (x:SV) (qs:List Rat):Prop:=(∃b off c,x=conL b off qs.length c/\RowX bm b off qs 500000/\qs.length<=c) \/ ∃cs,x = .sl qs.length cs/\RowC cs qs 500
theorem any_copied {x:SV} {qs:List Rat} (h:RowA st.bm x qs) (hbw:st.bw=true) (hl:qs.length<=100000)
  (k : ∀st' T,KeepG st st'->RowM st st' T qs->WO CX false ops l (st'.putO dst T) Q):WF CX false ops l dst st Q 14 [x]:=by
 rcases h with⟨b,off,c,rfl,h,hc⟩|⟨cs,rfl,h⟩
 ·exact wf_bor (by rfl) (con_copied h hl hc k)
 ·refine wf_bor ?_ (own_copied h (by omega) hl k)
  have hmu:CX.mu (OWN+14)=true:=by kernel_rfl
  unfold borC
  rw[hmu,hbw,Bool.and_true,Bool.or_true]
  rfl
theorem own_Set {x:SV} {qs:List Rat} (hq:RowA st.bm x qs) (hbw:st.bw=true) (hl:qs.length<=256) (hd:H0<=d) (hob:st.hob d g=some [.nil,.sv (.int .i64 6)]) (hgd:g<st.gen d)
  (k : ∀st',KeepS d g st st'->SessR st' d g [([97],qs.length,rvsC qs)] 6->WO CX false ops l (st'.putO dst (.sv (.int .i64 0))) Q) :
  WN CX ops l dst st Q 6 [.ptr d g 0,.sv (.str (bs [97])),.sv x]:=by
 have nm:=sess_Name [97] (by decide)
 rw[show nameP [97]=true by kernel_rfl]at nm
 have hp:PosAt ([]:List Ent) [97] 0:=⟨Nat.le_refl 0,fun k h=>absurd h (Nat.not_lt_zero k),fun k _ h=>absurd h (Nat.not_lt_zero k)⟩
 have hat:isAt ([]:List Ent) [97] 0=false:=rfl
 have hd':2000000<=d:=hd
 have hpl:plV (.ptr d g 0)=true:=pl_ob hd
 have hrl:=rvsC_len qs
 have hq0:=hq
 rcases hq with⟨b,off,c,rfl,_,_⟩|⟨cs,rfl,_⟩
 all_goals
  refine wni Tryz.f6 ?_;unfold Tryz.f6;simp only[Option.get!_some]
  repeat (first|simp only[go_sem,hd',Bool.not_true]|simp (disch:=first|exact oa|fail) only[AX,hd',Bool.not_true]|refine wki ?_|refine wqn ?_|refine vpl 10 [2] [([0,1,2,3,4,5],some (6,[0,1,2,3,4])),([7,8],some (9,[])),([],none)] ?_|refine vf_of (by first|exact nm) ?_)
  refine sess_atS (es:=[]) (D:=6) hp (by decide) ⟨hd,.inl ⟨rfl,hob⟩⟩ ?_
  intro s1 hk
  have k0:s1.tmp 0 = .ptr d g 0:=hk.tmp 0
  have k1:s1.tmp 1 = .sv (.str (bs [97])):=hk.tmp 1
  have k2:=hk.tmp 2
  have ho:s1.hob d g=some [.nil,.sv (.int .i64 6)]:=by rw[hk.hob];exact hob
  have hb1:s1.bm=st.bm/\s1.bw=st.bw:=hk.bmw
  have hu1 : ∀t,s1.up (2*t)=st.tmp t:=fun t=>by
   rw[hk.up]
   simp only[up_put]
   exact up_even
  have hg1:s1.gen=st.gen:=hk.gen
  simp only[tmp_put,tmp_enter,reduceIte,Nat.reduceEqDiff,List.getElem?_cons_succ,List.getElem?_cons_zero,optT]at k2
  clear hk
  repeat (first|simp only[go_sem,hd',k0,k1,k2,hat,ho,Bool.not_true,Bool.not_false]|simp (disch:=first|exact oa|fail) only[AX,hd',k0,k1,k2,hat,ho,Bool.not_true,Bool.not_false]|refine wki ?_|refine wqn ?_|refine vpl 10 [2] [([0,1,2,3,4,5],some (6,[0,1,2,3,4])),([7,8],some (9,[])),([],none)] ?_)
  refine sess_insert_nil (d:=d) (t:=[97]) (g2:=s1.gen 49) ?_ ?_
  ·simp only[obj_put,obj_new,gen_put,and_self,if_true]
  intro s2 g2 hk2 hg2 hobj2 hhob2
  have j0:s2.tmp 0 = .ptr d g 0:=(hk2.tmp 0 (by simp only[tmp_put,tmp_new,k0,reduceIte,Nat.reduceEqDiff];exact hpl)).trans (by simp only[tmp_put,tmp_new,k0,reduceIte,Nat.reduceEqDiff])
  have j41:s2.tmp 41 = .ptr d g 0:=(hk2.tmp 41 hpl).trans rfl
  have j7:s2.tmp 7 = .sv (.int .i64 0):=(hk2.tmp 7 rfl).trans rfl
  have j2:=hk2.tmp 2 (by simp only[tmp_put,tmp_new,k2,reduceIte,Nat.reduceEqDiff];rfl)
  simp only[tmp_put,tmp_new,k2,reduceIte,Nat.reduceEqDiff]at j2
  have hob2:s2.hob d g=some [.nil,.sv (.int .i64 6)]:=by rw[hhob2];exact ho
  have hobj2:s2.obj 25 g2=some [.str (bs [97]),.sl 0 []]:=hobj2
  have hb2:s2.bm=st.bm/\s2.bw=st.bw:=⟨hk2.bmw.1.trans hb1.1,hk2.bmw.2.trans hb1.2⟩
  have hu2 : ∀u,plT TP (s1.up u)=true->s2.up u=s1.up u:=hk2.up
  have hgd2:g<s2.gen d:=by
   have:=hk2.gen d
   refine Nat.lt_of_lt_of_le ?_ this
   show g<if d=49 then s1.gen 49+1 else s1.gen d
   rw[if_neg (by omega),hg1]
   exact hgd
  have hgd3:st.gen d<=s2.gen d:=by
   have:=hk2.gen d
   refine Nat.le_trans ?_ this
   show st.gen d<=if d=49 then s1.gen 49+1 else s1.gen d
   rw[if_neg (by omega),hg1]
   exact Nat.le_refl _
  clear hk2 hhob2 k0 k1 k2
  repeat (first|simp only[go_sem,hd',j0,j41,j7,j2,hob2,hobj2]|simp (disch:=first|exact oa|fail) only[AX,hd',j0,j41,j7,j2,hob2,hobj2]|refine wki ?_|refine wqn ?_|refine vpl 10 [2] [([0,1,2,3,4,5],some (6,[0,1,2,3,4])),([7,8],some (9,[])),([],none)] ?_)
  refine any_copied (qs:=qs) (by rw[<- hb2.1]at hq0;exact hq0) (hb2.2.trans hbw) (by omega) ?_
  intro s3 T hk3 hT
  have oP:oldT s2 (.ptr d g 0):=old_ptr hgd2
  have oR:oldT s2 (.ref 25 g2 2 0 1):=fun d' g' e=>by
   simp only[TV.id,Option.some.injEq,Prod.mk.injEq]at e
   obtain⟨rfl,rfl⟩:=e
   exact hg2
  have m0:s3.tmp 0 = .ptr d g 0:=(hk3.tmp 0 (by simp only[tmp_put,tmp_setH,j0,reduceIte,Nat.reduceEqDiff];exact oP)).trans (by simp only[tmp_put,tmp_setH,j0,reduceIte,Nat.reduceEqDiff])
  have m7:s3.tmp 7 = .sv (.int .i64 0):=(hk3.tmp 7 (by simp only[tmp_put,tmp_setH,j7,reduceIte,Nat.reduceEqDiff];exact old_sv)).trans (by simp only[tmp_put,tmp_setH,j7,reduceIte,Nat.reduceEqDiff])
  have m53:s3.tmp 53 = .ptr d g 0:=hk3.tmp 53 oP
  have m54:s3.tmp 54 = .ptr d g 0:=hk3.tmp 54 oP
  have m55:s3.tmp 55 = .ptr d g 0:=hk3.tmp 55 oP
  have m56:s3.tmp 56 = .ref 25 g2 2 0 1:=hk3.tmp 56 oR
  have m57:s3.tmp 57 = .sv (.int .i64 0):=hk3.tmp 57 old_sv
  have mh:s3.hob d g=some [.ref 25 g2 2 0 1,.sv (.int .i64 6)]:=hk3.hob d g _ (by simp only[hob_put,hob_setH,and_self,if_true]) (by
   intro t ht
   simp only[List.mem_cons,List.not_mem_nil,or_false]at ht
   rcases ht with rfl|rfl
   ·exact oR
   ·exact old_sv)
  have mo:s3.obj 25 g2=some [.str (bs [97]),.sl 0 []]:=(hk3.obj 25 g2 hg2).trans hobj2
  have mg:g2<s3.gen 25:=Nat.lt_of_lt_of_le hg2 (hk3.gen 25)
  have mb:s3.bm=st.bm/\s3.bw=st.bw:=⟨hk3.bmw.1.trans hb2.1,hk3.bmw.2.trans hb2.2⟩
  have md:st.gen d<=s3.gen d:=Nat.le_trans hgd3 (hk3.gen d)
  have hu3 : ∀u,oldT s2 (s2.up u)->s3.up u=s2.up u:=hk3.up
  have hsv : ∀t x,st.tmp t = .sv x->s3.up (2*t) = .sv x:=fun t x e=>by
   have e1:s1.up (2*t) = .sv x:=(hu1 t).trans e
   have e2:s2.up (2*t) = .sv x:=(hu2 (2*t) (by rw[e1];rfl)).trans e1
   exact(hu3 (2*t) (by rw[e2];exact old_sv)).trans e2
  have hpt : ∀t,st.tmp t = .ptr d g 0->s3.up (2*t) = .ptr d g 0:=fun t e=>by
   have e1:s1.up (2*t) = .ptr d g 0:=(hu1 t).trans e
   have e2:s2.up (2*t) = .ptr d g 0:=(hu2 (2*t) (by rw[e1];exact hpl)).trans e1
   exact(hu3 (2*t) (by rw[e2];exact oP)).trans e2
  clear hk3 hu1 hu2 hu3
  rcases hT with⟨rfl,rfl⟩|⟨g16,rfl,q1,q2,q3⟩
  ·repeat (first|simp only[go_sem,hd',m0,m7,m53,m54,m55,m56,m57,mh,mo]|simp (disch:=first|exact oa|fail) only[AX,hd',m0,m7,m53,m54,m55,m56,m57,mh,mo]|refine wki ?_|refine wqn ?_|refine vpl 10 [2] [([0,1,2,3,4,5],some (6,[0,1,2,3,4])),([7,8],some (9,[])),([],none)] ?_)
   refine k _ ⟨fun t x e => ?_,fun t e => ?_,mb,md⟩ ⟨hd,.inr ⟨g2,mg,?_,?_⟩⟩
   ·simp only[tmp_leave,up_put,up_set]
    exact hsv t x e
   ·simp only[tmp_leave,up_put,up_set]
    exact hpt t e
   ·simp only[hob_leave,hob_put,hob_set]
    exact mh
   ·simp only[obj_leave,obj_put,obj_set,and_self,if_true]
    rfl
  ·repeat (first|simp only[go_sem,hd',m0,m7,m53,m54,m55,m56,m57,mh,mo,q1,hrl]|simp (disch:=first|exact oa|fail) only[AX,hd',m0,m7,m53,m54,m55,m56,m57,mh,mo,q1,hrl]|refine wki ?_|refine wqn ?_|refine vpl 10 [2] [([0,1,2,3,4,5],some (6,[0,1,2,3,4])),([7,8],some (9,[])),([],none)] ?_)
   refine k _ ⟨fun t x e => ?_,fun t e => ?_,mb,md⟩ ⟨hd,.inr ⟨g2,mg,?_,?_⟩⟩
   ·simp only[tmp_leave,up_put,up_set,up_frzd]
    rw[hsv t x e]
    rfl
   ·simp only[tmp_leave,up_put,up_set,up_frzd]
    rw[hpt t e]
    exact if_neg (by omega)
   ·simp only[hob_leave,hob_put,hob_set,hob_frzd]
    rw[mh]
    rfl
   ·simp only[obj_leave,obj_put,obj_set,and_self,if_true]
    rw[List.take_of_length_le (by omega)]
    rfl
end
end Go.Proofs.YtdahehdomajbgaaGreatDoor
namespace Go.Proofs.YtdahehdomajbgaaGreatDoor
open Go.Ev
section
variable {ops:Array Oper} {l:List Oper} {dst:Option Nat} {st:St} {Q:St->Prop} {d g:Nat}
def RowP (st:St) (T:TV) (qs:List Rat):Prop:=(T = .sv (.tup [.sl 0 [],.int .i64 0])/\qs=[]) \/ ∃g,T = .tp 16 g 3 0 qs.length [.int .i64 0]/\st.obj 16 g=some (rvsC qs)/\g<st.gen 16
theorem own_Get {qs:List Rat} (hz : ∀q∈qs,szR q 500) (hl:qs.length<=256) (h:SessR st d g [([97],qs.length,rvsC qs)] 6) (hbw:st.bw=true) (hgd:g<st.gen d)
  (k : ∀st' T,KeepS d g st st'->SessR st' d g [([97],qs.length,rvsC qs)] 6->RowP st' T qs->(∀n g',n≠16->g'<st.gen n->st'.obj n g'=st.obj n g')->WO CX false ops l (st'.putO dst T) Q) :
  WN CX ops l dst st Q 7 [.ptr d g 0,.sv (.str (bs [97]))]:=by
 have hd':2000000<=d:=h.ob
 have hp:PosAt [([97],qs.length,rvsC qs)] [97] 0:=⟨Nat.zero_le _,fun k h=>absurd h (Nat.not_lt_zero k),fun k _ h=>by
  have:k=0:=by simpa using h
  subst this
  show ¬((0:Int)<0)
  decide⟩
 have hat:isAt [(([97]:List UInt8),qs.length,rvsC qs)] [97] 0=true:=rfl
 refine wni Tryz.f7 ?_;unfold Tryz.f7;simp only[Option.get!_some]
 repeat (first|simp only[go_sem,hd']|simp (disch:=first|exact oa|fail) only[AX,hd']|refine wki ?_|refine wqn ?_)
 refine sess_atS hp (show 1<=100000 by decide) (h.of rfl (fun _=>rfl) (Nat.le_refl _)) ?_
 intro s1 hk
 have k0:s1.tmp 0 = .ptr d g 0:=hk.tmp 0
 have hb1:s1.bw=true:=hk.bmw.2.trans hbw
 have hbm1:s1.bm=st.bm:=hk.bmw.1
 have hs1:SessR s1 d g [([97],qs.length,rvsC qs)] 6:=h.of (by rw[hk.hob];rfl) (fun _=>(hk.obj _ _).trans rfl) (by rw[hk.gen];exact Nat.le_refl _)
 have hu1 : ∀t,s1.up (2*t)=st.tmp t:=fun t=>by
  rw[hk.up]
  simp only[up_put]
  exact up_even
 have ho1 : ∀n g',s1.obj n g'=st.obj n g':=hk.obj
 have hg1:s1.gen=st.gen:=hk.gen
 clear hk
 have hrow:=hs1.row
 rcases hrow with⟨e,_⟩|⟨g1,hg25,ho,hobj⟩
 ·cases e
 have ho:s1.hob d g=some [.ref 25 g1 2 0 1,.sv (.int .i64 6)]:=ho
 have hobj:s1.obj 25 g1=some [.str (bs [97]),.sl qs.length (rvsC qs)]:=hobj
 repeat (first|simp only[go_sem,hd',k0,hat,ho,hobj,Bool.not_true]|simp (disch:=first|exact oa|fail) only[AX,hd',k0,hat,ho,hobj,Bool.not_true]|refine wki ?_|refine wqn ?_)
 refine any_copied (x := .sl qs.length (rvsC qs)) (qs:=qs) (.inr ⟨_,rfl,rvsC_row qs hz⟩) hb1 (by omega) ?_
 intro s3 T hk3 hT
 have hb3:s3.bw=true:=hk3.bmw.2.trans hb1
 have hu3:=hk3.kq
 have oP:oldT s1 (.ptr d g 0):=old_ptr (by rw[hg1];exact hgd)
 have mh:s3.hob d g=some [.ref 25 g1 2 0 1,.sv (.int .i64 6)]:=hk3.hob d g _ ho (by
  intro t ht
  simp only[List.mem_cons,List.not_mem_nil,or_false]at ht
  rcases ht with rfl|rfl
  ·intro d' g' e
   simp only[TV.id,Option.some.injEq,Prod.mk.injEq]at e
   obtain⟨rfl,rfl⟩:=e
   exact hg25
  ·exact old_sv)
 have mo:s3.obj 25 g1=some [.str (bs [97]),.sl qs.length (rvsC qs)]:=(hk3.obj 25 g1 hg25).trans hobj
 have mg:g1<s3.gen 25:=Nat.lt_of_lt_of_le hg25 (hk3.gen 25)
 have mb:s3.bm=st.bm/\s3.bw=st.bw:=⟨hk3.bmw.1.trans hbm1,hb3.trans hbw.symm⟩
 have md:st.gen d<=s3.gen d:=Nat.le_trans (by rw[<- hg1];exact Nat.le_refl _) (hk3.gen d)
 have hsv : ∀t x,st.tmp t = .sv x->s3.up (2*t) = .sv x:=fun t x e=>by
  have e1:s1.up (2*t) = .sv x:=(hu1 t).trans e
  exact(hk3.up (2*t) (by show oldT _ (s1.up (2*t));rw[e1];exact old_sv)).trans e1
 have hpt : ∀t,st.tmp t = .ptr d g 0->s3.up (2*t) = .ptr d g 0:=fun t e=>by
  have e1:s1.up (2*t) = .ptr d g 0:=(hu1 t).trans e
  exact(hk3.up (2*t) (by show oldT _ (s1.up (2*t));rw[e1];exact oP)).trans e1
 have hob3 : ∀n g',n≠16->g'<st.gen n->s3.obj n g'=st.obj n g':=fun n g' _ hg=>(hk3.obj n g' (by show g'<s1.gen n;rw[hg1];exact hg)).trans (ho1 n g')
 clear hk3 hu1
 rcases hT with⟨rfl,rfl⟩|⟨g16,rfl,q1,q2,q3⟩
 ·repeat (first|simp only[go_sem,hb3]|simp (disch:=first|exact oa|fail) only[AX,hb3]|refine wki ?_|refine wqn ?_)
  refine k _ _ ⟨fun t x e => ?_,fun t e => ?_,mb,md⟩ ⟨h.ob,.inr ⟨g1,mg,mh,mo⟩⟩ (.inl ⟨rfl,rfl⟩) hob3
  ·simp only[tmp_leave,up_put]
   exact hsv t x e
  ·simp only[tmp_leave,up_put]
   exact hpt t e
 ·repeat (first|simp only[go_sem,hb3]|simp (disch:=first|exact oa|fail) only[AX,hb3]|refine wki ?_|refine wqn ?_)
  refine k _ _ ⟨fun t x e => ?_,fun t e => ?_,mb,md⟩ ⟨h.ob,.inr ⟨g1,mg,mh,mo⟩⟩ (.inr ⟨g16,rfl,q1,q3⟩) hob3
  ·simp only[tmp_leave,up_put]
   exact hsv t x e
  ·simp only[tmp_leave,up_put]
   exact hpt t e
theorem own_Rats {e f:Nat} {qs:List Rat} {cs:List SV} {L:Nat} (hz : ∀q∈qs,szR q 500) (h2:RowC cs qs L) (hL:1<=L) (hL2:L<=10000) (hl:qs.length<=100000) (ho:st.obj e f=some (rvsC qs)) (he:e<H0)
  (k : ∀st',Same st st'->WO CX false ops l (st'.putO dst (.sv (.bool true))) Q):WN CX ops l dst st Q 8 [.ref e f 3 0 qs.length,.sv (.sl qs.length cs)]:=by
 have h1:=rvsC_row (L:=500) qs hz
 have la:=row_len h1
 have lb:=row_len h2
 have at1:=fun {i:Nat} (hi:i<qs.length)=>row_at (i:=i) h1 hi
 have at2:=fun {i:Nat} (hi:i<qs.length)=>row_at (i:=i) h2 hi
 have hnH : ¬(2000000<=e):=by have:e<2000000:=he;omega
 refine wni Tryz.f8 ?_;unfold Tryz.f8;simp only[Option.get!_some]
 repeat (first|simp only[go_sem]|simp (disch:=first|exact oa|fail) only[AX]|refine wki ?_|refine wqn ?_|refine vpd 6 [] ?_)
 refine vp_loop_inv (fun s=>(s.up=(st.enter [.ref e f 3 0 qs.length,.sv (.sl qs.length cs)]).up/\s.obj=st.obj/\s.gen=st.gen/\s.hob=st.hob/\s.bm=st.bm/\s.bw=st.bw)/\s.tmp 0 = .ref e f 3 0 qs.length/\s.tmp 1 = .sv (.sl qs.length cs) /\ ∃i:Nat,s.tmp 5 = .sv (.int .i64 (i:Int))/\i<=qs.length) (fun s=>match s.tmp 5 with | .sv (.int _ i)=>qs.length-i.toNat|_=>0) ⟨⟨rfl,rfl,rfl,rfl,rfl,rfl⟩,rfl,rfl,0,rfl,by omega⟩ ?_
 rintro s ⟨⟨u1,u2,u3,u4,u5,u6⟩,i0,i1,i,i5,hi⟩
 have hos:s.obj e f=some (rvsC qs):=by rw[u2];exact ho
 by_cases hend:i=qs.length
 ·subst hend
  repeat (first|simp only[go_sem,i0,i1,i5]|simp (disch:=first|exact oa|fail) only[AX,i0,i1,i5]|refine wki ?_|refine wqn ?_|refine vpd 6 [] ?_)
  exact k _ (same_ofB (vs:=[.ref e f 3 0 qs.length,.sv (.sl qs.length cs)]) u1 u2 u3 u4 ⟨u5,u6⟩)
 ·obtain⟨sx,nx,dx,rx,g1,r1⟩:=at1 (i:=i) (by omega)
  obtain⟨sy,ny,dy,ry,g2,r2⟩:=at2 (i:=i) (by omega)
  have sm:=ref2_Same r1 r2 (by decide) hL (by omega)
  rw[decide_eq_true rfl]at sm
  clear at1 at2 r1 r2
  repeat (first|simp only[go_sem,i0,i1,i5,g1,g2,la,lb,hos,hnH,Bool.not_true]|simp (disch:=first|exact oa|fail) only[AX,i0,i1,i5,g1,g2,la,lb,hos,hnH,Bool.not_true]|refine wki ?_|refine wqn ?_|refine vpd 6 [] ?_|refine vf_of (by first|exact sm) ?_)
  exact⟨⟨⟨u1,u2,u3,u4,u5,u6⟩,i+1,rfl,by omega⟩,by omega⟩
end
end Go.Proofs.YtdahehdomajbgaaGreatDoor
namespace Go.Proofs.YtdahehdomajbgaaGreatDoor
open Go.Ev
open Classical in
noncomputable def toCon (u:Value):SV:=if u.oneCell'=true then (match u with
 | .bool b => .bool b
 | .int k n => .int k n
 | .string s => .str s
 | .slice _ 0 _ => .sl 0 []
 |v => .con v) else .agg []
theorem toCon_exact {u:Value} (h:(toCon u).one=true):Exact u (toCon u):=by
 intro w M
 unfold toCon at h ⊢
 split
 ·rename_i h1
  rw[if_pos h1]at h
  split
  ·exact .bool _
  ·exact .int _ _
  ·exact .str _
  ·exact .sl0 _ _ _ (Nat.zero_le _)
  ·exact .con _ h1
 ·rename_i h1
  rw[if_neg h1]at h
  cases h
open Classical in
noncomputable def bmW (w:World) (B:Nat->Prop) (b:Nat):Option (List SV):=if B b then (match w.heap[b]? with
 |some (.cells us _ _)=>some (us.toList.map toCon)
 |_=>none) else none
theorem bmW_some {w:World} {B:Nat->Prop} {b:Nat} {us:Array Value} {ty:TypeId} {fz:Nat×Nat} (h:B b) (hb:w.heap[b]?=some (.cells us ty fz)):bmW w B b=some (us.toList.map toCon):=by
 unfold bmW
 rw[if_pos h,hb]
theorem bmW_get {w:World} {B:Nat->Prop} {b:Nat} {cs:List SV} (h:bmW w B b=some cs):B b /\ ∃us ty fz,w.heap[b]?=some (.cells us ty fz)/\cs=us.toList.map toCon:=by
 unfold bmW at h
 split at h
 ·rename_i hB
  split at h
  ·rename_i us ty fz hb
   cases h
   exact⟨hB,us,ty,fz,hb,rfl⟩
  ·cases h
 ·cases h
theorem bmW_cells {us:Array Value} {i:Nat} {s:SV} (h:(us.toList.map toCon)[i]?=some s) : ∃v:Value,us[i]?=some v/\(s.one=true->Exact v s):=by
 rw[List.getElem?_map]at h
 cases hu:us.toList[i]? with
 |none=>rw[hu]at h;cases h
 |some v=>
  rw[hu]at h
  cases h
  exact⟨v,by rw[<- Array.getElem?_toList];exact hu,toCon_exact⟩
section
variable {w:World} {M B:Nat->Prop}
theorem cell_block {a:Addr} {v:Value} (h:w.cell? a=some v) : ∃us ty fz,w.heap[a.block]?=some (.cells us ty fz)/\us[a.off]?=some v/\a.spot=none:=by
 unfold World.cell? at h
 split at h
 ·rename_i c ty fz hb
  split at h
  ·cases h
  ·rename_i hs
   exact⟨c,ty,fz,hb,h,by cases e:a.spot with
    |none=>rfl
    |some x=>rw[e]at hs;exact absurd rfl hs⟩
 ·cases h
theorem cells_at {a:Addr} {n:Nat} {c:Nat->Value} (h : ∀i,i<n->w.cell? (a.add i)=some (c i)) (hn:0<n) (hB:B a.block) : ∃us ty fz,a=⟨a.block,a.off,none⟩/\w.heap[a.block]?=some (.cells us ty fz)/\bmW w B a.block=some (us.toList.map toCon) /\ ∀i,i<n->(us.toList.map toCon)[a.off+i]?=some (toCon (c i)):=by
 obtain⟨us,ty,fz,hb,h0,hs⟩:=cell_block (h 0 hn)
 have hs:a.spot=none:=hs
 have hb:w.heap[a.block]?=some (.cells us ty fz):=hb
 have ea:a=⟨a.block,a.off,none⟩:=by
  obtain⟨x,y,z⟩:=a
  have:z=none:=hs
  rw[this]
 refine⟨us,ty,fz,ea,hb,bmW_some hB hb,fun i hi => ?_⟩
 have:=h i hi
 rw[ea,add_mk,cell_of_row w _ _ us ty fz hb]at this
 rw[List.getElem?_map,Array.getElem?_toList,this]
 rfl
theorem slx_of {v:Value} {xs:List Nat} (h:Rep w M v (natV xs)) (hB : ∀b,¬M b->b<w.heap.size->B b):SlX (bmW w B) (toCon v) xs/\(toCon v = .sl 0 [] \/ ∃b off c,toCon v=conL b off xs.length c /\ ¬M b):=by
 by_cases h0:xs.length=0
 ·have e0:xs=[]:=List.eq_nil_of_length_eq_zero h0
  subst e0
  have:toCon v = .sl 0 []:=by
   cases h with
   |sl0 A n cap hn=>rfl
   |sl a n cap hn cells c hb hc hr=>rfl
  exact⟨.inl ⟨this,rfl⟩,.inl this⟩
 ·have h:Rep w M v (.sl xs.length (xs.map limb)):=h
  generalize hcs:xs.map limb=cells at h
  have hlen:cells.length=xs.length:=by rw[<- hcs,List.length_map]
  cases h with
  |sl0 A n cap hn=>simp at hlen;omega
  |sl a n cap hn cells c hb hc hr=>
   have hcell : ∀i,i<xs.length->w.cell? (a.add i)=some (c i):=fun i hi=>hc i cells[i] (List.getElem?_eq_getElem (by omega))
   have hlt:a.block<w.heap.size:=by
    have:=hcell 0 (by omega)
    exact World.block_lt_of_cell? w a this
   obtain⟨us,ty,fz,ea,hbk,hbm,hget⟩:=cells_at (B:=B) hcell (by omega) (hB _ hb hlt)
   obtain⟨b,off,sp⟩:=a
   cases ea
   have e:toCon (.slice (some ⟨b,off,none⟩) xs.length cap)=conL b off xs.length cap:=by
    unfold toCon
    rw[if_pos (show (Value.slice (some ⟨b,off,none⟩) xs.length cap).oneCell'=true from rfl)]
    obtain⟨k,hk⟩ : ∃k,xs.length=k+1:=⟨xs.length-1,by omega⟩
    rw[hk]
    rfl
   refine⟨.inr ⟨b,off,cap,e,_,hbm,?_,hn⟩,.inr ⟨b,off,cap,e,hb⟩⟩
   refine List.ext_getElem? fun i => ?_
   rcases Nat.lt_or_ge i xs.length with hi|hi
   ·rw[List.getElem?_take_of_lt hi,List.getElem?_drop,hget i hi]
    have hx:cells[i]?=some (limb xs[i]):=by rw[<- hcs,List.getElem?_map,List.getElem?_eq_getElem hi];rfl
    have hr1:=hr i _ hx
    have:c i = .int .u32 xs[i]:=by
     generalize c i=u at hr1
     cases hr1
     rfl
    rw[this,hcs,hx]
    rfl
   ·rw[List.getElem?_eq_none (by rw[List.length_take];omega),List.getElem?_eq_none (by rw[List.length_map];omega)]
end
end Go.Proofs.YtdahehdomajbgaaGreatDoor
namespace Go.Proofs.YtdahehdomajbgaaGreatDoor
open Go.Ev
def noS:InR:=(false,[],[])
theorem ratsC_atS : ∀ {ps:List InR} {k:Nat},k<ps.length -> ∃rest,(ratsC ps).drop (k*3) = .bool (ps.getD k noS).1::natV (ps.getD k noS).2.1::natV (ps.getD k noS).2.2::rest
 | [],_,h=>by simp at h
 |p::ps,0,_=>⟨_,rfl⟩
 |p::ps,k+1,h=>by
  obtain⟨r,this⟩:=ratsC_atS (ps:=ps) (k:=k) (by simpa using h)
  refine⟨r,?_⟩
  rw[ratsC_cons]
  have e : ∀j,(SV.bool p.1::natV p.2.1::natV p.2.2::ratsC ps).drop (j+3)=(ratsC ps).drop j:=fun _=>rfl
  rw[show (k+1)*3=k*3+3 by omega,e,this]
  rfl
def big3 (p:InR):Bool:=decide (3<p.2.1.length)||decide (3<p.2.2.length)
theorem any_takeS {α:Type} (f:α->Bool) (l:List α) (d:α) {i:Nat} (h:i<l.length):(l.take (i+1)).any f=((l.take i).any f||f (l.getD i d)):=by
 rw[List.take_add_one,List.any_append,List.getElem?_eq_getElem h,List.getD_eq_getElem?_getD,List.getElem?_eq_getElem h]
 simp
theorem any_of_getDS {α:Type} (f:α->Bool) (l:List α) (d:α) {i:Nat} (h:i<l.length) (hf:f (l.getD i d)=true):l.any f=true:=by
 refine List.any_eq_true.2 ⟨l.getD i d,?_,hf⟩
 rw[List.getD_eq_getElem?_getD,List.getElem?_eq_getElem h]
 exact List.getElem_mem h
theorem big3_row {ps:List InR} (h:ps.any big3=false) (hok : ∀p∈ps,p.ok):RowC (ratsC ps) (ps.map InR.q) 3:=by
 refine ratsC_row ps fun p hp=>⟨hok p hp,?_⟩
 have h2:=List.any_eq_false.1 h p hp
 unfold big3 at h2
 have h3:(decide (3<p.2.1.length)||decide (3<p.2.2.length))=false:=by simpa using h2
 rw[Bool.or_eq_false_iff]at h3
 have h4:=of_decide_eq_false h3.1
 have h5:=of_decide_eq_false h3.2
 omega
theorem law22_big (ps:List InR) (hl:ps.length<=1099511627776):Go.Ev.Fn CX 4 [.sl ps.length (ratsC ps)] (.bool (ps.any big3)):=by
 have hlen:=ratsC_len ps
 refine fni Tryz.f4 ?_;unfold Tryz.f4;simp only[Option.get!_some]
 repeat (first|simp only[go_sem]|simp (disch:=first|exact oa|fail) only[AX]|refine wki ?_|refine wqn ?_)
 refine vp_loop_inv (fun s=>s.tmp 0 = .sv (.sl ps.length (ratsC ps)) /\ ∃k:Nat,s.tmp 3 = .sv (.int .i64 (k:Int))/\k<=ps.length/\(ps.take k).any big3=false)
  (fun s=>match s.tmp 3 with | .sv (.int _ i)=>ps.length-i.toNat|_=>0) ⟨rfl,0,rfl,by omega,rfl⟩ ?_
 rintro s ⟨i0,k,i3,hk,hb⟩
 by_cases hend:k=ps.length
 ·subst hend
  rw[List.take_length]at hb
  rw[hb]
  repeat (first|simp only[go_sem,i0,i3]|simp (disch:=first|exact oa|fail) only[AX,i0,i3]|refine wki ?_|refine wqn ?_)
 ·obtain⟨rest,g1⟩:=ratsC_atS (ps:=ps) (k:=k) (by omega)
  have gor:=any_takeS big3 ps noS (i:=k) (by omega)
  have gtr:=any_of_getDS big3 ps noS (i:=k) (by omega)
  rw[hb,Bool.false_or]at gor
  generalize hp:ps.getD k noS=p at *
  obtain⟨s,n,d⟩:=p
  simp only at g1
  by_cases c1:3<n.length
  ·rw[gtr (by unfold big3;rw[decide_eq_true c1];rfl)]
   clear gtr gor
   repeat (first|simp only[go_sem,i0,i3,g1,hlen,List.drop_succ_cons,List.drop_zero,List.head?_cons]|simp (disch:=first|exact oa|fail) only[AX,i0,i3,g1,hlen,List.drop_succ_cons,List.drop_zero,List.head?_cons]|refine wki ?_|refine wqn ?_)
  ·by_cases c2:3<d.length
   ·rw[gtr (by unfold big3;rw[decide_eq_true c2,Bool.or_true])]
    clear gtr gor
    repeat (first|simp only[go_sem,i0,i3,g1,hlen,List.drop_succ_cons,List.drop_zero,List.head?_cons]|simp (disch:=first|exact oa|fail) only[AX,i0,i3,g1,hlen,List.drop_succ_cons,List.drop_zero,List.head?_cons]|refine wki ?_|refine wqn ?_)
   ·have hbn:big3 (s,n,d)=false:=by unfold big3;rw[decide_eq_false c1,decide_eq_false c2];rfl
    rw[hbn]at gor
    clear gtr hbn
    repeat (first|simp only[go_sem,i0,i3,g1,hlen,List.drop_succ_cons,List.drop_zero,List.head?_cons]|simp (disch:=first|exact oa|fail) only[AX,i0,i3,g1,hlen,List.drop_succ_cons,List.drop_zero,List.head?_cons]|refine wki ?_|refine wqn ?_)
    exact⟨⟨k+1,rfl,by omega,gor⟩,by omega⟩
def CellY (bm:Nat->Option (List SV)) (cs:List SV) (at0:Nat) (p:InR):Prop := ∃u v,(cs.drop at0).take 3=[.bool p.1,u,v]/\SlX bm u p.2.1/\SlX bm v p.2.2
def RowY (bm:Nat->Option (List SV)) (b off:Nat) (ps:List InR):Prop := ∃cs,bm b=some cs /\ ∀i,i<ps.length->CellY bm cs (off+i*3) (ps.getD i noS)
theorem take3 {cs:List SV} {k:Nat} {a b c:SV} (h:(cs.drop k).take 3=[a,b,c]):(cs.drop k).take 1=[a]/\(cs.drop (k+1)).take 1=[b]/\(cs.drop (k+2)).take 1=[c]:=by
 have e : ∀j,j<3->((cs.drop k).take 3).drop j=(cs.drop (k+j)).take (3-j):=fun j hj=>by rw[List.drop_take,List.drop_drop]
 refine⟨?_,?_,?_⟩
 ·have:=congrArg (List.take 1) h
  rwa [List.take_take]at this
 ·have:=congrArg (List.take 1) (e 1 (by omega))
  rw[h,List.take_take]at this
  exact this.symm
 ·have:=congrArg (List.take 1) (e 2 (by omega))
  rw[h,List.take_take]at this
  exact this.symm
theorem map_q {ps:List InR} {i:Nat} (h:i<ps.length):(ps.map InR.q).getD i 0=(ps.getD i noS).q:=by
 rw[List.getD_eq_getElem?_getD,List.getD_eq_getElem?_getD,List.getElem?_map,List.getElem?_eq_getElem h]
 rfl
theorem RowY.row {bm:Nat->Option (List SV)} {b off:Nat} {ps:List InR} (h:RowY bm b off ps) (hok : ∀p∈ps,p.ok) (hb:ps.any big3=false):RowX bm b off (ps.map InR.q) 500000:=by
 obtain⟨cs,h1,h2⟩:=h
 refine⟨cs,h1,fun i hi => ?_⟩
 rw[List.length_map]at hi
 obtain⟨u,v,e,hu,hv⟩:=h2 i hi
 have hm:ps.getD i noS∈ps:=by rw[List.getD_eq_getElem?_getD,List.getElem?_eq_getElem hi];exact List.getElem_mem hi
 have hk:=hok _ hm
 have h3:(decide (3<(ps.getD i noS).2.1.length)||decide (3<(ps.getD i noS).2.2.length))=false:=by
  have:=List.any_eq_false.1 hb _ hm
  unfold big3 at this
  simpa using this
 rw[Bool.or_eq_false_iff]at h3
 have h4:=of_decide_eq_false h3.1
 have h5:=of_decide_eq_false h3.2
 exact⟨_,u,v,_,_,e,hu,hv,hk.1,hk.2,by omega,by omega,map_q hi⟩
section
variable {ops:Array Oper} {l:List Oper} {dst:Option Nat} {st:St} {Q:St->Prop}
end
end Go.Proofs.YtdahehdomajbgaaGreatDoor
