/- Part 7 of the proof: the evaluator, contracts of functions and their plain laws (joined by program). No condition. -/
import Derived.Test.YtcfjiolldehegaaGreatDoorPart6
set_option linter.unusedVariables false
set_option linter.unusedSimpArgs false
set_option maxRecDepth 100000
namespace Go.Proofs.YtcfjiolldehegaaGreatDoor
open Go.Ev
def D10:List UInt8:=[48,49,50,51,52,53,54,55,56,57]
theorem D10_dig (b:UInt8):D10.contains b=dig b:=by
 have key : ∀n:Nat,n<256->D10.contains (UInt8.ofNat n)=dig (UInt8.ofNat n):=by decide
 have:=key b.toNat b.toNat_lt
 rwa [UInt8.ofNat_toNat]at this
theorem drop_nil {p:UInt8->Bool} {l:List UInt8}:l.dropWhile p=[]↔l.all p=true:=by
 induction l with
 |nil=>simp
 |cons b l ih=>
  rw[List.dropWhile_cons,List.all_cons]
  cases p b<;>simp[ih]
theorem trim_digs (l:List UInt8):(Lib.trimS l D10==[])=digs l:=by
 have e:(fun b=>D10.contains b)=dig:=funext D10_dig
 have h1:Lib.trimS l D10=(l.reverse.dropWhile dig).reverse.dropWhile dig:=by
  unfold Lib.trimS Lib.trimLeftS Lib.trimRightS
  rw[e]
 rw[h1]
 unfold digs
 cases hl:l.all dig with
 |true=>
  have:l.reverse.dropWhile dig=[]:=drop_nil.2 (by rw[List.all_reverse];exact hl)
  rw[this]
  rfl
 |false=>
  have h2:l.reverse.dropWhile dig≠[]:=fun h=>by
   have:=drop_nil.1 h
   rw[List.all_reverse,hl]at this
   cases this
  have h3:((l.reverse.dropWhile dig).reverse.dropWhile dig)≠[]:=fun h=>by
   have h4:=drop_nil.1 h
   rw[List.all_reverse]at h4
   cases hd:l.reverse.dropWhile dig with
   |nil=>exact h2 hd
   |cons b r=>
    have h5:=List.head_dropWhile_not dig (w:=h2)
    rw[hd]at h4
    rw[List.all_cons,Bool.and_eq_true]at h4
    simp only[hd,List.head_cons]at h5
    rw[h4.1]at h5
    cases h5
  cases h:((l.reverse.dropWhile dig).reverse.dropWhile dig) with
  |nil=>exact absurd h h3
  |cons b r=>rfl
theorem x_trim (l:List UInt8) (cs:List UInt8) (h:l.length<=9223372036854775807) (h1:cs.length<4294967281) (h2:cs.all (fun b=>decide (b.toNat<128))=true) :
  Go.Ev.Fn CX 71 [.str (bs l),.str (bs cs)] (.str (bs (Lib.trimS l cs))):=by
 refine⟨1,List.replicate 2 none,?_⟩
 have h3:xTrim [.sv (.str (bs l)),.sv (.str (bs cs))]=some (.sv (.str (bs (Lib.trimS l cs))),List.replicate 2 none):=by
  unfold xTrim
  simp only[bs_toList,bs_size]
  rw[if_pos ⟨h,h1,h2⟩]
 have h4:CX.X 71 ([SV.str (bs l),.str (bs cs)].map Arg.sv)=some (.sv (.str (bs (Lib.trimS l cs))),List.replicate 2 none):=h3
 unfold callN
 rw[stq_sv,h4]
theorem x_trimLeft (l:List UInt8) (cs:List UInt8) (h1:cs.length<4294967281) (h2:cs.all (fun b=>decide (b.toNat<128))=true) :
  Go.Ev.Fn CX 227 [.str (bs l),.str (bs cs)] (.str (bs (Lib.trimLeftS l cs))):=by
 refine⟨1,List.replicate 2 none,?_⟩
 have h3:xTrimLeft [.sv (.str (bs l)),.sv (.str (bs cs))]=some (.sv (.str (bs (Lib.trimLeftS l cs))),List.replicate 2 none):=by
  unfold xTrimLeft
  simp only[bs_toList,bs_size]
  rw[if_pos ⟨h1,h2⟩]
 have h4:CX.X 227 ([SV.str (bs l),.str (bs cs)].map Arg.sv)=some (.sv (.str (bs (Lib.trimLeftS l cs))),List.replicate 2 none):=h3
 unfold callN
 rw[stq_sv,h4]
theorem natD_lt : ∀ {l:List UInt8},digs l=true->natD l<10^l.length:=by
 intro l h
 have:=natLE_lt (l:=l.reverse) (by unfold digs;rw[List.all_reverse];exact h)
 rw[<- natD_rev,List.reverse_reverse,List.length_reverse]at this
 exact this
theorem lim_small {n k:Nat} (h:n<4294967296^k):(lim n).length<=k:=by
 rcases Nat.eq_zero_or_pos (lim n).length with h0|h0
 ·omega
 ·have hne:lim n≠[]:=fun e=>by rw[e]at h0;exact absurd h0 (by simp)
  have h1:=trimL_pos (trimL_lim n) hne
  rw[wth_lim]at h1
  have h2:4294967296^((lim n).length-1)<4294967296^k:=Nat.lt_of_le_of_lt h1 h
  have h3:=(Nat.pow_lt_pow_iff_right (a:=4294967296) (by omega)).1 h2
  omega
theorem lim_ten {n k:Nat} (h:n<10^k):(lim n).length<=k:=by
 refine lim_small (Nat.lt_of_lt_of_le h (Nat.pow_le_pow_left (by omega) k))
theorem lim_ten' {n k:Nat} (h:n<10^k):(lim (n*10)).length<=k+1:=lim_ten (by rw[Nat.pow_succ];omega)
theorem natV_ten:natV (lim 10)=SV.sl 1 [.int .u32 10]:=rfl
theorem natV_zero:natV (lim 0)=SV.sl 0 []:=rfl
def parseV (l:List UInt8):SV:=match natP l with
 |some n => .tup [natV (lim n),.bool true]
 |none => .tup [.sl 0 [],.bool false]
theorem parseV_ok {l:List UInt8} (h0:l≠[]) (h1:l.length<=400) (h2:digs l=true):parseV l = .tup [natV (lim (natD l)),.bool true]:=by
 unfold parseV natP
 rw[if_neg (by simp[h0,h2];exact h1)]
theorem parseV_bad {l:List UInt8} (h:l=[]\/400<l.length\/digs l=false):parseV l = .tup [.sl 0 [],.bool false]:=by
 unfold parseV natP
 rw[if_pos h]
theorem nat_Parse (l:List UInt8) (hl:l.length<=1048576):Go.Ev.Fn CX 225 [.str (bs l)] (parseV l):=by
 have ht:=x_trim l D10 (by omega) (by decide) (by decide)
 unfold D10 at ht
 have htd:=trim_digs l
 unfold D10 at htd
 by_cases h0:l=[]
 ·rw[parseV_bad (.inl h0)]
  subst h0
  refine fni Tryz.f225 ?_;unfold Tryz.f225;simp only[Option.get!_some]
  repeat (first|simp only[go_sem,bs_list,mk_bs,nil_beq]|simp (disch:=first|exact oa|fail) only[AX,bs_list,mk_bs,nil_beq]|refine wki ?_|refine wqn ?_|refine vpd 7 [4,24,25,31] ?_)
 have hb:(l==[])=false:=by simpa using h0
 by_cases h1:400<l.length
 ·rw[parseV_bad (.inr (.inl h1))]
  refine fni Tryz.f225 ?_;unfold Tryz.f225;simp only[Option.get!_some]
  repeat (first|simp only[go_sem,bs_list,mk_bs,hb,bs_size]|simp (disch:=first|exact oa|fail) only[AX,bs_list,mk_bs,hb,bs_size]|refine wki ?_|refine wqn ?_|refine vpd 7 [4,24,25,31] ?_)
 cases h2:digs l with
 |false=>
  rw[h2]at htd
  rw[parseV_bad (.inr (.inr h2))]
  refine fni Tryz.f225 ?_;unfold Tryz.f225;simp only[Option.get!_some]
  repeat (first|simp only[go_sem,bs_list,mk_bs,hb,bs_size,htd,Bool.not_false]|simp (disch:=first|exact oa|fail) only[AX,bs_list,mk_bs,hb,bs_size,htd,Bool.not_false]|refine wki ?_|refine wqn ?_|refine vpd 7 [4,24,25,31] ?_|refine vf_of (by first|exact ht) ?_)
 |true=>
  rw[h2]at htd
  rw[parseV_ok h0 (by omega) h2]
  refine fni Tryz.f225 ?_;unfold Tryz.f225;simp only[Option.get!_some]
  repeat (first|simp only[go_sem,bs_list,mk_bs,hb,bs_size,htd,Bool.not_true]|simp (disch:=first|exact oa|fail) only[AX,bs_list,mk_bs,hb,bs_size,htd,Bool.not_true]|refine wki ?_|refine wqn ?_|refine vpd 7 [4,24,25,31] ?_|refine vf_of (by first|exact ht) ?_)
  refine vp_loop_inv (fun s=>s.tmp 0 = .sv (.str (bs l))/\s.tmp 19 = .sv (.int .i64 (l.length:Int)) /\
    ∃i:Nat,s.tmp 20 = .sv (.int .i64 (i:Int))/\i<=l.length/\((i=0/\s.tmp 4 = .nil/\s.tmp 24 = .undef/\s.tmp 25 = .undef/\s.tmp 31 = .undef)\/(s.tmp 4 = .sv (natV (lim (natD (l.take i)))) /\ ∃x y z,s.tmp 24 = .sv x/\s.tmp 25 = .sv y/\s.tmp 31 = .sv z)))
   (fun s=>match s.tmp 20 with | .sv (.int _ i)=>l.length-i.toNat|_=>0) ⟨rfl,rfl,0,rfl,by omega,.inl ⟨rfl,rfl,rfl,rfl,rfl⟩⟩ ?_
  rintro s2 ⟨i0,i19,i,i20,hi,hc⟩
  by_cases hend:i=l.length
  ·subst hend
   rcases hc with⟨h00,_⟩|⟨i4,_⟩
   ·exact absurd (List.eq_nil_of_length_eq_zero h00) h0
   ·rw[List.take_of_length_le (by omega)]at i4
    repeat (first|simp only[go_sem,i0,i19,i20,i4]|simp (disch:=first|exact oa|fail) only[AX,i0,i19,i20,i4]|refine wki ?_|refine wqn ?_|refine vpd 7 [4,24,25,31] ?_)
  ·have hlt:i<l.length:=by omega
   have hd:dig l[i]=true:=List.all_eq_true.1 h2 _ (List.getElem_mem hlt)
   unfold dig at hd
   simp only[Bool.and_eq_true,decide_eq_true_eq]at hd
   have hg:l[i]?=some l[i]:=List.getElem?_eq_getElem hlt
   have hsnoc:natD (l.take (i+1))=natD (l.take i)*10+(l[i].toNat-48):=by
    rw[List.take_add_one,hg]
    exact natD_snoc _ _
   have hs1:(lim (natD (l.take i))).length<=400:=by
    have:=lim_ten (natD_lt (l:=l.take i) (by unfold digs;exact List.all_eq_true.2 fun x hx=>List.all_eq_true.1 h2 x (List.mem_of_mem_take hx)))
    rw[List.length_take]at this
    omega
   have hs2:(lim (natD (l.take i)*10)).length<=401:=by
    have h3:=lim_ten' (natD_lt (l:=l.take i) (by unfold digs;exact List.all_eq_true.2 fun x hx=>List.all_eq_true.1 h2 x (List.mem_of_mem_take hx)))
    rw[List.length_take]at h3
    omega
   have hs3:(lim (l[i].toNat-48)).length<=2:=lim_ten (by omega)
   have m:=nat_MulL (N:=natD (l.take i)) (D:=10) (by omega) (by decide)
   rw[natV_ten]at m
   have o:=nat_Of (l[i].toNat-48) (by omega)
   have a:=nat_AddL (N:=natD (l.take i)*10) (D:=l[i].toNat-48) (by omega) (by omega)
   rw[<- hsnoc]at a
   generalize l[i]=b at *
   have e1:((b.toNat:Int)-48)=((b.toNat-48:Nat):Int):=by omega
   have e2:IntKind.u8.wrap ((b.toNat-48:Nat):Int)=((b.toNat-48:Nat):Int):=wU8 (by omega)
   have e3:IntKind.u64.wrap ((b.toNat-48:Nat):Int)=((b.toNat-48:Nat):Int):=wU64 (by omega)
   clear hs1 hs2 hs3 hsnoc
   rcases hc with⟨h00,i4,i24,i25,i31⟩|⟨i4,x,y,z,i24,i25,i31⟩
   ·subst h00
    rw[List.take_zero,natD_nil,natV_zero]at m
    rw[List.take_zero,natD_nil]at a
    repeat (first|simp only[go_sem,i0,i19,i20,i4,i24,i25,i31,vo_ix,idxB_bs,hg,e1,e2,e3]|simp (disch:=first|exact oa|fail) only[AX,i0,i19,i20,i4,i24,i25,i31,vo_ix,idxB_bs,hg,e1,e2,e3]|refine wki ?_|refine wqn ?_|refine vpd 7 [4,24,25,31] ?_|refine vf_of (by first|exact m|exact o|exact a) ?_)
    exact⟨⟨1,rfl,by omega,.inr ⟨rfl,_,_,_,rfl,rfl,rfl⟩⟩,by omega⟩
   ·repeat (first|simp only[go_sem,i0,i19,i20,i4,i24,i25,i31,vo_ix,idxB_bs,hg,e1,e2,e3]|simp (disch:=first|exact oa|fail) only[AX,i0,i19,i20,i4,i24,i25,i31,vo_ix,idxB_bs,hg,e1,e2,e3]|refine wki ?_|refine wqn ?_|refine vpd 7 [4,24,25,31] ?_)
    repeat (first|simp only[go_sem,i0,i19,i20,i4,i24,i25,i31,vo_ix,idxB_bs,hg,e1,e2,e3]|simp (disch:=first|exact oa|fail) only[AX,i0,i19,i20,i4,i24,i25,i31,vo_ix,idxB_bs,hg,e1,e2,e3]|refine wki ?_|refine wqn ?_|refine vpd 7 [4,24,25,31] ?_|refine vf_of (by first|exact m|exact o|exact a) ?_)
    exact⟨⟨i+1,rfl,by omega,.inr ⟨rfl,_,_,_,rfl,rfl,rfl⟩⟩,by omega⟩
end Go.Proofs.YtcfjiolldehegaaGreatDoor
namespace Go.Proofs.YtcfjiolldehegaaGreatDoor
open Go.Ev
theorem lite_HasPrefix (l:List UInt8) (c:UInt8):Go.Ev.Fn CX 215 [.str (bs l),.str (bs [c])] (.bool (l.head?==some c)):=by
 refine fni Tryz.f215 ?_;unfold Tryz.f215;simp only[Option.get!_some]
 cases l with
 |nil=>
  repeat (first|simp only[go_sem,bs_size]|simp (disch:=first|exact oa|fail) only[AX,bs_size]|refine wki ?_|refine wqn ?_)
  rfl
 |cons b l=>
  have e:([b]==[c])=(b==c):=by simp
  have e2:((b::l).head?==some c)=(b==c):=by simp
  rw[e2]
  repeat (first|simp only[go_sem,bs_size,bs_extract,bs_list,Nat.sub_zero,e]|simp (disch:=first|exact oa|fail) only[AX,bs_size,bs_extract,bs_list,Nat.sub_zero,e]|refine wki ?_|refine wqn ?_)
theorem lite_CutPrefix (l:List UInt8) (c:UInt8):Go.Ev.Fn CX 287 [.str (bs l),.str (bs [c])] (.tup [.str (bs (if l.head?==some c then l.tail else l)),.bool (l.head?==some c)]):=by
 have h:=lite_HasPrefix l c
 refine fni Tryz.f287 ?_;unfold Tryz.f287;simp only[Option.get!_some]
 cases hc:l.head?==some c with
 |false=>
  rw[hc]at h
  simp only[go_sem]
  refine vf_of (h) ?_;simp only[go_sem,Bool.not_false]
 |true=>
  rw[hc]at h
  cases l with
  |nil=>cases hc
  |cons b l=>
   have e:List.take (l.length+1-1) l=l:=List.take_of_length_le (by omega)
   repeat (first|simp only[go_sem,bs_size,Bool.not_true,bs_extract,List.tail_cons,e]|simp (disch:=first|exact oa|fail) only[AX,bs_size,Bool.not_true,bs_extract,List.tail_cons,e]|refine wki ?_|refine wqn ?_|refine vf_of (by first|exact h) ?_)
theorem str_CutPrefix (l:List UInt8) (c:UInt8):Go.Ev.Fn CX 224 [.str (bs l),.str (bs [c])] (.tup [.str (bs (if l.head?==some c then l.tail else l)),.bool (l.head?==some c)]):=by
 have h:=lite_CutPrefix l c
 refine fni Tryz.f224 ?_;unfold Tryz.f224;simp only[Option.get!_some]
 simp only[go_sem]
 refine vf_of (h) ?_;simp only[go_sem]
theorem pow_lim {k:Nat}:(lim (10^k)).length<=k+1:=lim_ten (Nat.pow_lt_pow_right (by omega) (by omega))
theorem dec_ten (n:Nat) (hn:n<=400):Go.Ev.Fn CX 226 [.int .i64 (n:Int)] (natV (lim (10^n))):=by
 have o1:=nat_Of 1 (by omega)
 have o10:=nat_Of 10 (by omega)
 refine fni Tryz.f226 ?_;unfold Tryz.f226;simp only[Option.get!_some]
 repeat (first|simp only[go_sem]|simp (disch:=first|exact oa|fail) only[AX]|refine wki ?_|refine wqn ?_|refine vf_of (by first|exact o1) ?_)
 refine vp_loop_inv (fun s=>s.tmp 5 = .sv (.int .i64 (n:Int)) /\ ∃i:Nat,s.tmp 6 = .sv (.int .i64 (i:Int))/\i<=n/\s.tmp 3 = .sv (natV (lim (10^i))))
  (fun s=>match s.tmp 6 with | .sv (.int _ i)=>n-i.toNat|_=>0) ⟨rfl,0,rfl,by omega,rfl⟩ ?_
 rintro s2 ⟨i5,i,i6,hi,i3⟩
 by_cases hend:i=n
 ·subst hend
  repeat (first|simp only[go_sem,i5,i6,i3]|simp (disch:=first|exact oa|fail) only[AX,i5,i6,i3]|refine wki ?_|refine wqn ?_)
 ·have hp:=pow_lim (k:=i)
  have m:=nat_MulL (N:=10^i) (D:=10) (by omega) (by decide)
  rw[show 10^i*10=10^(i+1) by rw[Nat.pow_succ]]at m
  generalize 10^i=X at *
  generalize hY:10^(i+1)=Y at *
  repeat (first|simp only[go_sem,i5,i6,i3]|simp (disch:=first|exact oa|fail) only[AX,i5,i6,i3]|refine wki ?_|refine wqn ?_|refine vf_of (by first|exact o10|exact m) ?_)
  exact⟨⟨i+1,rfl,by omega,by rw[hY]⟩,by omega⟩
def noR:SV := .agg [.bool false,.sl 0 [],.sl 0 []]
def decPV (l:List UInt8):SV:=match decP l with
 |some q => .tup [rv q,.int .i64 0]
 |none => .tup [noR,.int .i64 2]
theorem parse_len {l:List UInt8} {n:Nat} (h:natP l=some n):(lim n).length<=400:=by
 unfold natP at h
 split at h
 ·cases h
 ·rename_i hc
  cases h
  have h1 : ¬400<l.length:=fun e=>hc (.inr (.inl e))
  have h2:digs l=true:=by
   cases e:digs l with
   |true=>rfl
   |false=>exact absurd (.inr (.inr e)) hc
  have h3:=lim_ten (natD_lt h2)
  omega
theorem front_len {c:UInt8} {l:List UInt8}:(frontL c l).length<=l.length:=(List.takeWhile_sublist _).length_le
theorem abs_eq (l:List UInt8):(if l.head?==some 45 then l.tail else l)=absP l:=rfl
theorem parseV_some {l:List UInt8} {n:Nat} (h:natP l=some n):parseV l = .tup [natV (lim n),.bool true]:=by unfold parseV;rw[h]
theorem parseV_none {l:List UInt8} (h:natP l=none):parseV l = .tup [natV (lim 0),.bool false]:=by unfold parseV;rw[h];rfl
theorem lim_ne {d:Nat} (h:d≠0):((lim d).length:Int)≠0:=by
 intro e
 have:lim d=[]:=List.eq_nil_of_length_eq_zero (by omega)
 exact h (lim_eq_nil.1 this)
set_option maxHeartbeats 2000000 in
theorem dec_Parse (l:List UInt8) (hl:l.length<=400):Go.Ev.Fn CX 141 [.str (bs l)] (decPV l):=by
 have hp:=str_CutPrefix l 45
 rw[abs_eq,show (l.head?==some 45)=negP l from rfl]at hp
 have ha:(absP l).length<=400:=by
  unfold absP
  split
  ·rw[List.length_tail];omega
  ·exact hl
 generalize hA:absP l=A at *
 have c46:=str_Cut CX_str A 46 (by omega)
 have c47:=str_Cut CX_str A 47 (by omega)
 have f46:=front_len (c:=46) (l:=A)
 have b46:=back_len (c:=46) (l:=A)
 have f47:=front_len (c:=47) (l:=A)
 have b47:=back_len (c:=47) (l:=A)
 generalize hN:negP l=ng at *
 cases h46:A.contains 46 with
 |true=>
  rw[h46]at c46
  have p1:=nat_Parse (backL 46 A) (by omega)
  have p2:=nat_Parse (frontL 46 A++backL 46 A) (by rw[List.length_append];omega)
  generalize hF:frontL 46 A=F at *
  generalize hB:backL 46 A=B at *
  by_cases hF0:F=[]
  ·have hFb:(F==[])=true:=by rw[hF0];rfl
   have e:decPV l = .tup [noR,.int .i64 2]:=by unfold decPV decP;rw[hA];simp only[h46,hF,if_true,hF0]
   rw[e]
   clear e
   have q1 : ∃v b,parseV B = .tup [v,.bool b]:=by
    cases n1:natP B with
    |none=>exact⟨_,_,parseV_none n1⟩
    |some m=>exact⟨_,_,parseV_some n1⟩
   have q2 : ∃v b,parseV (F++B) = .tup [v,.bool b]:=by
    cases n1:natP (F++B) with
    |none=>exact⟨_,_,parseV_none n1⟩
    |some m=>exact⟨_,_,parseV_some n1⟩
   obtain⟨v1,b1,q1⟩:=q1
   obtain⟨v2,b2,q2⟩:=q2
   rw[q1]at p1
   rw[q2]at p2
   refine fni Tryz.f141 ?_;unfold Tryz.f141;simp only[Option.get!_some]
   repeat (first|simp only[go_sem,mk_bs,bs_size,bs_append,bs_list,hFb,noR]|simp (disch:=first|exact oa|fail) only[AX,mk_bs,bs_size,bs_append,bs_list,hFb,noR]|refine wki ?_|refine wqn ?_|refine vf_of (by first|exact hp|exact c46|exact p1|exact p2) ?_)
  ·have hFb:(F==[])=false:=by simpa using hF0
   cases n1:natP B with
   |none=>
    have q2 : ∃v b,parseV (F++B) = .tup [v,.bool b]:=by
     cases n1:natP (F++B) with
     |none=>exact⟨_,_,parseV_none n1⟩
     |some m=>exact⟨_,_,parseV_some n1⟩
    obtain⟨v2,b2,q2⟩:=q2
    rw[parseV_none n1]at p1
    rw[q2]at p2
    have e:decPV l = .tup [noR,.int .i64 2]:=by unfold decPV decP;rw[hA];simp only[h46,hF,hB,if_true,hF0,if_false,n1]
    rw[e]
    clear e
    refine fni Tryz.f141 ?_;unfold Tryz.f141;simp only[Option.get!_some]
    repeat (first|simp only[go_sem,mk_bs,bs_size,bs_append,bs_list,hFb,Bool.not_false,noR]|simp (disch:=first|exact oa|fail) only[AX,mk_bs,bs_size,bs_append,bs_list,hFb,Bool.not_false,noR]|refine wki ?_|refine wqn ?_|refine vf_of (by first|exact hp|exact c46|exact p1|exact p2) ?_)
   |some m=>
    rw[parseV_some n1]at p1
    cases n2:natP (F++B) with
    |none=>
     rw[parseV_none n2]at p2
     have e:decPV l = .tup [noR,.int .i64 2]:=by unfold decPV decP;rw[hA];simp only[h46,hF,hB,if_true,hF0,if_false,n1,n2]
     rw[e]
     clear e
     refine fni Tryz.f141 ?_;unfold Tryz.f141;simp only[Option.get!_some]
     repeat (first|simp only[go_sem,mk_bs,bs_size,bs_append,bs_list,hFb,Bool.not_false,Bool.not_true,noR]|simp (disch:=first|exact oa|fail) only[AX,mk_bs,bs_size,bs_append,bs_list,hFb,Bool.not_false,Bool.not_true,noR]|refine wki ?_|refine wqn ?_|refine vf_of (by first|exact hp|exact c46|exact p1|exact p2) ?_)
    |some n=>
     rw[parseV_some n2]at p2
     have ht:=dec_ten B.length (by omega)
     have o:=rat_OfL (s:=ng) (n:=n) (d:=10^B.length) (by have:=parse_len n2;omega) (by have:=pow_lim (k:=B.length);omega)
     have e:decPV l = .tup [rv (mkRat (sgn ng n) (10^B.length)),.int .i64 0]:=by unfold decPV decP;rw[hA];simp only[h46,hF,hB,if_true,hF0,if_false,n1,n2,hN]
     rw[e]
     clear e
     generalize mkRat (sgn ng n) (10^B.length)=q at *
     refine fni Tryz.f141 ?_;unfold Tryz.f141;simp only[Option.get!_some]
     repeat (first|simp only[go_sem,mk_bs,bs_size,bs_append,bs_list,hFb,Bool.not_true,rv,ratV]|simp (disch:=first|exact oa|fail) only[AX,mk_bs,bs_size,bs_append,bs_list,hFb,Bool.not_true,rv,ratV]|refine wki ?_|refine wqn ?_|refine vf_of (by first|exact hp|exact c46|exact p1|exact p2|exact ht|exact o) ?_)
 |false=>
  rw[h46]at c46
  have p1:=nat_Parse (frontL 47 A) (by omega)
  have hden : ∃D,D=(if A.contains 47 then backL 47 A else [49])/\D.length<=400:=by
   refine⟨_,rfl,?_⟩
   split
   ·omega
   ·decide
  obtain⟨D,hD,hDl⟩:=hden
  have p2:=nat_Parse D (by omega)
  have hd:decPV l=match (match natP (frontL 47 A),natP D with|some n,some d=>if d=0 then none else some (mkRat (sgn ng n) d)|_,_=>none) with
    |some q => .tup [rv q,.int .i64 0]
    |none => .tup [noR,.int .i64 2]:=by
   unfold decPV decP
   rw[hA,hN,h46,hD]
   rfl
  rw[hd]
  clear hd
  generalize frontL 47 A=F at *
  cases n1:natP F with
  |none=>
   have q2 : ∃v b,parseV D = .tup [v,.bool b]:=by
    cases n1:natP D with
    |none=>exact⟨_,_,parseV_none n1⟩
    |some m=>exact⟨_,_,parseV_some n1⟩
   obtain⟨v2,b2,q2⟩:=q2
   rw[parseV_none n1]at p1
   rw[q2]at p2
   dsimp only
   cases h47:A.contains 47 with
   |true=>
    rw[h47]at c47 hD
    simp only[if_true]at hD
    rw[hD]at p2
    refine fni Tryz.f141 ?_;unfold Tryz.f141;simp only[Option.get!_some]
    repeat (first|simp only[go_sem,mk_bs,bs_size,Bool.not_true,bs_list,Bool.not_false,noR]|simp (disch:=first|exact oa|fail) only[AX,mk_bs,bs_size,Bool.not_true,bs_list,Bool.not_false,noR]|refine wki ?_|refine wqn ?_|refine vf_of (by first|exact hp|exact c46|exact c47|exact p1|exact p2) ?_)
   |false=>
    rw[h47]at c47 hD
    simp only[Bool.false_eq_true,if_false]at hD
    rw[hD]at p2
    refine fni Tryz.f141 ?_;unfold Tryz.f141;simp only[Option.get!_some]
    repeat (first|simp only[go_sem,mk_bs,bs_size,Bool.not_false,bs_list,noR]|simp (disch:=first|exact oa|fail) only[AX,mk_bs,bs_size,Bool.not_false,bs_list,noR]|refine wki ?_|refine wqn ?_|refine vf_of (by first|exact hp|exact c46|exact c47|exact p1|exact p2) ?_)
  |some n=>
   rw[parseV_some n1]at p1
   have l1:=parse_len n1
   cases n2:natP D with
   |none=>
    rw[parseV_none n2]at p2
    dsimp only
    cases h47:A.contains 47 with
    |true=>
     rw[h47]at c47 hD
     simp only[if_true]at hD
     rw[hD]at p2
     refine fni Tryz.f141 ?_;unfold Tryz.f141;simp only[Option.get!_some]
     repeat (first|simp only[go_sem,mk_bs,bs_size,Bool.not_true,bs_list,Bool.not_false,noR]|simp (disch:=first|exact oa|fail) only[AX,mk_bs,bs_size,Bool.not_true,bs_list,Bool.not_false,noR]|refine wki ?_|refine wqn ?_|refine vf_of (by first|exact hp|exact c46|exact c47|exact p1|exact p2) ?_)
    |false=>
     rw[h47]at hD
     simp only[Bool.false_eq_true,if_false]at hD
     subst hD
     have:natP [49]=some 1:=rfl
     rw[this]at n2
     cases n2
   |some d=>
    rw[parseV_some n2]at p2
    dsimp only
    have l2:=parse_len n2
    by_cases hd0:d=0
    ·subst hd0
     rw[if_pos rfl]
     dsimp only
     rw[natV_zero]at p2
     cases h47:A.contains 47 with
     |true=>
      rw[h47]at c47 hD
      simp only[if_true]at hD
      rw[hD]at p2
      refine fni Tryz.f141 ?_;unfold Tryz.f141;simp only[Option.get!_some]
      repeat (first|simp only[go_sem,mk_bs,bs_size,Bool.not_true,bs_list,Bool.not_false,noR]|simp (disch:=first|exact oa|fail) only[AX,mk_bs,bs_size,Bool.not_true,bs_list,Bool.not_false,noR]|refine wki ?_|refine wqn ?_|refine vf_of (by first|exact hp|exact c46|exact c47|exact p1|exact p2) ?_)
     |false=>
      rw[h47]at hD
      simp only[Bool.false_eq_true,if_false]at hD
      subst hD
      have:natP [49]=some 1:=rfl
      rw[this]at n2
      cases n2
    ·rw[if_neg hd0]
     dsimp only
     have hne:=lim_ne hd0
     have o:=rat_OfL (s:=ng) (n:=n) (d:=d) (by omega) (by omega)
     generalize mkRat (sgn ng n) d=q at *
     cases h47:A.contains 47 with
     |true=>
      rw[h47]at c47 hD
      simp only[if_true]at hD
      rw[hD]at p2
      refine fni Tryz.f141 ?_;unfold Tryz.f141;simp only[Option.get!_some]
      repeat (first|simp only[go_sem,mk_bs,bs_size,Bool.not_true,bs_list,Bool.not_false,rv,ratV]|simp (disch:=first|exact oa|fail) only[AX,mk_bs,bs_size,Bool.not_true,bs_list,Bool.not_false,rv,ratV]|refine wki ?_|refine wqn ?_|refine vf_of (by first|exact hp|exact c46|exact c47|exact p1|exact p2|exact o) ?_)
     |false=>
      rw[h47]at c47 hD
      simp only[Bool.false_eq_true,if_false]at hD
      rw[hD]at p2
      refine fni Tryz.f141 ?_;unfold Tryz.f141;simp only[Option.get!_some]
      repeat (first|simp only[go_sem,mk_bs,bs_size,Bool.not_false,bs_list,Bool.not_true,rv,ratV]|simp (disch:=first|exact oa|fail) only[AX,mk_bs,bs_size,Bool.not_false,bs_list,Bool.not_true,rv,ratV]|refine wki ?_|refine wqn ?_|refine vf_of (by first|exact hp|exact c46|exact c47|exact p1|exact p2|exact o) ?_)
end Go.Proofs.YtcfjiolldehegaaGreatDoor
namespace Go.Proofs.YtcfjiolldehegaaGreatDoor
open Go.Ev
def sumR (l:List Rat):Rat:=l.foldl (fun a b=>a+b) 0
def meanR (l:List Rat):Rat:=sumR l/((l.length:Int):Rat)
def offR (l:List Rat):List Rat:=l.map fun x=>x-meanR l
def sqR (l:List Rat):Rat:=sumR ((offR l).map fun x=>x*x)
def varR (l:List Rat):Rat:=sqR l/(((l.length:Int)-1:Int):Rat)
theorem foldl_add (l:List Rat) (a:Rat):l.foldl (fun a b=>a+b) a=a+sumR l:=by
 unfold sumR
 induction l generalizing a with
 |nil=>simp only[List.foldl_nil];grind
 |cons x l ih=>simp only[List.foldl_cons];rw[ih (a+x),ih (0+x)];grind
theorem sumR_nil:sumR []=0:=rfl
theorem sumR_cons (x:Rat) (l:List Rat):sumR (x::l)=x+sumR l:=by
 show List.foldl _ (0+x) l=_
 rw[foldl_add];grind
theorem sumR_append (l m:List Rat):sumR (l++m)=sumR l+sumR m:=by
 unfold sumR;rw[List.foldl_append,foldl_add];rfl
theorem sumR_snoc (l:List Rat) (x:Rat):sumR (l++[x])=sumR l+x:=by
 rw[sumR_append,sumR_cons,sumR_nil];grind
theorem take_snoc (l:List Rat) {i:Nat} (h:i<l.length):l.take (i+1)=l.take i++[l.getD i 0]:=by
 rw[List.take_add_one,List.getD_eq_getElem?_getD,List.getElem?_eq_getElem h]
 rfl
theorem sumR_take (l:List Rat) {i:Nat} (h:i<l.length):sumR (l.take (i+1))=sumR (l.take i)+l.getD i 0:=by rw[take_snoc l h,sumR_snoc]
theorem getD_mem {l:List Rat} {i:Nat} (h:i<l.length):l.getD i 0∈l:=by
 rw[List.getD_eq_getElem?_getD,List.getElem?_eq_getElem h];exact List.getElem_mem h
theorem getD_map (l:List Rat) (f:Rat->Rat) {i:Nat} (h:i<l.length):(l.map f).getD i 0=f (l.getD i 0):=by
 rw[List.getD_eq_getElem?_getD,List.getD_eq_getElem?_getD,List.getElem?_map,List.getElem?_eq_getElem h];rfl
theorem sz_sum {L:Nat} (hL:1<=L) : ∀l:List Rat,(∀x∈l,szR x L)->szR (sumR l) ((L+1)*l.length+1):=by
 intro l
 induction l with
 |nil=>intro _;exact szR_zero (by omega)
 |cons x l ih=>
  intro h
  rw[sumR_cons]
  have h1:=ih fun y hy=>h y (List.mem_cons_of_mem _ hy)
  exact szR_mono (szR_add (h x List.mem_cons_self) h1 hL) (by rw[List.length_cons,Nat.mul_succ];omega)
theorem sz_sum12 {L:Nat} {l:List Rat} (hL:1<=L) (h : ∀x∈l,szR x L) (hl:l.length<=12):szR (sumR l) (12*L+13):=
 szR_mono (sz_sum hL l h) (by have:=Nat.mul_le_mul_left (L+1) hl;omega)
theorem sz_take12 {L:Nat} {l:List Rat} (hL:1<=L) (h : ∀x∈l,szR x L) (hl:l.length<=12) (i:Nat):szR (sumR (l.take i)) (12*L+13):=
 sz_sum12 hL (fun x hx=>h x (List.mem_of_mem_take hx)) (by rw[List.length_take];omega)
theorem sz_mean {L:Nat} {l:List Rat} (hL:1<=L) (h : ∀x∈l,szR x L) (hl:l.length<=12):szR (meanR l) (12*L+15):=
 szR_div (M:=2) (sz_sum12 hL h hl) (int_szR (by omega)) (by omega) (by omega)
theorem sz_off {L:Nat} {l:List Rat} (hL:1<=L) (h : ∀x∈l,szR x L) (hl:l.length<=12) : ∀x∈offR l,szR x (13*L+16):=by
 intro x hx
 obtain⟨y,hy,rfl⟩:=List.mem_map.1 hx
 exact szR_mono (szR_sub (h y hy) (sz_mean hL h hl) hL) (by omega)
theorem sz_map {L M:Nat} {l:List Rat} {f:Rat->Rat} (h : ∀x∈l,szR x L) (hf : ∀x,szR x L->szR (f x) M) : ∀x∈l.map f,szR x M:=by
 intro x hx
 obtain⟨y,hy,rfl⟩:=List.mem_map.1 hx
 exact hf y (h y hy)
theorem sz_sq {L:Nat} {l:List Rat} (hL:1<=L) (h : ∀x∈l,szR x L) (hl:l.length<=12):szR (sqR l) (312*L+397):=by
 have h1:=sz_map (f:=fun x=>x*x) (sz_off hL h hl) (fun x hx=>szR_mul hx hx (by omega))
 exact szR_mono (sz_sum12 (by omega) h1 (by rw[List.length_map];unfold offR;rw[List.length_map];exact hl)) (by omega)
def RowC:List SV->List Rat->Nat->Prop
 |cs,[],_=>cs=[]
 |cs,q::l,L => ∃s n d rest,cs = .bool s::natV n::natV d::rest/\RatA (ratV s n d) q L/\RowC rest l L
theorem row_len {L:Nat} : ∀ {l:List Rat} {cs:List SV},RowC cs l L->cs.length=l.length*3
 | [],_,h=>by cases h;rfl
 |q::l,cs,h=>by
  obtain⟨s,n,d,rest,rfl,-,h2⟩:=h
  have:=row_len h2
  simp only[List.length_cons]
  omega
theorem row_one {L:Nat} : ∀ {l:List Rat} {cs:List SV},RowC cs l L->cs.all SV.one=true
 | [],_,h=>by cases h;rfl
 |q::l,cs,h=>by
  obtain⟨s,n,d,rest,rfl,-,h2⟩:=h
  have:=row_one h2
  simp only[List.all_cons,this]
  rfl
theorem row_at {L:Nat} : ∀ {l:List Rat} {cs:List SV} {i:Nat},RowC cs l L->i<l.length -> ∃s n d rest,cs.drop (i*3) = .bool s::natV n::natV d::rest/\RatA (ratV s n d) (l.getD i 0) L
 | [],_,_,_,hi=>by simp at hi
 |q::l,cs,0,h,_=>by
  obtain⟨s,n,d,rest,rfl,h1,h2⟩:=h
  exact⟨s,n,d,rest,rfl,h1⟩
 |q::l,cs,i+1,h,hi=>by
  obtain⟨s,n,d,rest,rfl,h1,h2⟩:=h
  obtain⟨s',n',d',r',h3,h4⟩:=row_at (i:=i) h2 (by simpa using hi)
  refine⟨s',n',d',r',?_,h4⟩
  have e : ∀k,(SV.bool s::natV n::natV d::rest).drop (k+3)=rest.drop k:=fun _=>rfl
  rw[show (i+1)*3=i*3+3 by omega,e,h3]
theorem row_sz {L:Nat} (hL:1<=L) : ∀ {l:List Rat} {cs:List SV},RowC cs l L -> ∀x∈l,szR x L
 | [],_,_,x,hx=>by cases hx
 |q::l,cs,h,x,hx=>by
  obtain⟨s,n,d,rest,rfl,h1,h2⟩:=h
  rcases List.mem_cons.1 hx with rfl|hx
  ·exact szR_of h1 hL
  ·exact row_sz hL h2 x hx
def rvC (q:Rat):List SV:=[.bool (decide (q.num<0)),natV (lim q.num.natAbs),natV (lim q.den)]
def rvsC (l:List Rat):List SV:=l.flatMap rvC
theorem rvsC_nil:rvsC []=[]:=rfl
theorem rvsC_snoc (l:List Rat) (q:Rat):rvsC (l++[q])=rvsC l++rvC q:=by
 unfold rvsC;rw[List.flatMap_append];simp
theorem rvsC_len (l:List Rat):(rvsC l).length=l.length*3:=by
 induction l with
 |nil=>rfl
 |cons x l ih=>show (rvC x++rvsC l).length=_;rw[List.length_append,ih,List.length_cons];show 3+_=_;omega
theorem rvsC_row {L:Nat} : ∀l:List Rat,(∀x∈l,szR x L)->RowC (rvsC l) l L
 | [],_=>rfl
 |q::l,h=>⟨_,_,_,_,rfl,RatA_rv (h q List.mem_cons_self),rvsC_row l fun x hx=>h x (List.mem_cons_of_mem _ hx)⟩
theorem rvsC_at {l:List Rat} {i:Nat} (h:i<l.length) : ∃rest,(rvsC l).drop (i*3) = .bool (decide ((l.getD i 0).num<0))::natV (lim (l.getD i 0).num.natAbs)::natV (lim (l.getD i 0).den)::rest:=by
 induction l generalizing i with
 |nil=>simp at h
 |cons x l ih=>
  cases i with
  |zero=>exact⟨_,rfl⟩
  |succ i=>
   obtain⟨r,this⟩:=ih (i:=i) (by simpa using h)
   have e : ∀k,(rvC x++rvsC l).drop (k+3)=(rvsC l).drop k:=fun _=>rfl
   refine⟨r,?_⟩
   show (rvC x++rvsC l).drop _=_
   rw[show (i+1)*3=i*3+3 by omega,e,this]
   rfl
end Go.Proofs.YtcfjiolldehegaaGreatDoor
namespace Go.Proofs.YtcfjiolldehegaaGreatDoor
open Go.Ev
theorem pm_set (l:List UInt8):Lib.trimLeftS l [43,45]=l.dropWhile isPM:=by
 unfold Lib.trimLeftS
 congr 1
 funext b
 unfold isPM
 simp only[List.contains_cons,List.contains_nil,Bool.or_false]
theorem dec_from : ∀ {l:List UInt8} (a:Nat),digs l=true->Lib.decFrom a l=some (l.foldl (fun a b=>a*10+(b.toNat-48)) a):=by
 intro l
 induction l with
 |nil=>intro a _;rfl
 |cons b l ih=>
  intro a h
  unfold digs at h
  rw[List.all_cons,Bool.and_eq_true]at h
  have hb:=h.1
  unfold dig at hb
  simp only[Bool.and_eq_true,decide_eq_true_eq]at hb
  have hd:Lib.digitVal b=some (b.toNat-48):=by unfold Lib.digitVal;rw[if_pos hb]
  rw[Lib.decFrom,hd]
  exact ih _ h.2
theorem dec_nat {l:List UInt8} (h0:l≠[]) (h:digs l=true):Lib.decNat l=some (natD l):=by
 unfold Lib.decNat
 rw[if_neg (by simpa using h0),dec_from 0 h]
 rfl
theorem atoi_is {l:List UInt8} (h1:l.length-(l.dropWhile isPM).length<=1) (h2:1<=(l.dropWhile isPM).length) (h3:digs (l.dropWhile isPM)=true) :
  Lib.atoi l=some (if l.head?=some 45 then - (natD (l.dropWhile isPM):Int) else (natD (l.dropWhile isPM):Int)):=by
 cases l with
 |nil=>simp at h2
 |cons b r=>
  cases hb:isPM b with
  |false=>
   rw[List.dropWhile_cons,hb]at h2 h3 ⊢
   simp only[Bool.false_eq_true,if_false]at h2 h3 ⊢
   unfold isPM at hb
   rw[Bool.or_eq_false_iff]at hb
   have e45 : ¬b=45:=by simpa using hb.2
   rw[Lib.atoi,hb.1,hb.2,dec_nat (by simp) h3]
   simp[e45]
  |true=>
   rw[List.dropWhile_cons,hb]at h1 h2 h3 ⊢
   simp only[if_true]at h1 h2 h3 ⊢
   have hr:r.dropWhile isPM=r:=by
    have hle:=(List.dropWhile_sublist (l:=r) isPM).length_le
    have:(r.dropWhile isPM).length=r.length:=by simp at h1;omega
    exact(List.dropWhile_sublist isPM).eq_of_length this
   rw[hr]at h2 h3 ⊢
   have h0:r≠[]:=fun e=>by subst e;simp at h2
   rw[Lib.atoi,dec_nat h0 h3]
   unfold isPM at hb
   rw[Bool.or_eq_true]at hb
   rcases hb with hb|hb
   ·have e:b=43:=by simpa using hb
    subst e
    rfl
   ·have e:b=45:=by simpa using hb
    subst e
    rfl
theorem x_atoi {l:List UInt8} {v:Int} (h:l.length<=18) (hv:Lib.atoi l=some v):Go.Ev.Fn CX 72 [.str (bs l)] (.tup [.int .i64 v,.con .nilIface]):=by
 refine⟨1,List.replicate 1 none,?_⟩
 have h3:xAtoi [.sv (.str (bs l))]=some (.sv (.tup [.int .i64 v,.con .nilIface]),List.replicate 1 none):=by
  unfold xAtoi
  simp only[bs_toList,bs_size,hv]
  rw[if_pos h]
 have h4:CX.X 72 ([SV.str (bs l)].map Arg.sv)=some (.sv (.tup [.int .i64 v,.con .nilIface]),List.replicate 1 none):=h3
 unfold callN
 rw[stq_sv,h4]
theorem data_exponent (l:List UInt8) (hl:l.length<=1048576) : ∃k:Int,Go.Ev.Fn CX 142 [.str (bs l)] (.tup [.int .i64 k,.bool (expP l).isSome]) /\ ∀v,expP l=some v->v=k /\ -30<=k/\k<=30:=by
 have htl:=x_trimLeft l [43,45] (by decide) (by decide)
 rw[pm_set]at htl
 have hle:=(List.dropWhile_sublist (l:=l) isPM).length_le
 have ht:=x_trim (l.dropWhile isPM) D10 (by omega) (by decide) (by decide)
 have htd:=trim_digs (l.dropWhile isPM)
 unfold D10 at ht htd
 by_cases hc:l.length-(l.dropWhile isPM).length>1\/(l.dropWhile isPM).length<1\/(l.dropWhile isPM).length>2\/digs (l.dropWhile isPM)=false
 ·have e:expP l=none:=by unfold expP;rw[if_pos hc]
  rw[e]
  refine⟨0,?_,fun v h=>by cases h⟩
  rw[Option.isSome_none]
  clear e
  generalize hd:l.dropWhile isPM=d at *
  by_cases h1:l.length-d.length>1
  ·refine fni Tryz.f142 ?_;unfold Tryz.f142;simp only[Option.get!_some]
   repeat (first|simp only[go_sem,mk_bs,bs_size]|simp (disch:=first|exact oa|fail) only[AX,mk_bs,bs_size]|refine wki ?_|refine wqn ?_|refine vf_of (by first|exact htl) ?_)
  by_cases h2:d.length<1
  ·refine fni Tryz.f142 ?_;unfold Tryz.f142;simp only[Option.get!_some]
   repeat (first|simp only[go_sem,mk_bs,bs_size]|simp (disch:=first|exact oa|fail) only[AX,mk_bs,bs_size]|refine wki ?_|refine wqn ?_|refine vf_of (by first|exact htl) ?_)
  by_cases h3:d.length>2
  ·refine fni Tryz.f142 ?_;unfold Tryz.f142;simp only[Option.get!_some]
   repeat (first|simp only[go_sem,mk_bs,bs_size]|simp (disch:=first|exact oa|fail) only[AX,mk_bs,bs_size]|refine wki ?_|refine wqn ?_|refine vf_of (by first|exact htl) ?_)
  ·have h4:digs d=false:=by
    rcases hc with h|h|h|h
    ·exact absurd h h1
    ·exact absurd h h2
    ·exact absurd h h3
    ·exact h
   rw[h4]at htd
   refine fni Tryz.f142 ?_;unfold Tryz.f142;simp only[Option.get!_some]
   repeat (first|simp only[go_sem,mk_bs,bs_size,bs_list,htd,Bool.not_false]|simp (disch:=first|exact oa|fail) only[AX,mk_bs,bs_size,bs_list,htd,Bool.not_false]|refine wki ?_|refine wqn ?_|refine vf_of (by first|exact htl|exact ht) ?_)
 ·have e:expP l=if natD (l.dropWhile isPM)<=30 then some (if l.head?=some 45 then - (natD (l.dropWhile isPM):Int) else (natD (l.dropWhile isPM):Int)) else none:=by unfold expP;rw[if_neg hc]
  rw[e]
  clear e
  simp only[not_or,Nat.not_lt]at hc
  obtain⟨h1,h2,h3,h4⟩:=hc
  have h4:digs (l.dropWhile isPM)=true:=by simpa using h4
  have ha:=x_atoi (l:=l) (by omega) (atoi_is (by omega) (by omega) h4)
  rw[h4]at htd
  have hn:natD (l.dropWhile isPM)<100:=by
   have:=natD_lt h4
   have h5:10^(l.dropWhile isPM).length<=10^2:=Nat.pow_le_pow_right (by omega) (by omega)
   omega
  generalize natD (l.dropWhile isPM)=n at *
  generalize hd:l.dropWhile isPM=d at *
  have hv:(if l.head?=some 45 then - (n:Int) else (n:Int)).natAbs=n:=by split<;>omega
  generalize (if l.head?=some 45 then - (n:Int) else (n:Int))=v at *
  have e1:IntKind.i64.wrap (0-v) = -v:=by rw[wI64 (by omega)];omega
  have e2:(if -v>v then -v else v)=(n:Int):=by split<;>omega
  refine⟨v,?_,fun u hu=>by
   split at hu
   ·cases hu;omega
   ·cases hu⟩
  by_cases hn30:n<=30
  ·rw[if_pos hn30,Option.isSome_some]
   have e3:decide ((n:Int)<=30)=true:=decide_eq_true (by omega)
   refine fni Tryz.f142 ?_;unfold Tryz.f142;simp only[Option.get!_some]
   repeat (first|simp only[go_sem,mk_bs,bs_size,bs_list,htd,Bool.not_true,isCst,e1,e2,e3]|simp (disch:=first|exact oa|fail) only[AX,mk_bs,bs_size,bs_list,htd,Bool.not_true,isCst,e1,e2,e3]|refine wki ?_|refine wqn ?_|refine vf_of (by first|exact htl|exact ht|exact ha) ?_)
  ·rw[if_neg hn30,Option.isSome_none]
   have e3:decide ((n:Int)<=30)=false:=decide_eq_false (by omega)
   refine fni Tryz.f142 ?_;unfold Tryz.f142;simp only[Option.get!_some]
   repeat (first|simp only[go_sem,mk_bs,bs_size,bs_list,htd,Bool.not_true,isCst,e1,e2,e3]|simp (disch:=first|exact oa|fail) only[AX,mk_bs,bs_size,bs_list,htd,Bool.not_true,isCst,e1,e2,e3]|refine wki ?_|refine wqn ?_|refine vf_of (by first|exact htl|exact ht|exact ha) ?_)
theorem sz_ten (k:Nat) (h:k<=60):szR ((10:Rat)^k) 61:=by
 have e:((10:Rat)^k)=((10^k:Nat):Rat):=by simp
 rw[e]
 refine⟨?_,?_⟩
 ·have:=pow_lim (k:=k)
  simpa using Nat.le_trans this (by omega)
 ·simp
  decide
theorem data_ten (n:Nat) (hn:n<=60):Go.Ev.Fn CX 145 [.int .i64 (n:Int)] (rv ((10:Rat)^n)):=by
 have o1:=rat_Int 1 (by omega)
 have o10:=rat_Int 10 (by omega)
 have z10:szR ((10:Int):Rat) 1:=⟨by decide,by decide⟩
 refine fni Tryz.f145 ?_;unfold Tryz.f145;simp only[Option.get!_some]
 repeat (first|simp only[go_sem,rv,ratV]|simp (disch:=first|exact oa|fail) only[AX,rv,ratV]|refine wki ?_|refine wqn ?_|refine vpd 4 [] ?_|refine vf_of (by first|exact o1) ?_)
 refine vp_loop_inv (fun s=>s.tmp 2 = .ptr 2 0 0/\s.obj 2 0=some [.bool false,.sl 0 [],.sl 0 []]/\s.tmp 3 = .ptr 3 0 0/\s.tmp 5 = .sv (.int .i64 (n:Int)) /\
   ∃i:Nat,s.tmp 6 = .sv (.int .i64 (i:Int))/\i<=n/\s.obj 3 0=some (rvC ((10:Rat)^i)))
  (fun s=>match s.tmp 6 with | .sv (.int _ i)=>n-i.toNat|_=>0) ?_ ?_
 ·have e0:rvC ((10:Rat)^0)=[.bool false,natV (lim 1),natV (lim 1)]:=by simp[rvC]
  exact⟨rfl,rfl,rfl,rfl,0,rfl,by omega,by rw[e0];rfl⟩
 rintro s2 ⟨i2,o2,i3,i5,i,i6,hi,o3⟩
 by_cases hend:i=n
 ·subst hend
  generalize (10:Rat)^i=q at *
  repeat (first|simp only[go_sem,i2,o2,i3,i5,i6,o3,rvC]|simp (disch:=first|exact oa|fail) only[AX,i2,o2,i3,i5,i6,o3,rvC]|refine wki ?_|refine wqn ?_|refine vpd 4 [] ?_)
  first|rfl|skip
 ·have z:=sz_ten i (by omega)
  have m:=rat_Mul (RatA_rv z) (RatA_rv z10) (by omega) (by omega) (by omega)
  rw[show (10:Rat)^i*((10:Int):Rat)=(10:Rat)^(i+1) by rw[Rat.pow_succ];rfl]at m
  generalize hp:(10:Rat)^i=q at *
  generalize hp2:(10:Rat)^(i+1)=q2 at *
  unfold rvC at o3
  unfold rv ratV at m o10
  repeat (first|simp only[go_sem,i2,o2,i3,i5,i6,o3]|simp (disch:=first|exact oa|fail) only[AX,i2,o2,i3,i5,i6,o3]|refine wki ?_|refine wqn ?_|refine vpd 4 [] ?_|refine vf_of (by first|exact o10|exact m) ?_)
  exact⟨⟨i+1,rfl,by omega,by rw[hp2];rfl⟩,by omega⟩
def ratS (v:SV):Prop := ∃s n1 c1 n2 c2,v = .agg [.bool s,.sl n1 c1,.sl n2 c2]
theorem ratS_rv (q:Rat):ratS (rv q):=⟨_,_,_,_,_,rfl⟩
theorem szR_decP {l:List UInt8} {q:Rat} (h:decP l=some q) (hl:l.length<=400):szR q 401:=by
 have key : ∀ (s:Bool) (n d:Nat),(lim n).length<=400->(lim d).length<=401->szR (mkRat (sgn s n) d) 401:=fun s n d h1 h2=>szR_of (v:=ratV s (lim n) (lim d)) ⟨s,lim n,lim d,rfl,okL_lim _,okL_lim _,by omega,h2,by rw[wth_lim,wth_lim]⟩ (by omega)
 have ha:(absP l).length<=400:=by
  unfold absP
  split
  ·rw[List.length_tail];omega
  ·exact hl
 unfold decP at h
 split at h
 ·split at h
  ·cases h
  ·split at h
   ·rename_i n m h1 h2
    cases h
    have:=back_len (c:=46) (l:=absP l)
    have h3:=pow_lim (k:=(backL 46 (absP l)).length)
    exact key _ _ _ (parse_len h2) (by omega)
   ·cases h
 ·split at h
  ·rename_i n d h1 h2
   split at h
   ·cases h
   ·cases h
    exact key _ _ _ (parse_len h1) (by have:=parse_len h2;omega)
  ·cases h
theorem str_Contains (l:List UInt8) (c:UInt8):Go.Ev.Fn CX 143 [.str (bs l),.str (bs [c])] (.bool (l.contains c)):=by
 have hx:=str_Index CX_str l c
 refine fni Tryz.f143 ?_;unfold Tryz.f143;simp only[Option.get!_some]
 rcases index_cases c l with⟨h1,h2,_⟩|⟨i,h1,h2,_⟩
 ·rw[h2]at hx
  rw[h1]
  repeat (first|simp only[go_sem]|simp (disch:=first|exact oa|fail) only[AX]|refine wki ?_|refine wqn ?_|refine vf_of (by first|exact hx) ?_)
  first|rfl|skip
 ·rw[h2]at hx
  rw[h1]
  repeat (first|simp only[go_sem]|simp (disch:=first|exact oa|fail) only[AX]|refine wki ?_|refine wqn ?_|refine vf_of (by first|exact hx) ?_)
  first|rfl|skip
set_option maxHeartbeats 2000000 in
theorem data_Number (l:List UInt8) (hl:l.length<=1048576) : ∃v,ratS v/\Go.Ev.Fn CX 75 [.str (bs l)] (.tup [v,.int .i64 ((numP l).1:Int)])/\((numP l).1=0->v=rv (numP l).2/\szR (numP l).2 500):=by
 have o0:=rat_Int 0 (by omega)
 have s0 : ∀e:Nat,e≠0->(e=0->rv ((0:Int):Rat)=rv (0:Rat)/\szR 0 500):=fun e h1 h2=>absurd h2 h1
 by_cases h60:60<l.length
 ·have e:numP l=(3,0):=by unfold numP;rw[if_pos h60]
  rw[e]
  refine⟨_,ratS_rv ((0:Int):Rat),?_,fun h=>by cases h⟩
  unfold rv ratV at o0
  refine fni Tryz.f75 ?_;unfold Tryz.f75;simp only[Option.get!_some]
  repeat (first|simp only[go_sem,bs_size,rv,ratV]|simp (disch:=first|exact oa|fail) only[AX,bs_size,rv,ratV]|refine wki ?_|refine wqn ?_|refine vpd 11 [] ?_|refine vpd 13 [] ?_|refine vf_of (by first|exact o0) ?_)
  first|rfl|skip
 have c101:=str_Cut CX_str l 101 (by omega)
 have c47:=str_Contains l 47
 have f1:=front_len (c:=101) (l:=l)
 have b1:=back_len (c:=101) (l:=l)
 have hp:=dec_Parse (frontL 101 l) (by omega)
 cases h101:l.contains 101 with
 |false=>
  have hfr:frontL 101 l=l:=by
   rcases index_cases 101 l with⟨_,_,h,_⟩|⟨_,h,_⟩
   ·exact h
   ·rw[h101]at h;cases h
  rw[h101]at c101
  rw[hfr]at c101 hp
  cases hd:decP l with
  |some q=>
   have e:numP l=(0,q):=by unfold numP;rw[if_neg h60,h101,hd];rfl
   have e2:decPV l = .tup [rv q,.int .i64 0]:=by unfold decPV;rw[hd]
   rw[e]
   rw[e2]at hp
   refine⟨_,ratS_rv q,?_,fun _=>⟨rfl,?_⟩⟩
   ·unfold rv ratV at hp ⊢
    refine fni Tryz.f75 ?_;unfold Tryz.f75;simp only[Option.get!_some]
    repeat (first|simp only[go_sem,bs_size,mk_bs,Bool.not_false]|simp (disch:=first|exact oa|fail) only[AX,bs_size,mk_bs,Bool.not_false]|refine wki ?_|refine wqn ?_|refine vpd 11 [] ?_|refine vpd 13 [] ?_|refine vf_of (by first|exact c101|exact hp) ?_)
    first|rfl|skip
   ·have:=szR_decP hd (by omega)
    exact⟨by have:=this.1;simp only;omega,by have:=this.2;simp only;omega⟩
  |none=>
   have e:numP l=(2,0):=by unfold numP;rw[if_neg h60,h101,hd];rfl
   have e2:decPV l = .tup [noR,.int .i64 2]:=by unfold decPV;rw[hd]
   rw[e]
   rw[e2]at hp
   unfold noR at hp
   refine⟨noR,⟨_,_,_,_,_,rfl⟩,?_,fun h=>by cases h⟩
   unfold noR
   refine fni Tryz.f75 ?_;unfold Tryz.f75;simp only[Option.get!_some]
   repeat (first|simp only[go_sem,bs_size,mk_bs,Bool.not_false]|simp (disch:=first|exact oa|fail) only[AX,bs_size,mk_bs,Bool.not_false]|refine wki ?_|refine wqn ?_|refine vpd 11 [] ?_|refine vpd 13 [] ?_|refine vf_of (by first|exact c101|exact hp) ?_)
   first|rfl|skip
 |true=>
  rw[h101]at c101
  obtain⟨k,hk,hkv⟩:=data_exponent (backL 101 l) (by omega)
  cases hd:decP (frontL 101 l) with
  |none=>
   have e:numP l=(2,0):=by unfold numP;rw[if_neg h60,h101,hd];rfl
   have e2:decPV (frontL 101 l) = .tup [noR,.int .i64 2]:=by unfold decPV;rw[hd]
   rw[e]
   rw[e2]at hp
   unfold noR at hp
   refine⟨_,ratS_rv ((0:Int):Rat),?_,fun h=>by cases h⟩
   unfold rv ratV at o0
   generalize (expP (backL 101 l)).isSome=bb at *
   refine fni Tryz.f75 ?_;unfold Tryz.f75;simp only[Option.get!_some]
   repeat (first|simp only[go_sem,bs_size,mk_bs,Bool.not_true,rv,ratV]|simp (disch:=first|exact oa|fail) only[AX,bs_size,mk_bs,Bool.not_true,rv,ratV]|refine wki ?_|refine wqn ?_|refine vpd 11 [] ?_|refine vpd 13 [] ?_|refine vf_of (by first|exact c101|exact hp|exact hk|exact o0) ?_)
   first|rfl|skip
  |some q=>
   have e2:decPV (frontL 101 l) = .tup [rv q,.int .i64 0]:=by unfold decPV;rw[hd]
   rw[e2]at hp
   have zq:=szR_decP hd (by omega)
   cases hx:expP (backL 101 l) with
   |none=>
    have e:numP l=(2,0):=by unfold numP;rw[if_neg h60,h101,hd,hx];rfl
    rw[e]
    rw[hx,Option.isSome_none]at hk
    refine⟨_,ratS_rv ((0:Int):Rat),?_,fun h=>by cases h⟩
    unfold rv ratV at o0 hp
    refine fni Tryz.f75 ?_;unfold Tryz.f75;simp only[Option.get!_some]
    repeat (first|simp only[go_sem,bs_size,mk_bs,Bool.not_true,Bool.not_false,rv,ratV]|simp (disch:=first|exact oa|fail) only[AX,bs_size,mk_bs,Bool.not_true,Bool.not_false,rv,ratV]|refine wki ?_|refine wqn ?_|refine vpd 11 [] ?_|refine vpd 13 [] ?_|refine vf_of (by first|exact c101|exact hp|exact hk|exact o0) ?_)
    first|rfl|skip
   |some v=>
    obtain⟨rfl,hk1,hk2⟩:=hkv v hx
    rw[hx,Option.isSome_some]at hk
    cases h47:l.contains 47 with
    |true=>
     have e:numP l=(2,0):=by unfold numP;rw[if_neg h60,h101,hd,hx,h47];rfl
     rw[e]
     rw[h47]at c47
     refine⟨_,ratS_rv ((0:Int):Rat),?_,fun h=>by cases h⟩
     unfold rv ratV at o0 hp
     refine fni Tryz.f75 ?_;unfold Tryz.f75;simp only[Option.get!_some]
     repeat (first|simp only[go_sem,bs_size,mk_bs,Bool.not_true,rv,ratV]|simp (disch:=first|exact oa|fail) only[AX,bs_size,mk_bs,Bool.not_true,rv,ratV]|refine wki ?_|refine wqn ?_|refine vpd 11 [] ?_|refine vpd 13 [] ?_|refine vf_of (by first|exact c101|exact hp|exact hk|exact c47|exact o0) ?_)
     first|rfl|skip
    |false=>
     have e:numP l=(0,q*tenR v):=by unfold numP;rw[if_neg h60,h101,hd,hx,h47];rfl
     rw[e]
     rw[h47]at c47
     have ht:=data_ten v.natAbs (by omega)
     have zt:=sz_ten v.natAbs (by omega)
     by_cases hneg:v<0
     ·have e5:tenR v=1/(10:Rat)^v.natAbs:=by unfold tenR;rw[if_pos hneg]
      have hm:=rat_Div (RatA_rv zq) (RatA_rv zt) (by omega) (by omega) (by omega)
      have e6:q/(10:Rat)^v.natAbs=q*tenR v:=by rw[e5,Rat.div_def,Rat.div_def,Rat.one_mul]
      have zd:=szR_div zq zt (by omega) (by omega)
      rw[e6]at hm zd
      refine⟨_,ratS_rv (q*tenR v),?_,fun _=>⟨rfl,⟨by have:=zd.1;simp only;omega,by have:=zd.2;simp only;omega⟩⟩⟩
      have e7:(v.natAbs:Int)=0-v:=by omega
      rw[e7]at ht
      generalize (10:Rat)^v.natAbs=t at *
      generalize q*tenR v=r at *
      unfold rv ratV at o0 hp hm ⊢
      refine fni Tryz.f75 ?_;unfold Tryz.f75;simp only[Option.get!_some]
      repeat (first|simp only[go_sem,bs_size,mk_bs,Bool.not_true]|simp (disch:=first|exact oa|fail) only[AX,bs_size,mk_bs,Bool.not_true]|refine wki ?_|refine wqn ?_|refine vpd 11 [] ?_|refine vpd 13 [] ?_|refine vf_of (by first|exact c101|exact hp|exact hk|exact c47) ?_)
      repeat (first|simp only[go_sem,rv,ratV]|simp (disch:=first|exact oa|fail) only[AX,rv,ratV]|refine wki ?_|refine wqn ?_|refine vpd 11 [] ?_|refine vpd 13 [] ?_|refine vf_of (by first|exact ht|exact hm) ?_)
      first|rfl|skip
     ·have e5:tenR v=(10:Rat)^v.natAbs:=by unfold tenR;rw[if_neg hneg]
      have hm:=rat_Mul (RatA_rv zq) (RatA_rv zt) (by omega) (by omega) (by omega)
      have zd:=szR_mul zq zt (by omega)
      rw[e5]
      refine⟨_,ratS_rv (q*(10:Rat)^v.natAbs),?_,fun _=>⟨rfl,⟨by have:=zd.1;simp only;omega,by have:=zd.2;simp only;omega⟩⟩⟩
      have e7:v=(v.natAbs:Int):=by omega
      generalize (10:Rat)^v.natAbs=t at *
      generalize q*t=r at *
      generalize hm':v.natAbs=m at *
      subst e7
      unfold rv ratV at o0 hp hm ⊢
      refine fni Tryz.f75 ?_;unfold Tryz.f75;simp only[Option.get!_some]
      repeat (first|simp only[go_sem,bs_size,mk_bs,Bool.not_true]|simp (disch:=first|exact oa|fail) only[AX,bs_size,mk_bs,Bool.not_true]|refine wki ?_|refine wqn ?_|refine vpd 11 [] ?_|refine vpd 13 [] ?_|refine vf_of (by first|exact c101|exact hp|exact hk|exact c47) ?_)
      repeat (first|simp only[go_sem,rv,ratV]|simp (disch:=first|exact oa|fail) only[AX,rv,ratV]|refine wki ?_|refine wqn ?_|refine vpd 11 [] ?_|refine vpd 13 [] ?_|refine vf_of (by first|exact ht|exact hm) ?_)
      first|rfl|skip
end Go.Proofs.YtcfjiolldehegaaGreatDoor
namespace Go.Proofs.YtcfjiolldehegaaGreatDoor
open Go.Ev
def ngB (b:UInt8):Bool := !gapB b
theorem toks_skip (r:List UInt8):toks [] r=toks [] (r.dropWhile gapB):=by
 induction r with
 |nil=>rfl
 |cons b r ih=>
  rw[List.dropWhile_cons]
  cases h:gapB b with
  |true=>
   rw[toks,h]
   simpa using ih
  |false=>rfl
theorem toks_cut {b:UInt8} {r:List UInt8} (hb:gapB b=false):toks [] (b::r)=(b::r).takeWhile ngB::toks [] ((b::r).dropWhile ngB):=by
 have key : ∀ (r cur:List UInt8),cur≠[]->toks cur r=(cur.reverse++r.takeWhile ngB)::toks [] (r.dropWhile ngB):=by
  intro r
  induction r with
  |nil=>intro cur hc;simp[toks,hc]
  |cons x r ih=>
   intro cur hc
   rw[toks,List.takeWhile_cons,List.dropWhile_cons]
   unfold ngB
   cases hx:gapB x with
   |true=>
    simp only[if_true,Bool.not_true,Bool.false_eq_true,if_false,List.append_nil]
    rw[if_neg hc,toks,hx]
    simp
   |false=>
    simp only[Bool.false_eq_true,if_false,Bool.not_false,if_true]
    rw[ih (x::cur) (by simp)]
    unfold ngB
    simp
 rw[toks,hb]
 simp only[Bool.false_eq_true,if_false]
 rw[key r [b] (by simp),List.takeWhile_cons,List.dropWhile_cons]
 unfold ngB
 simp[hb]
def runA (qs:List Rat) (ts:List (List UInt8)):Nat×List Rat:=match runP ts with
 |(0,l)=>(0,qs++l)
 |(e,_)=>(e,[])
theorem runA_nil (qs:List Rat):runA qs []=(0,qs):=by simp[runA,runP]
theorem runA_cons_ok {qs:List Rat} {t:List UInt8} {r:List (List UInt8)} (h:(numP t).1=0):runA qs (t::r)=runA (qs++[(numP t).2]) r:=by
 unfold runA
 rw[runP]
 cases hq:numP t with
 |mk e q=>
  rw[hq]at h
  cases h
  dsimp only
  cases runP r with
  |mk e2 l=>
   cases e2 with
   |zero=>simp
   |succ n=>rfl
theorem runA_cons_bad {qs:List Rat} {t:List UInt8} {r:List (List UInt8)} (h:(numP t).1≠0):runA qs (t::r)=((numP t).1,[]):=by
 unfold runA
 rw[runP]
 cases hq:numP t with
 |mk e q=>
  rw[hq]at h
  cases e with
  |zero=>exact absurd rfl h
  |succ n=>rfl
def finP (r:Nat×List Rat):Nat×List Rat:=match r with
 |(0,x)=>if 256<x.length then (3,[]) else (0,x)
 |(e,_)=>(e,[])
theorem parse_runA (l:List UInt8):parseP l=finP (runA [] (toks [] (plainL false l))):=by
 unfold parseP runA finP
 cases runP (toks [] (plainL false l)) with
 |mk e x=>cases e<;>rfl
theorem runP_sz : ∀ {ts:List (List UInt8)},∀q∈(runP ts).2,szR q 500:=by
 intro ts
 induction ts with
 |nil=>intro q hq;simp[runP]at hq
 |cons t r ih=>
  intro q hq
  unfold runP at hq
  split at hq
  ·rename_i q0 hq0
   split at hq
   ·rename_i l0 hl0
    rcases List.mem_cons.1 hq with h|h
    ·subst h
     have ht : ¬60<t.length:=fun h60=>by
      have:numP t=(3,0):=by unfold numP;rw[if_pos h60]
      rw[this]at hq0
      cases hq0
     obtain⟨v,_,_,h⟩:=data_Number t (by omega)
     rw[hq0]at h
     exact(h rfl).2
    ·rw[hl0]at ih
     exact ih q h
   ·simp at hq
  ·simp at hq
theorem parse_sz {l:List UInt8} : ∀q∈(parseP l).2,szR q 500:=by
 intro q hq
 unfold parseP at hq
 split at hq
 ·rename_i x hx
  split at hq
  ·simp at hq
  ·have:=runP_sz (ts:=toks [] (plainL false l)) q
   rw[hx]at this
   exact this hq
 ·simp at hq
theorem gap_index (b:UInt8) : ∃z:Int,Lib.indexByte [32,44,10] b=z /\ -1<=z/\z<3/\(gapB b=true->0<=z)/\(gapB b=false->z<0):=by
 refine⟨_,rfl,?_⟩
 have key : ∀n:Nat,n<256->(-1<=Lib.indexByte [32,44,10] (UInt8.ofNat n)/\Lib.indexByte [32,44,10] (UInt8.ofNat n)<3/\(gapB (UInt8.ofNat n)=true->0<=Lib.indexByte [32,44,10] (UInt8.ofNat n))/\(gapB (UInt8.ofNat n)=false->Lib.indexByte [32,44,10] (UInt8.ofNat n)<0)):=by decide
 have:=key b.toNat b.toNat_lt
 rwa [UInt8.ofNat_toNat]at this
theorem str_IndexByte (s:List UInt8) (b:UInt8):Go.Ev.Fn CX 126 [.str (bs s),.int .u8 (b.toNat:Int)] (.int .i64 (Lib.indexByte s b)):=by
 have h:=lite_IndexByte CX_str (bs s) b
 rw[bs_toList]at h
 refine fni Tryz.f126 ?_;unfold Tryz.f126;simp only[Option.get!_some]
 simp only[go_sem]
 refine vf_of (h) ?_;simp only[go_sem]
theorem rvsC_app (l:List Rat) (q:Rat):rvsC (l++[q])=rvsC l++rvC q:=by unfold rvsC;simp
set_option maxHeartbeats 4000000 in
theorem data_Parse (l:List UInt8) (hl:l.length<=100000):Go.Ev.Fn CX 67 [.str (bs l)] (.tup [.sl (parseP l).2.length (rvsC (parseP l).2),.int .i64 ((parseP l).1:Int)]):=by
 have hp:=data_plain l (by omega)
 have hPl:=plain_len l false
 rw[parse_runA]
 generalize plainL false l=P at *
 generalize hres:runA [] (toks [] P)=res at *
 refine fni Tryz.f67 ?_;unfold Tryz.f67;simp only[Option.get!_some]
 repeat (first|simp only[go_sem,mk_bs]|simp (disch:=first|exact oa|fail) only[AX,mk_bs]|refine wki ?_|refine wqn ?_|refine vf_of (by first|exact hp) ?_)
 refine vp_ind (fun s=>s.tmp 0 = .sv (.str (bs P)) /\ ∃ (i:Nat) (qs:List Rat),s.tmp 5 = .sv (.int .i64 (i:Int))/\i<=P.length/\qs.length<=i/\runA qs (toks [] (P.drop i))=res /\
   ((qs=[]/\s.tmp 4 = .nil/\s.gen 56=0)\/(qs≠[]/\s.tmp 4 = .ref 56 0 3 0 qs.length/\s.obj 56 0=some (rvsC qs))))
  (fun s=>match s.tmp 5 with | .sv (.int _ i)=>P.length-i.toNat|_=>0) ?_ ?_
 ·exact⟨rfl,0,[],rfl,by omega,by simp,hres,.inl ⟨rfl,rfl,rfl⟩⟩
 rintro s2 ⟨i0,i,qs,i5,hi,hq,hr,hc⟩ ih
 have hμ:(match s2.tmp 5 with | .sv (.int _ i)=>P.length-i.toNat|_=>0)=P.length-i:=by rw[i5];simp
 rw[hμ]at ih
 refine vp_loop_inv (fun s=>s.tmp 0 = .sv (.str (bs P))/\s.tmp 4=s2.tmp 4/\s.gen 56=s2.gen 56/\s.obj 56 0=s2.obj 56 0 /\
   ∃j:Nat,s.tmp 5 = .sv (.int .i64 (j:Int))/\i<=j/\j<=P.length/\(P.drop j).dropWhile gapB=(P.drop i).dropWhile gapB)
  (fun s=>match s.tmp 5 with | .sv (.int _ j)=>P.length-j.toNat|_=>0) ?_ ?_
 ·exact⟨i0,rfl,rfl,rfl,i,i5,by omega,hi,rfl⟩
 rintro s3 ⟨j0,j4,jg,jo,j,j5,hij,hj,hdw⟩
 by_cases hend:j=P.length
 ·have hnil:(P.drop i).dropWhile gapB=[]:=by rw[<- hdw,hend,List.drop_length];rfl
  rw[toks_skip,hnil,show toks [] ([]:List UInt8)=[] from rfl,runA_nil]at hr
  subst hend
  by_cases hbig:256<qs.length
  ·have e:finP res=(3,[]):=by rw[<- hr];unfold finP;simp only;rw[if_pos hbig]
   rw[e]
   rcases hc with⟨rfl,_⟩|⟨_,i4,iO⟩
   ·simp at hbig
   ·rw[i4]at j4
    repeat (first|simp only[go_sem,j0,j4,j5,bs_size]|simp (disch:=first|exact oa|fail) only[AX,j0,j4,j5,bs_size]|refine wki ?_|refine wqn ?_)
    exact⟨rfl,rfl⟩
  ·have e:finP res=(0,qs):=by rw[<- hr];unfold finP;simp only;rw[if_neg hbig]
   rw[e]
   rcases hc with⟨rfl,i4,_⟩|⟨_,i4,iO⟩
   ·rw[i4]at j4
    repeat (first|simp only[go_sem,j0,j4,j5,bs_size]|simp (disch:=first|exact oa|fail) only[AX,j0,j4,j5,bs_size]|refine wki ?_|refine wqn ?_)
    exact⟨rfl,rfl⟩
   ·rw[i4]at j4
    rw[iO]at jo
    have hrl:=rvsC_len qs
    have ht:(rvsC qs).take (qs.length*3)=rvsC qs:=List.take_of_length_le (by omega)
    repeat (first|simp only[go_sem,j0,j4,j5,bs_size]|simp (disch:=first|exact oa|fail) only[AX,j0,j4,j5,bs_size]|refine wki ?_|refine wqn ?_)
    refine⟨ro_ref (cs:=rvsC qs) (by decide) ?_ ?_,rfl⟩
    ·simp only[go_sem,jo]
    ·rw[List.drop_zero,ht]
 ·have hlt:j<P.length:=by omega
  have hg:P[j]?=some P[j]:=List.getElem?_eq_getElem hlt
  have hdr:P.drop j=P[j]::P.drop (j+1):=List.drop_eq_getElem_cons hlt
  obtain⟨z,hz0,hz1,hz2,hz3,hz4⟩:=gap_index P[j]
  have hx:=str_IndexByte [32,44,10] P[j]
  rw[hz0]at hx
  cases hgap:gapB P[j]with
  |true=>
   have hz5:=hz3 hgap
   have hdw2:(P.drop (j+1)).dropWhile gapB=(P.drop i).dropWhile gapB:=by
    rw[<- hdw,hdr,List.dropWhile_cons,hgap]
    rfl
   clear hdr
   generalize P[j]=b at *
   repeat (first|simp only[go_sem,j0,j4,j5,bs_size,vo_ix,idxB_bs,hg,mk_bs,jg,jo]|simp (disch:=first|exact oa|fail) only[AX,j0,j4,j5,bs_size,vo_ix,idxB_bs,hg,mk_bs,jg,jo]|refine wki ?_|refine wqn ?_|refine vf_of (by first|exact hx) ?_)
   exact⟨⟨j+1,rfl,by omega,by omega,hdw2⟩,by omega⟩
  |false=>
   have hz5:=hz4 hgap
   have hself:(P.drop j).dropWhile gapB=P.drop j:=by rw[hdr,List.dropWhile_cons,hgap];rfl
   rw[hself]at hdw
   rw[toks_skip,<- hdw]at hr
   have hcut:=toks_cut (r:=P.drop (j+1)) hgap
   rw[<- hdr]at hcut
   rw[hcut]at hr
   clear hdr hcut hself hdw
   have hng:ngB P[j]=true:=by unfold ngB;rw[hgap];rfl
   repeat (first|simp only[go_sem,j0,j4,j5,bs_size,vo_ix,idxB_bs,hg,mk_bs,jg,jo]|simp (disch:=first|exact oa|fail) only[AX,j0,j4,j5,bs_size,vo_ix,idxB_bs,hg,mk_bs,jg,jo]|refine wki ?_|refine wqn ?_|refine vf_of (by first|exact hx) ?_)
   refine vp_loop_inv (fun s=>s.tmp 0 = .sv (.str (bs P))/\s.tmp 4=s3.tmp 4/\s.gen 56=s3.gen 56/\s.obj 56 0=s3.obj 56 0/\s.tmp 5 = .sv (.int .i64 (j:Int)) /\
     ∃k:Nat,s.tmp 6 = .sv (.int .i64 (k:Int))/\j<=k/\k<=P.length/\(P.drop j).takeWhile ngB=(P.drop j).take (k-j)++(P.drop k).takeWhile ngB/\(P.drop j).dropWhile ngB=(P.drop k).dropWhile ngB)
    (fun s=>match s.tmp 6 with | .sv (.int _ k)=>P.length-k.toNat|_=>0) ?_ ?_
   ·exact⟨j0,rfl,rfl,rfl,j5,j,rfl,by omega,hj,by simp,rfl⟩
   rintro s4 ⟨k0,k4,kg,ko,k5,k,k6,hjk,hk,htw,hdw⟩
   have kk:s4.tmp 4=s2.tmp 4:=k4.trans j4
   have kkg:s4.gen 56=s2.gen 56:=kg.trans jg
   have kko:s4.obj 56 0=s2.obj 56 0:=ko.trans jo
   have stop:(k=P.length \/ ∃hkl:k<P.length,gapB P[k]=true)->(P.drop k).takeWhile ngB=[]/\(P.drop k).dropWhile ngB=P.drop k/\j<k:=by
    rintro(h|⟨hkl,h⟩)
    ·rw[h,List.drop_length]
     exact⟨rfl,rfl,by omega⟩
    ·rw[List.drop_eq_getElem_cons hkl,List.takeWhile_cons,List.dropWhile_cons]
     have e:ngB P[k]=false:=by unfold ngB;rw[h];rfl
     rw[e]
     refine⟨rfl,rfl,?_⟩
     rcases Nat.lt_or_ge j k with h1|h1
     ·exact h1
     ·have:k=j:=by omega
      subst this
      rw[hgap]at h
      cases h
   have done:(k=P.length \/ ∃hkl:k<P.length,gapB P[k]=true)->j<k /\ ∃w,w=(P.drop j).take (k-j)/\w.length<=100000/\runA qs (w::toks [] (P.drop k))=res:=by
    intro h
    obtain⟨h1,h2,h3⟩:=stop h
    refine⟨h3,_,rfl,by rw[List.length_take];omega,?_⟩
    rw[h1,List.append_nil]at htw
    rw[htw,hdw,h2]at hr
    exact hr
   have fin : ∀w:List UInt8,runA qs (w::toks [] (P.drop k))=res->((numP w).1≠0->finP res=((numP w).1,[]))/\((numP w).1=0->runA (qs++[(numP w).2]) (toks [] (P.drop k))=res):=by
    intro w hw
    refine⟨fun h => ?_,fun h => ?_⟩
    ·rw[runA_cons_bad h]at hw
     rw[<- hw]
     cases hn:(numP w).1 with
     |zero=>exact absurd hn h
     |succ n=>rfl
    ·rw[runA_cons_ok h]at hw
     exact hw
   have go : ∀ (w:List UInt8),j<k->w=(P.drop j).take (k-j)->w.length<=100000->runA qs (w::toks [] (P.drop k))=res ->
     (∃v,ratS v/\Go.Ev.Fn CX 75 [.str (bs w)] (.tup [v,.int .i64 ((numP w).1:Int)])/\((numP w).1=0->v=rv (numP w).2)):=by
    intro w _ _ hw _
    obtain⟨v,h1,h2,h3⟩:=data_Number w (by omega)
    exact⟨v,h1,h2,fun h=>(h3 h).1⟩
   by_cases hke:k=P.length
   ·obtain⟨hjk',w,hw,hwl,hrw⟩:=done (.inl hke)
    have hw':(P.drop j).take (k-j)=w:=hw.symm
    obtain⟨v,⟨sg,n1,c1,n2,c2,rfl⟩,hN,hv⟩:=go w hjk' hw hwl hrw
    obtain⟨f1,f2⟩:=fin w hrw
    by_cases hm:(numP w).1=0
    ·have f3:=f2 hm
     rw[hv hm,hm]at hN
     generalize (numP w).2=q at *
     have hap:=rvsC_app qs q
     have hrl:=rvsC_len qs
     clear go fin done stop hx hv f1 f2
     unfold rv ratV at hN
     rcases hc with⟨rfl,i4,ig⟩|⟨hq0,i4,iO⟩
     ·rw[i4]at kk
      rw[ig]at kkg
      repeat (first|simp only[go_sem,k0,k5,k6,bs_size,mk_bs,bs_extract,hw',kk,kkg]|simp (disch:=first|exact oa|fail) only[AX,k0,k5,k6,bs_size,mk_bs,bs_extract,hw',kk,kkg]|refine wki ?_|refine wqn ?_|refine vf_of (by first|exact hN) ?_)
      refine sc_goto (by exact rfl) ?_
      simp only[go_sem]
      refine ih _ ⟨?_,k,[q],?_,by omega,by simp;omega,f3,.inr ⟨by simp,?_,?_⟩⟩ ?_
      ·simp only[go_sem,k0,kk,kkg]
      ·simp only[go_sem,k6]
      ·simp only[go_sem,kk,kkg]
       first|rfl|skip
      ·simp only[go_sem,kk,kkg]
       first|rfl|skip
      ·simp only[go_sem,k6]
       simp
       omega
     ·rw[i4]at kk
      rw[iO]at kko
      unfold rvC at hap
      repeat (first|simp only[go_sem,k0,k5,k6,bs_size,mk_bs,bs_extract,hw',kk,kko,N0,hrl]|simp (disch:=first|exact oa|fail) only[AX,k0,k5,k6,bs_size,mk_bs,bs_extract,hw',kk,kko,N0,hrl]|refine wki ?_|refine wqn ?_|refine vf_of (by first|exact hN) ?_)
      refine sc_goto (by exact rfl) ?_
      simp only[go_sem]
      refine ih _ ⟨?_,k,qs++[q],?_,by omega,by simp;omega,f3,.inr ⟨by simp,?_,?_⟩⟩ ?_
      ·simp only[go_sem,k0,kk,kko,hrl]
      ·simp only[go_sem,k6]
      ·simp only[go_sem,kk,kko,List.length_append]
       first|rfl|skip
      ·simp only[go_sem,kk,kko,hap]
       first|rfl|skip
      ·simp only[go_sem,k6]
       simp
       omega
    ·rw[f1 hm]
     generalize (numP w).1=m at *
     clear go fin done stop hx hv f1 f2
     repeat (first|simp only[go_sem,k0,k5,k6,bs_size,mk_bs,bs_extract,hw']|simp (disch:=first|exact oa|fail) only[AX,k0,k5,k6,bs_size,mk_bs,bs_extract,hw']|refine wki ?_|refine wqn ?_|refine vf_of (by first|exact hN) ?_)
     first|exact⟨rfl,rfl⟩|rfl|skip
   ·have hkl:k<P.length:=by omega
    have hgk:P[k]?=some P[k]:=List.getElem?_eq_getElem hkl
    obtain⟨y,hy0,hy1,hy2,hy3,hy4⟩:=gap_index P[k]
    have hyx:=str_IndexByte [32,44,10] P[k]
    rw[hy0]at hyx
    cases hgapk:gapB P[k]with
    |true=>
     have hy5:=hy3 hgapk
     obtain⟨hjk',w,hw,hwl,hrw⟩:=done (.inr ⟨hkl,hgapk⟩)
     have hw':(P.drop j).take (k-j)=w:=hw.symm
     clear hy3 hy4
     generalize P[k]=b at *
     obtain⟨v,⟨sg,n1,c1,n2,c2,rfl⟩,hN,hv⟩:=go w hjk' hw hwl hrw
     obtain⟨f1,f2⟩:=fin w hrw
     by_cases hm:(numP w).1=0
     ·have f3:=f2 hm
      rw[hv hm,hm]at hN
      generalize (numP w).2=q at *
      have hap:=rvsC_app qs q
      have hrl:=rvsC_len qs
      clear go fin done stop hx hv f1 f2
      unfold rv ratV at hN
      rcases hc with⟨rfl,i4,ig⟩|⟨hq0,i4,iO⟩
      ·rw[i4]at kk
       rw[ig]at kkg
       repeat (first|simp only[go_sem,k0,k5,k6,bs_size,mk_bs,bs_extract,vo_ix,idxB_bs,hgk,hw',kk,kkg]|simp (disch:=first|exact oa|fail) only[AX,k0,k5,k6,bs_size,mk_bs,bs_extract,vo_ix,idxB_bs,hgk,hw',kk,kkg]|refine wki ?_|refine wqn ?_|refine vf_of (by first|exact hyx|exact hN) ?_)
       refine sc_goto (by exact rfl) ?_
       simp only[go_sem]
       refine ih _ ⟨?_,k,[q],?_,by omega,by simp;omega,f3,.inr ⟨by simp,?_,?_⟩⟩ ?_
       ·simp only[go_sem,k0,kk,kkg]
       ·simp only[go_sem,k6]
       ·simp only[go_sem,kk,kkg]
        first|rfl|skip
       ·simp only[go_sem,kk,kkg]
        first|rfl|skip
       ·simp only[go_sem,k6]
        simp
        omega
      ·rw[i4]at kk
       rw[iO]at kko
       unfold rvC at hap
       repeat (first|simp only[go_sem,k0,k5,k6,bs_size,mk_bs,bs_extract,vo_ix,idxB_bs,hgk,hw',kk,kko,N0,hrl]|simp (disch:=first|exact oa|fail) only[AX,k0,k5,k6,bs_size,mk_bs,bs_extract,vo_ix,idxB_bs,hgk,hw',kk,kko,N0,hrl]|refine wki ?_|refine wqn ?_|refine vf_of (by first|exact hyx|exact hN) ?_)
       refine sc_goto (by exact rfl) ?_
       simp only[go_sem]
       refine ih _ ⟨?_,k,qs++[q],?_,by omega,by simp;omega,f3,.inr ⟨by simp,?_,?_⟩⟩ ?_
       ·simp only[go_sem,k0,kk,kko,hrl]
       ·simp only[go_sem,k6]
       ·simp only[go_sem,kk,kko,List.length_append]
        first|rfl|skip
       ·simp only[go_sem,kk,kko,hap]
        first|rfl|skip
       ·simp only[go_sem,k6]
        simp
        omega
     ·rw[f1 hm]
      generalize (numP w).1=m at *
      clear go fin done stop hx hv f1 f2
      repeat (first|simp only[go_sem,k0,k5,k6,bs_size,mk_bs,bs_extract,vo_ix,idxB_bs,hgk,hw']|simp (disch:=first|exact oa|fail) only[AX,k0,k5,k6,bs_size,mk_bs,bs_extract,vo_ix,idxB_bs,hgk,hw']|refine wki ?_|refine wqn ?_|refine vf_of (by first|exact hyx|exact hN) ?_)
      first|exact⟨rfl,rfl⟩|rfl|skip
    |false=>
     have hy5:=hy4 hgapk
     have hngk:ngB P[k]=true:=by unfold ngB;rw[hgapk];rfl
     have h2:(P.drop j).dropWhile ngB=(P.drop (k+1)).dropWhile ngB:=by
      rw[hdw,List.drop_eq_getElem_cons hkl,List.dropWhile_cons,hngk]
      rfl
     have h3:(P.drop j).takeWhile ngB=(P.drop j).take (k+1-j)++(P.drop (k+1)).takeWhile ngB:=by
      rw[htw,List.drop_eq_getElem_cons hkl,List.takeWhile_cons,hngk,show k+1-j=(k-j)+1 by omega,List.take_add_one,List.getElem?_drop,show j+(k-j)=k by omega,hgk]
      simp
     clear go fin done stop hx hy3 hy4
     generalize P[k]=b at *
     repeat (first|simp only[go_sem,k0,k4,k5,k6,bs_size,mk_bs,vo_ix,idxB_bs,hgk,kg,ko]|simp (disch:=first|exact oa|fail) only[AX,k0,k4,k5,k6,bs_size,mk_bs,vo_ix,idxB_bs,hgk,kg,ko]|refine wki ?_|refine wqn ?_|refine vf_of (by first|exact hyx) ?_)
     exact⟨⟨k+1,rfl,by omega,by omega,h3,h2⟩,by omega⟩
end Go.Proofs.YtcfjiolldehegaaGreatDoor
namespace Go.Proofs.YtcfjiolldehegaaGreatDoor
open Go.Ev
theorem x_cmp (a b:List UInt8):Go.Ev.Fn CX 303 [.str (bs a),.str (bs b)] (.int .i64 (Lib.compareBytes a b)):=by
 refine⟨1,List.replicate 2 none,?_⟩
 have h4:CX.X 303 ([SV.str (bs a),.str (bs b)].map Arg.sv)=some (.sv (.int .i64 (Lib.compareBytes a b)),List.replicate 2 none):=by
  show xCmp [.sv (.str (bs a)),.sv (.str (bs b))]=_
  unfold xCmp
  simp only[bs_toList]
 unfold callN
 rw[stq_sv,h4]
theorem str_Compare (a b:List UInt8):Go.Ev.Fn CX 186 [.str (bs a),.str (bs b)] (.int .i64 (Lib.compareBytes a b)):=by
 have h0:=x_cmp a b
 have h1:Go.Ev.Fn CX 261 [.str (bs a),.str (bs b)] (.int .i64 (Lib.compareBytes a b)):=by
  refine fni Tryz.f261 ?_;unfold Tryz.f261;simp only[Option.get!_some]
  simp only[go_sem]
  refine vf_of (h0) ?_;simp only[go_sem]
 refine fni Tryz.f186 ?_;unfold Tryz.f186;simp only[Option.get!_some]
 simp only[go_sem]
 refine vf_of (h1) ?_;simp only[go_sem]
theorem sess_by (a b:List UInt8) (n:Nat) (rs:List SV):Go.Ev.Fn CX 185 [.agg [.str (bs a),.sl n rs],.str (bs b)] (.int .i64 (Lib.compareBytes a b)):=by
 have h0:=str_Compare a b
 refine fni Tryz.f185 ?_;unfold Tryz.f185;simp only[Option.get!_some]
 simp only[go_sem]
 refine vf_of (h0) ?_;simp only[go_sem]
def letB:List UInt8:=[97,98,99,100,101,102,103,104,105,106,107,108,109,110,111,112,113,114,115,116,117,118,119,120,121,122]
def sgnB:List UInt8:=letB++[48,49,50,51,52,53,54,55,56,57]
def nameP (l:List UInt8):Bool:=match l with
 | []=>false
 |b::r=>decide (r.length<12)&&(decide (0<=Lib.indexByte letB b)&&(Lib.trimS (b::r) sgnB).isEmpty)
theorem isEmpty_beq (l:List UInt8):(l==[])=l.isEmpty:=by cases l<;>rfl
theorem sess_Name (l:List UInt8) (hl:l.length<=1048576):Go.Ev.Fn CX 66 [.str (bs l)] (.bool (nameP l)):=by
 cases l with
 |nil=>
  have h0:(([]:List UInt8)==[])=true:=rfl
  refine fni Tryz.f66 ?_;unfold Tryz.f66;simp only[Option.get!_some]
  repeat (first|simp only[go_sem,mk_bs,bs_eq,h0,Bool.not_true]|simp (disch:=first|exact oa|fail) only[AX,mk_bs,bs_eq,h0,Bool.not_true]|refine wki ?_|refine wqn ?_)
  rfl
 |cons b r=>
  have hi:=str_IndexByte letB b
  have ht:=x_trim (b::r) sgnB (by omega) (by decide) (by decide)
  have hn:((b::r)==([]:List UInt8))=false:=rfl
  have hx:(b::r)[0]?=some b:=rfl
  have hsz:(b::r).length=r.length+1:=rfl
  have hnp:nameP (b::r)=(decide (r.length<12)&&(decide (0<=Lib.indexByte letB b)&&(Lib.trimS (b::r) sgnB).isEmpty)):=rfl
  rw[hnp]
  generalize (b::r)=l at *
  generalize hT:Lib.trimS l sgnB=T at *
  generalize hI:Lib.indexByte letB b=z at *
  rw[show letB=[97,98,99,100,101,102,103,104,105,106,107,108,109,110,111,112,113,114,115,116,117,118,119,120,121,122] from rfl]at hi
  rw[show sgnB=[97,98,99,100,101,102,103,104,105,106,107,108,109,110,111,112,113,114,115,116,117,118,119,120,121,122,48,49,50,51,52,53,54,55,56,57] from rfl]at ht
  clear hT hI
  by_cases h1:r.length<12
  ·have d1:=decide_eq_true h1
   by_cases h2:0<=z
   ·have d2:=decide_eq_true h2
    refine fni Tryz.f66 ?_;unfold Tryz.f66;simp only[Option.get!_some]
    repeat (first|simp only[go_sem,mk_bs,bs_eq,bs_size,hn,hsz,hx,vo_ix,idxB_bs,Bool.not_false,d1,d2,ge_iff_le,isEmpty_beq,Option.map_some]|simp (disch:=first|exact oa|fail) only[AX,mk_bs,bs_eq,bs_size,hn,hsz,hx,vo_ix,idxB_bs,Bool.not_false,d1,d2,ge_iff_le,isEmpty_beq,Option.map_some]|refine wki ?_|refine wqn ?_|refine vf_of (by first|exact hi|exact ht) ?_)
   ·have d2:=decide_eq_false h2
    refine fni Tryz.f66 ?_;unfold Tryz.f66;simp only[Option.get!_some]
    repeat (first|simp only[go_sem,mk_bs,bs_eq,bs_size,hn,hsz,hx,vo_ix,idxB_bs,Bool.not_false,d1,d2,ge_iff_le,isEmpty_beq,Option.map_some]|simp (disch:=first|exact oa|fail) only[AX,mk_bs,bs_eq,bs_size,hn,hsz,hx,vo_ix,idxB_bs,Bool.not_false,d1,d2,ge_iff_le,isEmpty_beq,Option.map_some]|refine wki ?_|refine wqn ?_|refine vf_of (by first|exact hi) ?_)
    rw[Bool.false_and]
  ·refine fni Tryz.f66 ?_;unfold Tryz.f66;simp only[Option.get!_some]
   repeat (first|simp only[go_sem,mk_bs,bs_eq,bs_size,hn,hsz,Bool.not_false]|simp (disch:=first|exact oa|fail) only[AX,mk_bs,bs_eq,bs_size,hn,hsz,Bool.not_false]|refine wki ?_|refine wqn ?_)
   simp[h1]
theorem rvs_snocA {l:List Rat} {i:Nat} (h:i<l.length):rvsC (l.take i)++rvC (l.getD i 0)=rvsC (l.take (i+1)):=by rw[take_snoc l h,rvsC_snoc]
theorem sess_copied {cs:List SV} {l:List Rat} {L:Nat} (h:RowC cs l L) (hL:1<=L) (hL2:L<=10000) (hl:l.length<=100000):Go.Ev.Fn CX 129 [.sl l.length cs] (.sl l.length (rvsC l)):=by
 have hlen:=row_len h
 refine fni Tryz.f129 ?_;unfold Tryz.f129;simp only[Option.get!_some]
 repeat (first|simp only[go_sem]|simp (disch:=first|exact oa|fail) only[AX]|refine wki ?_|refine wqn ?_)
 refine vp_loop_inv (fun s=>s.tmp 6 = .sv (.sl l.length cs)/\s.tmp 7 = .sv (.int .i64 (l.length:Int)) /\ ∃i:Nat,s.tmp 8 = .sv (.int .i64 (i:Int))/\i<=l.length /\
   ((i=0/\s.tmp 3 = .nil/\s.gen 16=0)\/(0<i/\s.tmp 3 = .ref 16 0 3 0 i/\s.obj 16 0=some (rvsC (l.take i)))))
  (fun s=>match s.tmp 8 with | .sv (.int _ i)=>l.length-i.toNat|_=>0) ⟨rfl,rfl,0,rfl,by omega,.inl ⟨rfl,rfl,rfl⟩⟩ ?_
 rintro s2 ⟨i6,i7,i,i8,hi,hcase⟩
 by_cases hend:i=l.length
 ·subst hend
  rw[List.take_length]at hcase
  rcases hcase with⟨h0,i3,_⟩|⟨h0,i3,iO⟩
  ·have:l=[]:=List.eq_nil_of_length_eq_zero h0
   subst this
   repeat (first|simp only[go_sem,i6,i7,i8,i3]|simp (disch:=first|exact oa|fail) only[AX,i6,i7,i8,i3]|refine wki ?_|refine wqn ?_)
   first|rfl|skip
  ·have hrl:=rvsC_len l
   repeat (first|simp only[go_sem,i6,i7,i8,i3,iO]|simp (disch:=first|exact oa|fail) only[AX,i6,i7,i8,i3,iO]|refine wki ?_|refine wqn ?_)
   refine ro_ref (cs:=rvsC l) (by decide) ?_ ?_
   ·simp only[go_sem,i3,iO]
   ·rw[List.drop_zero,List.take_of_length_le (by omega)]
 ·obtain⟨s,n,d,rest,hat,hA⟩:=row_at (i:=i) h (by omega)
  have a:=rat_Norm hA (by omega)
  have hsn:=rvs_snocA (l:=l) (i:=i) (by omega)
  have hrl:=rvsC_len (l.take i)
  rw[List.length_take,Nat.min_eq_left (by omega)]at hrl
  clear h hA
  rcases hcase with⟨h00,i3,ig⟩|⟨h00,i3,iO⟩
  ·subst h00
   rw[List.take_zero,rvsC_nil,List.nil_append]at hsn
   rw[Nat.zero_mul,List.drop_zero]at hat
   subst hat
   repeat (first|simp only[go_sem,i6,i7,i3,i8,ig,N0,rvC]|simp (disch:=first|exact oa|fail) only[AX,i6,i7,i3,i8,ig,N0,rvC]|refine wki ?_|refine wqn ?_|refine vf_of (by first|exact a) ?_)
   exact⟨⟨1,rfl,by omega,.inr ⟨by omega,rfl,by first|(rw[<- hsn];rfl)|rw[<- hsn]⟩⟩,by omega⟩
  ·unfold rvC at hsn
   repeat (first|simp only[go_sem,i6,i7,i3,i8,iO,hat,hlen,N0,hsn,hrl,rvC]|simp (disch:=first|exact oa|fail) only[AX,i6,i7,i3,i8,iO,hat,hlen,N0,hsn,hrl,rvC]|refine wki ?_|refine wqn ?_|refine vf_of (by first|exact a) ?_)
   exact⟨⟨i+1,rfl,by omega,.inr ⟨by omega,rfl,by first|(rw[<- hsn];rfl)|rw[<- hsn]⟩⟩,by omega⟩
theorem sess_New:FnH CX 6 [] [.nil,.sv (.int .i64 6)]:=⟨20,[],by kernel_rfl⟩
end Go.Proofs.YtcfjiolldehegaaGreatDoor
namespace Go.Proofs.YtcfjiolldehegaaGreatDoor
open Go.Ev
abbrev Ent:=List UInt8×Nat×List SV
def entC (es:List Ent):List SV:=es.flatMap fun e=>[.str (bs e.1),.sl e.2.1 e.2.2]
theorem entC_cons (e:Ent) (es:List Ent):entC (e::es) = .str (bs e.1) :: .sl e.2.1 e.2.2::entC es:=by unfold entC;simp
theorem entC_len : ∀es:List Ent,(entC es).length=es.length*2
 | []=>rfl
 |e::es=>by rw[entC_cons,List.length_cons,List.length_cons,entC_len es,List.length_cons];omega
theorem entC_one : ∀es:List Ent,oneAll (entC es)=true
 | []=>rfl
 |e::es=>by
  have:=entC_one es
  unfold oneAll at this ⊢
  rw[entC_cons,List.all_cons,List.all_cons,this]
  rfl
theorem entC_app (a b:List Ent):entC (a++b)=entC a++entC b:=by unfold entC;simp
theorem ent_at : ∀ {es:List Ent} {k:Nat},k<es.length -> ∃rest,(entC es).drop (k*2) = .str (bs (es.getD k default).1) :: .sl (es.getD k default).2.1 (es.getD k default).2.2::rest
 |e::es,0,_=>⟨entC es,by rw[Nat.zero_mul,List.drop_zero,entC_cons];rfl⟩
 |e::es,k+1,h=>by
  obtain⟨rest,hr⟩:=ent_at (es:=es) (k:=k) (by simpa using h)
  refine⟨rest,?_⟩
  rw[entC_cons,show (k+1)*2=k*2+2 by omega,List.drop_succ_cons,List.drop_succ_cons,hr]
  rfl
def cmpAt (es:List Ent) (k:Nat) (t:List UInt8):Int:=Lib.compareBytes (es.getD k default).1 t
structure PosAt (es:List Ent) (t:List UInt8) (p:Nat):Prop where
 le:p<=es.length
 lo : ∀k,k<p->cmpAt es k t<0
 hi : ∀k,p<=k->k<es.length -> ¬cmpAt es k t<0
def isAt (es:List Ent) (t:List UInt8) (p:Nat):Bool:=decide (p<es.length)&&(cmpAt es p t==0)
theorem exp_search {s:St} {cs:List SV} {n:Nat} {x y:SV}:expOf s [.impref cs 2 0 n,.sv x,.sv y]=[s.obj 1000000 0,none,none]:=rfl
theorem sess_search {es:List Ent} {t:List UInt8} {p:Nat} (hp:PosAt es t p) (hl:es.length<=100000) :
  FnI CX 184 [.impref (entC es) 2 0 es.length,.sv (.str (bs t)),.sv (.fn 185 [])] (.tup [.int .i64 p,.bool (isAt es t p)]) [some (entC es),none,none]:=by
 have key : ∃r exps,(r = .tup [.int .i64 p,.bool (isAt es t p)]/\exps=[some (entC es),none,none])/\FnI CX 184 [.impref (entC es) 2 0 es.length,.sv (.str (bs t)),.sv (.fn 185 [])] r exps:=by
  refine FnI_of (fn:=Tryz.f184) (body:=(Tryz.f184).body.get!) (by kernel_rfl) (by kernel_rfl) (by kernel_rfl) (fun _=>rfl) (Nat.le_of_ble_eq_true (by kernel_rfl)) ?_
  unfold Tryz.f184
  simp only[Option.get!_some,exp_search]
  repeat (first|simp only[go_sem,N0]|simp (disch:=first|exact oa|fail) only[AX,N0]|refine wki ?_|refine wqn ?_)
  refine vp_loop_inv (fun s=>s.tmp 0 = .ref 1000000 0 2 0 es.length/\s.tmp 1 = .sv (.str (bs t))/\s.tmp 2 = .sv (.fn 185 [])/\s.obj 1000000 0=some (entC es)/\s.tmp 8 = .sv (.int .i64 (es.length:Int)) /\
    ∃i j:Nat,s.tmp 9 = .sv (.int .i64 (i:Int))/\s.tmp 10 = .sv (.int .i64 (j:Int))/\i<=p/\p<=j/\j<=es.length)
   (fun s=>match s.tmp 9,s.tmp 10 with | .sv (.int _ i),.sv (.int _ j)=>j.toNat-i.toNat|_,_=>0) ⟨rfl,rfl,rfl,rfl,rfl,0,es.length,rfl,rfl,by omega,hp.le,by omega⟩ ?_
  rintro s ⟨i0,i1,i2,iO,i8,i,j,i9,i10,hi,hj,hjl⟩
  by_cases hend:i=j
  ·have:i=p:=by omega
   subst this
   subst hend
   by_cases hlt:i<es.length
   ·obtain⟨rest,hat⟩:=ent_at hlt
    have c:=sess_by (es.getD i default).1 t (es.getD i default).2.1 (es.getD i default).2.2
    have hfi:isAt es t i=(Lib.compareBytes (es.getD i default).1 t==0):=by unfold isAt cmpAt;rw[decide_eq_true hlt,Bool.true_and]
    rw[hfi]
    generalize Lib.compareBytes (es.getD i default).1 t=z at *
    repeat (first|simp only[go_sem,i0,i1,i2,iO,i8,i9,i10,hat]|simp (disch:=first|exact oa|fail) only[AX,i0,i1,i2,iO,i8,i9,i10,hat]|refine wki ?_|refine wqn ?_)
    refine vf_of (c) ?_;repeat (first|simp only[go_sem,i0,i1,i2,iO,i8,i9,i10,hat]|simp (disch:=first|exact oa|fail) only[AX,i0,i1,i2,iO,i8,i9,i10,hat]|refine wki ?_|refine wqn ?_)
    refine⟨_,_,⟨rfl,rfl⟩,?_,rfl⟩
    simp only[go_sem]
   ·have hfi:isAt es t i=false:=by unfold isAt;rw[decide_eq_false hlt,Bool.false_and]
    rw[hfi]
    repeat (first|simp only[go_sem,i0,i1,i2,iO,i8,i9,i10]|simp (disch:=first|exact oa|fail) only[AX,i0,i1,i2,iO,i8,i9,i10]|refine wki ?_|refine wqn ?_)
    refine⟨_,_,⟨rfl,rfl⟩,?_,rfl⟩
    simp only[go_sem]
  ·have hh : ∃h,(i+j)/2=h:=⟨_,rfl⟩
   obtain⟨h,hh⟩:=hh
   have hhj:h<j:=by omega
   have hih:i<=h:=by omega
   obtain⟨rest,hat⟩:=ent_at (es:=es) (k:=h) (by omega)
   have c:=sess_by (es.getD h default).1 t (es.getD h default).2.1 (es.getD h default).2.2
   have hlo:=hp.lo h
   have hhi:=hp.hi h
   unfold cmpAt at hlo hhi
   generalize Lib.compareBytes (es.getD h default).1 t=z at *
   have hlen:=entC_len es
   by_cases hz:z<0
   ·have dz:=decide_eq_true hz
    repeat (first|simp only[go_sem,i0,i1,i2,iO,i8,i9,i10,hh,hlen,hat]|simp (disch:=first|exact oa|fail) only[AX,i0,i1,i2,iO,i8,i9,i10,hh,hlen,hat]|refine wki ?_|refine wqn ?_)
    refine vf_of (c) ?_;repeat (first|simp only[go_sem,i0,i1,i2,iO,i8,i9,i10,hh,hlen,hat,dz]|simp (disch:=first|exact oa|fail) only[AX,i0,i1,i2,iO,i8,i9,i10,hh,hlen,hat,dz]|refine wki ?_|refine wqn ?_)
    exact⟨⟨h+1,j,rfl,rfl,by omega,hj,hjl⟩,by omega⟩
   ·have dz:=decide_eq_false hz
    repeat (first|simp only[go_sem,i0,i1,i2,iO,i8,i9,i10,hh,hlen,hat]|simp (disch:=first|exact oa|fail) only[AX,i0,i1,i2,iO,i8,i9,i10,hh,hlen,hat]|refine wki ?_|refine wqn ?_)
    refine vf_of (c) ?_;repeat (first|simp only[go_sem,i0,i1,i2,iO,i8,i9,i10,hh,hlen,hat,dz]|simp (disch:=first|exact oa|fail) only[AX,i0,i1,i2,iO,i8,i9,i10,hh,hlen,hat,dz]|refine wki ?_|refine wqn ?_)
    exact⟨⟨i,h,rfl,rfl,hi,by omega,by omega⟩,by omega⟩
 obtain⟨r,exps,⟨rfl,rfl⟩,h⟩:=key
 exact h
end Go.Proofs.YtcfjiolldehegaaGreatDoor
namespace Go.Proofs.YtcfjiolldehegaaGreatDoor
open Go.Ev
def TP (n:Nat):Bool:=Nat.beq n 21||(Nat.beq n 25||Nat.beq n 51)
def plT (T:Nat->Bool):TV->Bool
 | .sv _=>true
 | .nil=>true
 | .undef=>true
 | .ptr d _ _ => !T d
 | .ref d _ _ _ _ => !T d
 | .rfc d _ _ _ _ _ => !T d
 | .pst d _ => !T d
 | .skip=>true
 | .emp=>true
abbrev plV:TV->Bool:=plT TP
theorem nbeq {a b:Nat} (h:a≠b):Nat.beq a b=false:=by
 cases e:Nat.beq a b with
 |false=>rfl
 |true=>exact absurd (Nat.eq_of_beq_eq_true e) h
theorem tp_ob {d:Nat} (h:H0<=d):TP d=false:=by
 have h:2000000<=d:=h
 unfold TP
 rw[nbeq (a:=d) (b:=21) (by omega),nbeq (a:=d) (b:=25) (by omega),nbeq (a:=d) (b:=51) (by omega)]
 rfl
theorem pl_ob {d g o:Nat} (h:H0<=d):plV (.ptr d g o)=true:=by
 show (!TP d)=true
 rw[tp_ob h]
 rfl
section
variable {T:Nat->Bool}
theorem kill_pl {v:TV} {d g:Nat} (h:plT T v=true) (hd:T d=true):v.kill d g=v:=by
 have key : ∀d',(!T d')=true -> ¬(d'=d /\ ∃x:Nat,x=g):=fun d' h e=>by rw[e.1,hd]at h;cases h
 cases v with
 |ptr d' g' off=>exact if_neg fun e=>key d' h ⟨e.1,_,e.2⟩
 |ref d' g' a b c=>exact if_neg fun e=>key d' h ⟨e.1,_,e.2⟩
 |rfc d' g' a b c e'=>exact if_neg fun e=>key d' h ⟨e.1,_,e.2⟩
 |pst d' g'=>exact if_neg fun e=>key d' h ⟨e.1,_,e.2⟩
 |_=>rfl
theorem frz_pl {v:TV} {d g:Nat} {cs:List SV} (h:plT T v=true) (hd:T d=true):v.frz d g cs=v:=by
 have key : ∀d',(!T d')=true -> ¬(d'=d /\ ∃x:Nat,x=g):=fun d' h e=>by rw[e.1,hd]at h;cases h
 cases v with
 |ptr d' g' off=>exact if_neg fun e=>key d' h ⟨e.1,_,e.2⟩
 |ref d' g' a b c=>exact if_neg fun e=>key d' h ⟨e.1,_,e.2⟩
 |rfc d' g' a b c e'=>exact if_neg fun e=>key d' h ⟨e.1,_,e.2⟩
 |pst d' g'=>exact if_neg fun e=>key d' h ⟨e.1,_,e.2⟩
 |_=>rfl
end
theorem up_even {st:St} {vs:List TV} {t:Nat}:(st.enter vs).up (2*t)=st.tmp t:=by
 rw[up_enter,if_pos (by omega),show 2*t/2=t by omega]
theorem up_odd {st:St} {vs:List TV} {t:Nat}:(st.enter vs).up (2*t+1)=st.up t:=by
 rw[up_enter,if_neg (by omega),show (2*t+1)/2=t by omega]
structure Kp (T:Nat->Bool) (d:Nat) (st s:St):Prop where
 up : ∀u,plT T (st.up u)=true->s.up u=st.up u
 obj : ∀n g,T n=false->g<st.gen n->s.obj n g=st.obj n g
 gen : ∀n,st.gen n<=s.gen n
 hob : ∀d' g' ts,d'≠d->st.hob d' g'=some ts->(∀t∈ts,plT T t=true)->s.hob d' g'=some ts
structure KeepT (T:Nat->Bool) (d:Nat) (st st':St):Prop extends Kp T d st st' where
 tmp : ∀t,plT T (st.tmp t)=true->st'.tmp t=st.tmp t
abbrev Keep:=KeepT TP
section
variable {T:Nat->Bool} {d:Nat} {st s:St}
theorem Kp.refl:Kp T d st st:=⟨fun _ _=>rfl,fun _ _ _ _=>rfl,fun _=>Nat.le_refl _,fun _ _ _ _ h _=>h⟩
theorem Kp.trans {a b c:St} (h:Kp T d a b) (k:Kp T d b c):Kp T d a c:=
 ⟨fun u hu=>(k.up u (by rw[h.up u hu];exact hu)).trans (h.up u hu),fun n g hn hg=>(k.obj n g hn (Nat.lt_of_lt_of_le hg (h.gen n))).trans (h.obj n g hn hg),fun n=>Nat.le_trans (h.gen n) (k.gen n),
  fun d' g' ts hd ho hp=>k.hob d' g' ts hd (h.hob d' g' ts hd ho hp) hp⟩
theorem Kp.put {t:Nat} {v:TV} (h:Kp T d st s):Kp T d st (s.put t v):=⟨h.up,h.obj,h.gen,h.hob⟩
theorem Kp.set {n g:Nat} {cs:List SV} (hn:T n=true) (h:Kp T d st s):Kp T d st (s.set n g cs):=
 ⟨h.up,fun n' g' hn' hg=>(if_neg fun e=>by rw[e.1,hn]at hn';cases hn').trans (h.obj n' g' hn' hg),h.gen,h.hob⟩
theorem Kp.new {t:Nat} {cs:List SV} {v:TV} (h:Kp T d st s):Kp T d st (s.new t cs v):=
 ⟨h.up,fun n g hn hg=>(if_neg fun e=>absurd (h.gen n) (by rw[e.1]at hg ⊢;omega)).trans (h.obj n g hn hg),fun n=>Nat.le_trans (h.gen n) (by rw[gen_new];split<;>rename_i e<;>(try rw[e])<;>omega),h.hob⟩
theorem Kp.newset {t:Nat} {cs cs':List SV} {v:TV} (h:Kp T d st s):Kp T d st ((s.new t cs v).set t (s.gen t) cs'):=
 ⟨h.up,fun n g hn hg=>(if_neg fun e=>absurd (h.gen n) (by rw[e.1]at hg ⊢;omega)).trans ((h.new (t:=t) (cs:=cs) (v:=v)).obj n g hn hg),(h.new (t:=t) (cs:=cs) (v:=v)).gen,h.hob⟩
theorem Kp.setH {g:Nat} {ts:List TV} (h:Kp T d st s):Kp T d st (s.setH d g ts):=
 ⟨h.up,h.obj,h.gen,fun d' g' ts hd ho hp=>(if_neg fun e=>hd e.1).trans (h.hob d' g' ts hd ho hp)⟩
theorem map_kill {n g:Nat} {ts:List TV} (hn:T n=true) (hp : ∀t∈ts,plT T t=true):(ts.map fun t=>t.kill n g)=ts:=by
 refine(List.map_congr_left fun t ht=>kill_pl (hp t ht) hn).trans (List.map_id' ts)
theorem map_frz {n g:Nat} {cs:List SV} {ts:List TV} (hn:T n=true) (hp : ∀t∈ts,plT T t=true):(ts.map fun t=>t.frz n g cs)=ts:=by
 refine(List.map_congr_left fun t ht=>frz_pl (hp t ht) hn).trans (List.map_id' ts)
theorem Kp.frzd {n g:Nat} {cs:List SV} (hn:T n=true) (h:Kp T d st s):Kp T d st (s.frzd n g cs):=
 ⟨fun u hu=>(congrArg (TV.frz n g cs) (h.up u hu)).trans (frz_pl hu hn),fun n' g' hn' hg=>(if_neg fun e=>by rw[e.1,hn]at hn';cases hn').trans (h.obj n' g' hn' hg),h.gen,
  fun d' g' ts hd ho hp=>by
   show Option.map (fun ts=>ts.map fun t=>t.frz n g cs) (s.hob d' g')=some ts
   rw[h.hob d' g' ts hd ho hp]
   exact congrArg some (map_frz hn hp)⟩
theorem Kp.grow {t n g a b c:Nat} {cs:List SV} (hn:T n=true) (h:Kp T d st s):Kp T d st (s.grow t n g a b c cs):=
 ⟨fun u hu=>(congrArg (TV.kill n g) (h.up u hu)).trans (kill_pl hu hn),fun n' g' hn' hg=>(if_neg fun e=>by rw[e.1,hn]at hn';cases hn').trans (h.obj n' g' hn' hg),h.gen,
  fun d' g' ts hd ho hp=>by
   show Option.map (fun ts=>ts.map fun t=>t.kill n g) (s.hob d' g')=some ts
   rw[h.hob d' g' ts hd ho hp]
   exact congrArg some (map_kill hn hp)⟩
theorem Kp.ins {n g:Nat} {cs:List SV} (hn:T n=true) (h:Kp T d st s):Kp T d st (insSt s n g cs):=
 ⟨fun u hu=>(congrArg (TV.kill n g) (h.up u hu)).trans (kill_pl hu hn),fun n' g' hn' hg=>(if_neg fun e=>by rw[e.1,hn]at hn';cases hn').trans (h.obj n' g' hn' hg),fun n=>Nat.le_succ_of_le (h.gen n),
  fun d' g' ts hd ho hp=>by
   show Option.map (fun ts=>ts.map fun t=>t.kill n g) (s.hob d' g')=some ts
   rw[h.hob d' g' ts hd ho hp]
   exact congrArg some (map_kill hn hp)⟩
theorem KeepT.kp {st':St} (h:KeepT T d st st'):Kp T d st st':=h.toKp
theorem keep_of {vs:List TV} (h:Kp T d (st.enter vs) s):KeepT T d st s.leave:=
 {up:=fun t ht=>by rw[up_leave,h.up (2*t+1) (by rw[up_odd];exact ht),up_odd]
  tmp:=fun t ht=>by rw[tmp_leave,h.up (2*t) (by rw[up_even];exact ht),up_even]
  obj:=h.obj
  gen:=h.gen
  hob:=h.hob }
theorem KeepT.trans {a b c:St} (h:KeepT T d a b) (k:KeepT T d b c):KeepT T d a c:=
 {h.kp.trans k.kp with tmp:=fun t ht=>by rw[k.tmp t (by rw[h.tmp t ht];exact ht),h.tmp t ht] }
end
structure SessR (st:St) (d g:Nat) (es:List Ent) (D:Int):Prop where
 ob:H0<=d
 row:(es=[]/\st.hob d g=some [.nil,.sv (.int .i64 D)]) \/ ∃g1,g1<st.gen 25/\st.hob d g=some [.ref 25 g1 2 0 es.length,.sv (.int .i64 D)]/\st.obj 25 g1=some (entC es)
theorem SessR.of {st s:St} {d g:Nat} {es:List Ent} {D:Int} (h:SessR st d g es D) (h1:s.hob d g=st.hob d g) (h2 : ∀g1,s.obj 25 g1=st.obj 25 g1) (h3:st.gen 25<=s.gen 25):SessR s d g es D:=by
 obtain⟨hd,hrow⟩:=h
 refine⟨hd,?_⟩
 rcases hrow with⟨e,ho⟩|⟨g1,hg1,ho,hobj⟩
 ·exact .inl ⟨e,h1.trans ho⟩
 ·exact .inr ⟨g1,Nat.lt_of_lt_of_le hg1 h3,h1.trans ho,(h2 g1).trans hobj⟩
theorem search_nil (t:List UInt8):Go.Ev.Fn CX 184 [.sl 0 [],.str (bs t),.fn 185 []] (.tup [.int .i64 0,.bool false]):=by
 refine fni Tryz.f184 ?_;unfold Tryz.f184;simp only[Option.get!_some]
 repeat (first|simp only[go_sem]|simp (disch:=first|exact oa|fail) only[AX]|refine wki ?_|refine wqn ?_)
 refine vp_loop_inv (fun s=>s.tmp 8 = .sv (.int .i64 0)/\s.tmp 9 = .sv (.int .i64 0)/\s.tmp 10 = .sv (.int .i64 0)) (fun _=>0) ⟨rfl,rfl,rfl⟩ ?_
 rintro s ⟨i8,i9,i10⟩
 repeat (first|simp only[go_sem,i8,i9,i10]|simp (disch:=first|exact oa|fail) only[AX,i8,i9,i10]|refine wki ?_|refine wqn ?_)
section
variable {ops:Array Oper} {l:List Oper} {dst:Option Nat} {st:St} {Q:St->Prop} {d g p:Nat} {es:List Ent} {t:List UInt8} {D:Int}
structure Same (st st':St):Prop where
 tmp : ∀t,st'.tmp t=st.tmp t
 up : ∀t,st'.up t=st.up t
 obj : ∀d g,st'.obj d g=st.obj d g
 gen:st'.gen=st.gen
 hob:st'.hob=st.hob
theorem Same.keep {T:Nat->Bool} {d:Nat} {st st':St} (h:Same st st'):KeepT T d st st' :=
 {up:=fun t _=>h.up t,tmp:=fun t _=>h.tmp t,obj:=fun n g _ _=>h.obj n g,gen:=fun n=>by rw[h.gen];exact Nat.le_refl _,hob:=fun d' g' ts _ ho _=>by rw[h.hob];exact ho }
theorem same_leave {st b s1 s:St} {vs:List TV} (h:Same b s1) (hb:b.up=(st.enter vs).up) (hb2:b.obj=st.obj) (hb3:b.gen=st.gen) (hb4:b.hob=st.hob) (hs:s.up=s1.up) (hs2:s.obj=s1.obj) (hs3:s.gen=s1.gen) (hs4:s.hob=s1.hob):Same st s.leave:=
 ⟨fun t=>by rw[tmp_leave,hs,h.up,hb,up_even],fun t=>by rw[up_leave,hs,h.up,hb,up_odd],fun d g=>by rw[obj_leave,hs2,h.obj,hb2],by rw[gen_leave,hs3,h.gen,hb3],by rw[hob_leave,hs4,h.hob,hb4]⟩
theorem sess_atS (hp:PosAt es t p) (hl:es.length<=100000) (h:SessR st d g es D)
  (k : ∀st',Same st st'->WO CX false ops l (st'.putO dst (.sv (.tup [.int .i64 p,.bool (isAt es t p)]))) Q) :
  WN CX ops l dst st Q 103 [.ptr d g 0,.sv (.str (bs t))]:=by
 obtain⟨hd,hrow⟩:=h
 have hd':2000000<=d:=hd
 rcases hrow with⟨rfl,ho⟩|⟨g1,hg1,ho,hobj⟩
 ·have:p=0:=by have:=hp.le;simpa using this
  subst this
  have c:=search_nil t
  refine wni Tryz.f103 ?_;unfold Tryz.f103;simp only[Option.get!_some]
  repeat (first|simp only[go_sem,hd',ho]|simp (disch:=first|exact oa|fail) only[AX,hd',ho]|refine wki ?_|refine wqn ?_|refine vf_of (by first|exact c) ?_)
  exact k _ ⟨fun u=>by simp only[tmp_leave,up_put,up_even],fun u=>by simp only[up_leave,up_put,up_odd],fun _ _=>rfl,rfl,rfl⟩
 ·have c:=sess_search hp hl
  refine wni Tryz.f103 ?_;unfold Tryz.f103;simp only[Option.get!_some]
  repeat (first|simp only[go_sem,hd',ho,hobj]|simp (disch:=first|exact oa|fail) only[AX,hd',ho,hobj]|refine wki ?_|refine wqn ?_)
  refine vi_of c rfl ?_
  repeat (first|simp only[go_sem,hd',ho,hobj]|simp (disch:=first|exact oa|fail) only[AX,hd',ho,hobj]|refine wki ?_|refine wqn ?_)
  refine k _ ⟨fun u=>by simp only[tmp_leave,up_put,up_set,up_even],fun u=>by simp only[up_leave,up_put,up_set,up_odd],fun d2 g2 => ?_,rfl,rfl⟩
  simp only[obj_leave,obj_put,obj_set]
  split
  ·rename_i e
   rw[e.1,e.2,<- hobj]
  ·rfl
theorem sess_at (hp:PosAt es t p) (hl:es.length<=100000) (h:SessR st d g es D)
  (k : ∀st',Keep d st st'->SessR st' d g es D->WO CX false ops l (st'.putO dst (.sv (.tup [.int .i64 p,.bool (isAt es t p)]))) Q) :
  WN CX ops l dst st Q 103 [.ptr d g 0,.sv (.str (bs t))]:=
 sess_atS hp hl h fun s hs=>k s hs.keep (h.of (by rw[hs.hob]) (fun _=>hs.obj _ _) (by rw[hs.gen];exact Nat.le_refl _))
theorem sess_insert_nil {g2:Nat} (h2:st.obj 49 g2=some [.str (bs t),.sl 0 []])
  (k : ∀st' g',Keep d st st'->g'<st'.gen 25->st'.obj 25 g'=some (entC [(t,0,[])])->st'.hob=st.hob->WO CX false ops l (st'.putO dst (.ref 25 g' 2 0 1)) Q) :
  WN CX ops l dst st Q 128 [.nil,.sv (.int .i64 0),.ref 49 g2 2 0 1]:=by
 refine wni Tryz.f128 ?_;unfold Tryz.f128;simp only[Option.get!_some]
 repeat (first|simp only[go_sem,h2]|simp (disch:=first|exact oa|fail) only[AX,h2]|refine wki ?_|refine wqn ?_|refine vpd 11 [] ?_|refine vpd 15 [] ?_)
 refine k _ (st.gen 25) (keep_of (by repeat (first|exact Kp.refl|refine Kp.put ?_|refine Kp.setH ?_|refine Kp.newset ?_|refine Kp.set rfl ?_|refine Kp.set (by assumption) ?_|refine Kp.new ?_|refine Kp.grow rfl ?_|refine Kp.frzd rfl ?_|refine Kp.ins rfl ?_))) ?_ ?_ ?_
 ·simp only[gen_leave,gen_put,gen_new,gen_enter,if_true]
  omega
 ·simp only[obj_leave,obj_put,obj_new,gen_put,gen_enter,and_self,if_true]
  rfl
 ·simp only[hob_leave,hob_put,hob_new,hob_enter]
def insE (es:List Ent) (p:Nat) (e:Ent):List Ent:=es.take p++e::es.drop p
theorem insE_len {es:List Ent} {p:Nat} {e:Ent} (hp:p<=es.length):(insE es p e).length=es.length+1:=by
 unfold insE
 rw[List.length_append,List.length_cons,List.length_take,List.length_drop]
 omega
theorem insE_end {es:List Ent} {e:Ent}:insE es es.length e=es++[e]:=by
 unfold insE
 rw[List.take_length,List.drop_length]
theorem entC_take {es:List Ent} {p:Nat} (hp:p<=es.length):entC (es.take p)=(entC es).take (p*2)/\entC (es.drop p)=(entC es).drop (p*2):=by
 have h:=entC_app (es.take p) (es.drop p)
 rw[List.take_append_drop]at h
 have hl:(entC (es.take p)).length=p*2:=by rw[entC_len,List.length_take];omega
 constructor
 ·rw[h,<- hl,List.take_left]
 ·rw[h,<- hl,List.drop_left]
theorem entC_ins {es:List Ent} {p:Nat} (hp:p<=es.length) {n:List UInt8} {m:Nat} {cs:List SV}:entC (insE es p (n,m,cs))=(entC es).take (p*2)++[.str (bs n),.sl m cs]++(entC es).drop (p*2):=by
 unfold insE
 rw[entC_app,entC_cons,(entC_take hp).1,(entC_take hp).2,List.append_assoc]
 rfl
theorem sess_insert {g1 g2:Nat} (hp:p<=es.length) (hl:es.length<=100000) (h1:st.obj 25 g1=some (entC es)) (h2:st.obj 49 g2=some [.str (bs t),.sl 0 []])
  (k : ∀st',Keep d st st'->st.gen 25<=st'.gen 25->st'.obj 25 g1=some (entC (insE es p (t,0,[])))->(∀d g,st'.hob d g=(st.hob d g).map fun ts=>ts.map fun t=>t.kill 25 g1)->WO CX false ops l (st'.putO dst (.ref 25 g1 2 0 (es.length+1))) Q) :
  WN CX ops l dst st Q 128 [.ref 25 g1 2 0 es.length,.sv (.int .i64 (p:Int)),.ref 49 g2 2 0 1]:=by
 refine wn_by (st':=insSt st 25 g1 (entC (insE es p (t,0,[])))) (r := .ref 25 g1 2 0 (es.length+1)) (e:=[]) ?_ (k _ { Kp.ins rfl Kp.refl with tmp:=fun u hu=>kill_pl hu rfl } (Nat.le_succ _) (if_pos ⟨rfl,rfl⟩) fun _ _=>rfl)
 have e:CX.X 128 [.st false st [.ref 25 g1 2 0 es.length,.sv (.int .i64 (p:Int)),.ref 49 g2 2 0 1]]=xIns [.st false st [.ref 25 g1 2 0 es.length,.sv (.int .i64 (p:Int)),.ref 49 g2 2 0 1]]:=rfl
 rw[e]
 unfold xIns
 simp only[h1,h2]
 rw[if_pos ⟨by decide,by omega,entC_len es,entC_one es,by omega,by omega,hl⟩,entC_ins hp,Int.toNat_natCast]
end
end Go.Proofs.YtcfjiolldehegaaGreatDoor
namespace Go.Proofs.YtcfjiolldehegaaGreatDoor
open Go.Ev
theorem ent_set : ∀ {es:List Ent} {k:Nat} {n:Nat} {cs:List SV},k<es.length->splice (entC es) (k*2+1) [.sl n cs]=entC (es.set k ((es.getD k default).1,n,cs))
 |e::es,0,n,cs,_=>by
  rw[entC_cons,List.set_cons_zero,entC_cons]
  rfl
 |e::es,k+1,n,cs,h=>by
  have:=ent_set (es:=es) (k:=k) (n:=n) (cs:=cs) (by simpa using h)
  rw[entC_cons,List.set_cons_succ,entC_cons,show (k+1)*2+1=(k*2+1)+2 by omega]
  unfold splice at this ⊢
  rw[List.take_succ_cons,List.take_succ_cons,List.getD_cons_succ,<- this]
  simp only[List.length_cons,List.length_nil]
  rw[show k*2+1+2+(0+1)=(k*2+1+(0+1))+2 by omega,List.drop_succ_cons,List.drop_succ_cons]
  rfl
theorem cmp_zero : ∀ {a b:List UInt8},Lib.compareBytes a b=0->a=b
 | [],[],_=>rfl
 | [],_::_,h=>by simp[Lib.compareBytes]at h
 |_::_,[],h=>by simp[Lib.compareBytes]at h
 |x::a,y::b,h=>by
  unfold Lib.compareBytes at h
  split at h
  ·cases h
  ·rename_i h1
   split at h
   ·cases h
   ·rename_i h2
    have e:x=y:=UInt8.le_antisymm (UInt8.not_lt.1 h2) (UInt8.not_lt.1 h1)
    rw[e,cmp_zero h]
theorem name_at {es:List Ent} {t:List UInt8} {p:Nat} (h:isAt es t p=true):(es.getD p default).1=t:=by
 unfold isAt cmpAt at h
 rw[Bool.and_eq_true]at h
 exact cmp_zero (by simpa using h.2)
section
variable {ops:Array Oper} {l:List Oper} {dst:Option Nat} {st:St} {Q:St->Prop} {d g p:Nat} {es:List Ent} {t:List UInt8} {D:Int}
theorem sess_Set_at {m:Nat} {cs rs:List SV} (ht:t.length<=1048576) (hn:nameP t=true) (hp:PosAt es t p) (hl:es.length<=100000) (hm:m<=256) (hat:isAt es t p=true)
  (hc:Go.Ev.Fn CX 129 [.sl m cs] (.sl m rs)) {tl:TV} (htl:tl = .sv (.sl m cs)\/(tl = .nil/\m=0/\cs=[])) (h:SessR st d g es D)
  (k : ∀st',Keep d st st'->SessR st' d g (es.set p (t,m,rs)) D->WO CX false ops l (st'.putO dst (.sv (.int .i64 0))) Q) :
  WN CX ops l dst st Q 68 [.ptr d g 0,.sv (.str (bs t)),tl]:=by
 have nm:=sess_Name t ht
 rw[hn]at nm
 have hd':2000000<=d:=h.ob
 have hpt:plV tl=true:=by rcases htl with rfl|⟨rfl,_,_⟩<;>rfl
 refine wni Tryz.f68 ?_;unfold Tryz.f68;simp only[Option.get!_some]
 repeat (first|simp only[go_sem,hd',Bool.not_true]|simp (disch:=first|exact oa|fail) only[AX,hd',Bool.not_true]|refine wki ?_|refine wqn ?_|refine vpd 10 [2] ?_|refine vf_of (by first|exact nm) ?_)
 have hpl:plV (.ptr d g 0)=true:=pl_ob h.ob
 refine sess_at hp hl (h.of rfl (fun _=>rfl) (Nat.le_refl _)) ?_
 intro s1 hk hs1
 have k0:s1.tmp 0 = .ptr d g 0:=hk.tmp 0 hpl
 have k1:s1.tmp 1 = .sv (.str (bs t)):=hk.tmp 1 rfl
 have k2:s1.tmp 2=tl:=hk.tmp 2 hpt
 have hu:=hk.kp
 clear hk h
 have hpl:p<es.length:=by
  unfold isAt at hat
  rw[Bool.and_eq_true]at hat
  exact of_decide_eq_true hat.1
 have hset:=ent_set (n:=m) (cs:=rs) hpl
 have hname:(es.getD p default).1=t:=name_at hat
 rw[hname]at hset
 unfold splice at hset
 rcases htl with rfl|⟨rfl,rfl,rfl⟩
 all_goals
  obtain⟨_,hrow⟩:=hs1
  rcases hrow with⟨rfl,_⟩|⟨g1,hg1,ho,hobj⟩
  ·simp at hpl
  have hlen:=entC_len es
  repeat (first|simp only[go_sem,hd',k0,k1,k2,hat,ho,hobj,Bool.not_true,hlen]|simp (disch:=first|exact oa|fail) only[AX,hd',k0,k1,k2,hat,ho,hobj,Bool.not_true,hlen]|refine wki ?_|refine wqn ?_|refine vpd 10 [2] ?_|refine vf_of (by first|exact hc) ?_)
  refine k _ (keep_of (by repeat (first|exact Kp.refl|exact hu|refine Kp.trans ?_ hu|refine Kp.put ?_|refine Kp.setH ?_|refine Kp.newset ?_|refine Kp.set rfl ?_|refine Kp.set (by assumption) ?_|refine Kp.new ?_|refine Kp.grow rfl ?_|refine Kp.frzd rfl ?_|refine Kp.ins rfl ?_))) ⟨hd',.inr ⟨g1,hg1,?_,?_⟩⟩
  ·simp only[hob_leave,hob_put,hob_set]
   rw[ho,List.length_set]
  ·simp only[obj_leave,obj_put,obj_set,and_self,if_true]
   exact congrArg some hset
theorem not_at (es:List Ent) (t:List UInt8):isAt es t es.length=false:=by
 unfold isAt
 rw[decide_eq_false (Nat.lt_irrefl _),Bool.false_and]
theorem insE_set {es:List Ent} {p:Nat} (hp:p<=es.length) {n:List UInt8} {m:Nat} {cs:List SV} {e:Ent} (he:e.1=n):((insE es p e).getD p default).1=n/\(insE es p e).set p (n,m,cs)=insE es p (n,m,cs):=by
 have hl:(es.take p).length=p:=by rw[List.length_take];omega
 unfold insE
 constructor
 ·rw[List.getD_eq_getElem?_getD,List.getElem?_append_right (by omega),hl,Nat.sub_self]
  exact he
 ·rw[List.set_append_right _ _ (by omega),hl,Nat.sub_self]
  rfl
theorem sess_Set_new {m:Nat} {cs rs:List SV} (ht:t.length<=1048576) (hn:nameP t=true) (hp:PosAt es t p) (hat:isAt es t p=false) (hl:es.length<16) (hm:m<=256)
  (hc:Go.Ev.Fn CX 129 [.sl m cs] (.sl m rs)) {tl:TV} (htl:tl = .sv (.sl m cs)\/(tl = .nil/\m=0/\cs=[])) (h:SessR st d g es D)
  (k : ∀st',Keep d st st'->SessR st' d g (insE es p (t,m,rs)) D->WO CX false ops l (st'.putO dst (.sv (.int .i64 0))) Q) :
  WN CX ops l dst st Q 68 [.ptr d g 0,.sv (.str (bs t)),tl]:=by
 have nm:=sess_Name t ht
 rw[hn]at nm
 have hple:=hp.le
 have hd':2000000<=d:=h.ob
 have hpt:plV tl=true:=by rcases htl with rfl|⟨rfl,_,_⟩<;>rfl
 have hpl:plV (.ptr d g 0)=true:=pl_ob h.ob
 refine wni Tryz.f68 ?_;unfold Tryz.f68;simp only[Option.get!_some]
 repeat (first|simp only[go_sem,hd',Bool.not_true]|simp (disch:=first|exact oa|fail) only[AX,hd',Bool.not_true]|refine wki ?_|refine wqn ?_|refine vpd 10 [2] ?_|refine vf_of (by first|exact nm) ?_)
 refine sess_at hp (by omega) (h.of rfl (fun _=>rfl) (Nat.le_refl _)) ?_
 intro s1 hk hs1
 have k0:s1.tmp 0 = .ptr d g 0:=hk.tmp 0 hpl
 have k1:s1.tmp 1 = .sv (.str (bs t)):=hk.tmp 1 rfl
 have k2:s1.tmp 2=tl:=hk.tmp 2 hpt
 have hu:=hk.kp
 clear hk h
 have hlen:=entC_len (insE es p (t,0,[]))
 rw[insE_len hple]at hlen
 have hset:=ent_set (es:=insE es p (t,0,[])) (k:=p) (n:=m) (cs:=rs) (by rw[insE_len hple];omega)
 rw[(insE_set (m:=m) (cs:=rs) hple rfl).1,(insE_set hple rfl).2]at hset
 unfold splice at hset
 rcases htl with rfl|⟨rfl,rfl,rfl⟩
 all_goals
  obtain⟨_,hrow⟩:=hs1
  rcases hrow with⟨rfl,ho⟩|⟨g1,hg1,ho,hobj⟩
  ·have hp0:p=0:=by simpa using hple
   subst hp0
   repeat (first|simp only[go_sem,hd',k0,k1,k2,hat,ho,Bool.not_true,Bool.not_false]|simp (disch:=first|exact oa|fail) only[AX,hd',k0,k1,k2,hat,ho,Bool.not_true,Bool.not_false]|refine wki ?_|refine wqn ?_|refine vpd 10 [2] ?_)
   refine sess_insert_nil (d:=d) (t:=t) (g2:=s1.gen 49) ?_ ?_
   ·simp only[obj_put,obj_new,gen_put,and_self,if_true]
   intro s2 g2 hk2 hg2 hobj2 hhob2
   have j0:s2.tmp 0 = .ptr d g 0:=(hk2.tmp 0 (by simp only[tmp_put,tmp_new,k0,reduceIte,Nat.reduceEqDiff];exact hpl)).trans (by simp only[tmp_put,tmp_new,k0,reduceIte,Nat.reduceEqDiff])
   have j41:s2.tmp 41 = .ptr d g 0:=(hk2.tmp 41 hpl).trans rfl
   have j7:s2.tmp 7 = .sv (.int .i64 0):=(hk2.tmp 7 rfl).trans rfl
   have j2:s2.tmp 2=s1.tmp 2:=(hk2.tmp 2 (by simp only[tmp_put,tmp_new,k2,reduceIte,Nat.reduceEqDiff];rfl)).trans (by simp only[tmp_put,tmp_new,k2,reduceIte,Nat.reduceEqDiff])
   have j2:=j2.trans k2
   have hob2:s2.hob d g=some [.nil,.sv (.int .i64 D)]:=by rw[hhob2];exact ho
   have hobj2:s2.obj 25 g2=some [.str (bs t),.sl 0 []]:=hobj2
   have hu2:=hk2.kp
   clear hk2 hhob2 k0 k1 k2
   repeat (first|simp only[go_sem,hd',j0,j41,j7,j2,hob2,hobj2]|simp (disch:=first|exact oa|fail) only[AX,hd',j0,j41,j7,j2,hob2,hobj2]|refine wki ?_|refine wqn ?_|refine vpd 10 [2] ?_|refine vf_of (by first|exact hc) ?_)
   refine k _ (keep_of (by repeat (first|exact Kp.refl|exact hu2|exact hu|refine Kp.trans ?_ hu2|refine Kp.trans ?_ hu|refine Kp.put ?_|refine Kp.setH ?_|refine Kp.newset ?_|refine Kp.set rfl ?_|refine Kp.set (by assumption) ?_|refine Kp.new ?_|refine Kp.grow rfl ?_|refine Kp.frzd rfl ?_|refine Kp.ins rfl ?_))) ⟨hd',.inr ⟨g2,?_,?_,?_⟩⟩
   ·simp only[gen_leave,gen_put,gen_set,gen_setH]
    exact hg2
   ·simp only[hob_leave,hob_put,hob_set,hob_setH,and_self,if_true]
    rfl
   ·simp only[obj_leave,obj_put,obj_set,and_self,if_true]
    rfl
  ·repeat (first|simp only[go_sem,hd',k0,k1,k2,hat,ho,hobj,Bool.not_true,Bool.not_false]|simp (disch:=first|exact oa|fail) only[AX,hd',k0,k1,k2,hat,ho,hobj,Bool.not_true,Bool.not_false]|refine wki ?_|refine wqn ?_|refine vpd 10 [2] ?_)
   refine sess_insert (d:=d) (t:=t) (es:=es) (g1:=g1) (g2:=s1.gen 49) hple (by omega) ?_ ?_ ?_
   ·simp only[obj_put,obj_new]
    rw[if_neg (by omega)]
    exact hobj
   ·simp only[obj_put,obj_new,gen_put,and_self,if_true]
   intro s2 hk2 hg2 hobj2 hhob2
   have j0:s2.tmp 0 = .ptr d g 0:=(hk2.tmp 0 (by simp only[tmp_put,tmp_new,k0,reduceIte,Nat.reduceEqDiff];exact hpl)).trans (by simp only[tmp_put,tmp_new,k0,reduceIte,Nat.reduceEqDiff])
   have j41:s2.tmp 41 = .ptr d g 0:=(hk2.tmp 41 hpl).trans rfl
   have j7:s2.tmp 7 = .sv (.int .i64 (p:Int)):=(hk2.tmp 7 rfl).trans rfl
   have j2:s2.tmp 2=s1.tmp 2:=(hk2.tmp 2 (by simp only[tmp_put,tmp_new,k2,reduceIte,Nat.reduceEqDiff];rfl)).trans (by simp only[tmp_put,tmp_new,k2,reduceIte,Nat.reduceEqDiff])
   have j2:=j2.trans k2
   have hob2:s2.hob d g=some [.undef,.sv (.int .i64 D)]:=by
    rw[hhob2]
    simp only[hob_put,hob_new]
    rw[ho]
    simp only[Option.map_some,List.map_cons,List.map_nil,TV.kill,and_self,if_true]
   have hgen2:g1<s2.gen 25:=Nat.lt_of_lt_of_le hg1 (by simpa only[gen_put,gen_new,reduceIte,Nat.reduceEqDiff]using hg2)
   have hu2:=hk2.kp
   generalize hE:entC (insE es p (t,0,[]))=E at *
   clear hk2 hhob2 k0 k1 k2
   repeat (first|simp only[go_sem,hd',j0,j41,j7,j2,hob2,hobj2,hlen]|simp (disch:=first|exact oa|fail) only[AX,hd',j0,j41,j7,j2,hob2,hobj2,hlen]|refine wki ?_|refine wqn ?_|refine vpd 10 [2] ?_|refine vf_of (by first|exact hc) ?_)
   refine k _ (keep_of (by repeat (first|exact Kp.refl|exact hu2|exact hu|refine Kp.trans ?_ hu2|refine Kp.trans ?_ hu|refine Kp.put ?_|refine Kp.setH ?_|refine Kp.newset ?_|refine Kp.set rfl ?_|refine Kp.set (by assumption) ?_|refine Kp.new ?_|refine Kp.grow rfl ?_|refine Kp.frzd rfl ?_|refine Kp.ins rfl ?_))) ⟨hd',.inr ⟨g1,?_,?_,?_⟩⟩
   ·simp only[gen_leave,gen_put,gen_set,gen_setH]
    exact hgen2
   ·simp only[hob_leave,hob_put,hob_set,hob_setH,and_self,if_true]
    rw[insE_len hple]
   ·simp only[obj_leave,obj_put,obj_set,and_self,if_true]
    exact congrArg some hset
theorem sess_Set_end {m:Nat} {cs rs:List SV} (ht:t.length<=1048576) (hn:nameP t=true) (hp:PosAt es t es.length) (hl:es.length<16) (hm:m<=256)
  (hc:Go.Ev.Fn CX 129 [.sl m cs] (.sl m rs)) {tl:TV} (htl:tl = .sv (.sl m cs)\/(tl = .nil/\m=0/\cs=[])) (h:SessR st d g es D)
  (k : ∀st',Keep d st st'->SessR st' d g (es++[(t,m,rs)]) D->WO CX false ops l (st'.putO dst (.sv (.int .i64 0))) Q) :
  WN CX ops l dst st Q 68 [.ptr d g 0,.sv (.str (bs t)),tl]:=
 sess_Set_new ht hn hp (not_at es t) hl hm hc htl h fun st' hk hs=>k st' hk (by rw[insE_end]at hs;exact hs)
end
end Go.Proofs.YtcfjiolldehegaaGreatDoor
namespace Go.Proofs.YtcfjiolldehegaaGreatDoor
open Go.Ev
section
variable {ops:Array Oper} {l:List Oper} {dst:Option Nat} {st:St} {Q:St->Prop} {d g p:Nat} {es:List Ent} {t:List UInt8} {D:Int}
theorem sess_Let_end {x:List UInt8} {qs:List Rat} (ht:t.length<=1048576) (hn:nameP t=true) (hp:PosAt es t es.length) (hl:es.length<16) (hx:x.length<=100000) (hx2:parseP x=(0,qs)) (hm:qs.length<=256)
  (h:SessR st d g es D)
  (k : ∀st',Keep d st st'->SessR st' d g (es++[(t,qs.length,rvsC qs)]) D->WO CX false ops l (st'.putO dst (.sv (.int .i64 0))) Q) :
  WN CX ops l dst st Q 36 [.ptr d g 0,.sv (.str (bs t)),.sv (.str (bs x))]:=by
 have nm:=sess_Name t ht
 rw[hn]at nm
 have hP:=data_Parse x hx
 have hz : ∀q∈(parseP x).2,szR q 500:=parse_sz
 rw[hx2]at hP hz
 have hc:=sess_copied (rvsC_row (L:=500) qs hz) (by omega) (by omega) (by omega)
 have hd':2000000<=d:=h.ob
 have hpl:plV (.ptr d g 0)=true:=pl_ob h.ob
 refine wni Tryz.f36 ?_;unfold Tryz.f36;simp only[Option.get!_some]
 repeat (first|simp only[go_sem,hd',Bool.not_true]|simp (disch:=first|exact oa|fail) only[AX,hd',Bool.not_true]|refine wki ?_|refine wqn ?_|refine vf_of (by first|exact nm|exact hP) ?_)
 refine sess_Set_end ht hn hp hl hm hc (.inl rfl) (h.of rfl (fun _=>rfl) (Nat.le_refl _)) ?_
 intro s1 hk hs1
 repeat (first|simp only[go_sem]|simp (disch:=first|exact oa|fail) only[AX]|refine wki ?_|refine wqn ?_)
 exact k _ (keep_of (by repeat (first|exact Kp.refl|exact hk.kp|refine Kp.trans ?_ hk.kp|refine Kp.put ?_|refine Kp.setH ?_|refine Kp.newset ?_|refine Kp.set rfl ?_|refine Kp.set (by assumption) ?_|refine Kp.new ?_|refine Kp.grow rfl ?_|refine Kp.frzd rfl ?_|refine Kp.ins rfl ?_))) (hs1.of rfl (fun _=>rfl) (Nat.le_refl _))
theorem sess_Get_atS {rs:List SV} (hp:PosAt es t p) (hl:es.length<=100000) (hat:isAt es t p=true) (hc:Go.Ev.Fn CX 129 [.sl (es.getD p default).2.1 (es.getD p default).2.2] (.sl (es.getD p default).2.1 rs)) (h:SessR st d g es D)
  (k : ∀st',Same st st'->WO CX false ops l (st'.putO dst (.sv (.tup [.sl (es.getD p default).2.1 rs,.int .i64 0]))) Q) :
  WN CX ops l dst st Q 102 [.ptr d g 0,.sv (.str (bs t))]:=by
 have hd':2000000<=d:=h.ob
 have hpl:plV (.ptr d g 0)=true:=pl_ob h.ob
 refine wni Tryz.f102 ?_;unfold Tryz.f102;simp only[Option.get!_some]
 repeat (first|simp only[go_sem,hd']|simp (disch:=first|exact oa|fail) only[AX,hd']|refine wki ?_|refine wqn ?_)
 refine sess_atS hp hl (h.of rfl (fun _=>rfl) (Nat.le_refl _)) ?_
 intro s1 hk
 have k0:s1.tmp 0 = .ptr d g 0:=hk.tmp 0
 have hs1:SessR s1 d g es D:=h.of (by rw[hk.hob];rfl) (fun _=>(hk.obj _ _).trans rfl) (by rw[hk.gen];exact Nat.le_refl _)
 clear h
 obtain⟨_,hrow⟩:=hs1
 have hpl:p<es.length:=by
  unfold isAt at hat
  rw[Bool.and_eq_true]at hat
  exact of_decide_eq_true hat.1
 rcases hrow with⟨rfl,_⟩|⟨g1,hg1,ho,hobj⟩
 ·simp at hpl
 obtain⟨rest,hx⟩:=ent_at hpl
 have hx1:(entC es).drop (p*2+1) = .sl (es.getD p default).2.1 (es.getD p default).2.2::rest:=by
  rw[<- List.drop_drop,hx]
  rfl
 have hlen:=entC_len es
 repeat (first|simp only[go_sem,hd',k0,hat,ho,hobj,Bool.not_true,hlen,hx1,List.head?_cons]|simp (disch:=first|exact oa|fail) only[AX,hd',k0,hat,ho,hobj,Bool.not_true,hlen,hx1,List.head?_cons]|refine wki ?_|refine wqn ?_|refine vf_of (by first|exact hc) ?_)
 exact k _ (same_leave (vs:=[.ptr d g 0,.sv (.str (bs t))]) hk rfl rfl rfl rfl rfl rfl rfl rfl)
end
end Go.Proofs.YtcfjiolldehegaaGreatDoor
namespace Go.Ev
def dgN:Nat->Nat->List UInt8
 |0,_=>[]
 |k+1,n=>UInt8.ofNat (48+n%10)::dgN k (n/10)
theorem dgN_len : ∀ (k n:Nat),(dgN k n).length=k
 |0,_=>rfl
 |k+1,n=>by rw[dgN,List.length_cons,dgN_len k]
theorem dgN_digs : ∀ (k n:Nat),digs (dgN k n)=true
 |0,_=>rfl
 |k+1,n=>by
  rw[dgN]
  unfold digs
  rw[List.all_cons,dig_ofNat,Bool.true_and]
  exact dgN_digs k _
theorem natLE_dgN : ∀ (k n:Nat),natLE (dgN k n)=n%10^k
 |0,n=>by rw[dgN,natLE,Nat.pow_zero,Nat.mod_one]
 |k+1,n=>by
  rw[dgN,natLE,dig_of,natLE_dgN k,Nat.pow_succ',Nat.mod_mul]
  omega
theorem dgN_snoc : ∀ (k n:Nat),dgN (k+1) n=dgN k n++[UInt8.ofNat (48+n/10^k%10)]
 |0,n=>by simp[dgN]
 |k+1,n=>by
  rw[dgN,dgN_snoc k,dgN,List.cons_append,Nat.div_div_eq_div_mul,<- Nat.pow_succ']
theorem digs_app {a b:List UInt8}:digs (a++b)=(digs a&&digs b):=by unfold digs;rw[List.all_append]
theorem dgR_strip {l:List UInt8} {n:Nat} (hd:digs l=true) (hv:natLE l=n) (hn:n≠0) :
  (∃c:UInt8,l.getLast?=some c/\c≠48/\l=dgR n)\/(∃l',l=l'++[48]/\l'≠[]/\digs l'=true/\natLE l'=n):=by
 have hne:l≠[]:=fun h=>by subst h;exact hn hv.symm
 obtain⟨a,c,rfl⟩ : ∃a c,l=a++[c]:=⟨l.dropLast,l.getLast hne,(List.dropLast_concat_getLast hne).symm⟩
 by_cases hc:c=48
 ·subst hc
  right
  rw[digs_app,Bool.and_eq_true]at hd
  have h2:natLE a=n:=by
   rw[natLE_append]at hv
   simpa[natLE]using hv
  refine⟨a,rfl,fun h => ?_,hd.1,h2⟩
  subst h
  exact hn h2.symm
 ·left
  refine⟨c,by simp,hc,?_⟩
  rw[<- hv]
  exact(dgR_unique hd (.inr ⟨a,c,rfl,hc⟩)).symm
theorem dec_pos {n:Nat} (h:n≠0):dec n=(dgR n).reverse:=by unfold dec;rw[if_neg h]
theorem dgR_len_le {n k:Nat} (h:n<10^k):(dgR n).length<=k:=by
 induction k generalizing n with
 |zero=>
  have:n=0:=by simpa using h
  subst this
  rw[dgR_zero]
  simp
 |succ k ih=>
  by_cases hn:n=0
  ·subst hn;rw[dgR_zero];simp
  ·rw[dgR_pos hn,List.length_cons]
   have:=ih (n:=n/10) (by rw[Nat.pow_succ]at h;omega)
   omega
theorem dec_len_le {n k:Nat} (h:n<10^k) (hk:1<=k):(dec n).length<=k:=by
 unfold dec
 split
 ·simpa using hk
 ·rw[List.length_reverse]
  exact dgR_len_le h
def u8c (l:List UInt8):List SV:=l.map fun b => .int .u8 (b.toNat:Int)
theorem u8c_len (l:List UInt8):(u8c l).length=l.length:=by simp[u8c]
theorem u8c_app (a b:List UInt8):u8c (a++b)=u8c a++u8c b:=by simp[u8c]
theorem u8c_bytes (l:List UInt8):bytesOf (u8c l)=some l:=by
 induction l with
 |nil=>rfl
 |cons b l ih=>
  show (match bytesOf (u8c l) with|some l=>some (UInt8.ofNat (b.toNat:Int).toNat::l)|none=>none)=_
  rw[ih]
  simp
end Go.Ev
namespace Go.Proofs.YtcfjiolldehegaaGreatDoor
open Go.Ev
theorem set_splice {cs:List SV} {i:Nat} {v:SV} (h:i<cs.length):cs.take i++[v]++cs.drop (i+1)=cs.set i v:=by
 rw[List.set_eq_take_append_cons_drop,if_pos h]
 simp
theorem exp_rev {s:St} {cs:List SV} {n:Nat}:expOf s [.impref cs 1 0 n]=[s.obj 1000000 0]:=rfl
theorem rev_fn (D:List UInt8) (rest:List SV) (hl:D.length<=1099511627776) : ∃r exps,(r = .tup []/\exps=[some (u8c D.reverse++rest)]) /\
  FnI CX 183 [.impref (u8c D++rest) 1 0 D.length] r exps:=by
 refine FnI_of (fn:=Tryz.f183) (body:=(Tryz.f183).body.get!) (by kernel_rfl) (by kernel_rfl) (by kernel_rfl) (fun _=>rfl) (Nat.le_of_ble_eq_true (by kernel_rfl)) ?_
 unfold Tryz.f183
 simp only[Option.get!_some,exp_rev]
 generalize hn:D.length=n at *
 have hD : ∀k,k<n->(u8c D++rest)[k]?=some (.int .u8 ((D.getD k 0).toNat:Int)):=by
  intro k hk
  rw[List.getElem?_append_left (by rw[u8c_len];omega)]
  unfold u8c
  rw[List.getElem?_map,List.getD_eq_getElem?_getD,List.getElem?_eq_getElem (by omega)]
  rfl
 have hN:n<=(u8c D++rest).length:=by rw[List.length_append,u8c_len];omega
 have hfin : ∀cs:List SV,cs.length=(u8c D++rest).length->(∀k,cs[k]?=if k<n then (u8c D++rest)[n-1-k]? else (u8c D++rest)[k]?)->cs=u8c D.reverse++rest:=by
  intro cs h1 h2
  refine List.ext_getElem? fun k => ?_
  rw[h2 k]
  split
  ·rename_i hk
   rw[hD _ (by omega),List.getElem?_append_left (by rw[u8c_len,List.length_reverse];omega)]
   unfold u8c
   rw[List.getElem?_map,List.getElem?_reverse (by omega),List.getD_eq_getElem?_getD,hn,List.getElem?_eq_getElem (by omega)]
   rfl
  ·rw[List.getElem?_append_right (by rw[u8c_len];omega),List.getElem?_append_right (by rw[u8c_len,List.length_reverse];omega),u8c_len,u8c_len,List.length_reverse]
 generalize hcs:u8c D++rest=C0 at *
 generalize hR:u8c D.reverse++rest=R at *
 repeat (first|simp only[go_sem,N0]|simp (disch:=first|exact oa|fail) only[AX,N0]|refine wki ?_|refine wqn ?_|refine vpx [] ?_)
 refine vp_loop_inv (fun s=>s.tmp 0 = .ref 1000000 0 1 0 n /\ ∃ (i:Nat) (j:Int) (cs:List SV),s.tmp 2 = .sv (.int .i64 (i:Int))/\s.tmp 3 = .sv (.int .i64 j)/\s.obj 1000000 0=some cs/\(i:Int)+j+1=n/\(i:Int)<=j+2/\cs.length=C0.length /\
   ∀k:Nat,cs[k]?=if k<n/\(k<i\/n<=k+i) then C0[n-1-k]? else C0[k]?)
  (fun s=>match s.tmp 2 with | .sv (.int _ i)=>n-i.toNat|_=>0) ?_ ?_
 ·refine⟨rfl,0,_,C0,rfl,rfl,rfl,by omega,by omega,rfl,fun k => ?_⟩
  rw[if_neg (by omega)]
 rintro s ⟨i0,i,j,cs,i2,i3,iO,hij,hle,hlen,hk⟩
 by_cases hend:(i:Int)<j
 ·obtain⟨m,rfl⟩ : ∃m:Nat,j=m:=⟨j.toNat,by omega⟩
  have hi':=hk i
  rw[if_neg (by omega),hD i (by omega)]at hi'
  have hm':=hk m
  rw[if_neg (by omega),hD m (by omega)]at hm'
  have h1:(cs.drop i).head?=some (.int .u8 ((D.getD i 0).toNat:Int)):=by rw[List.head?_drop];exact hi'
  have h2:(cs.drop m).head?=some (.int .u8 ((D.getD m 0).toNat:Int)):=by rw[List.head?_drop];exact hm'
  generalize hx:(D.getD i 0).toNat=x at *
  generalize hy:(D.getD m 0).toNat=y at *
  have s1:cs.take i++[SV.int .u8 (y:Int)]++cs.drop (i+1)=cs.set i (.int .u8 (y:Int)):=set_splice (by omega)
  have s2:(cs.set i (.int .u8 (y:Int))).take m++[SV.int .u8 (x:Int)]++(cs.set i (.int .u8 (y:Int))).drop (m+1)=(cs.set i (.int .u8 (y:Int))).set m (.int .u8 (x:Int)):=set_splice (by rw[List.length_set];omega)
  have l2:(cs.set i (.int .u8 (y:Int))).length=cs.length:=List.length_set
  repeat (first|simp only[go_sem,i0,i2,i3,iO,h1,h2,hlen,s1,s2,l2]|simp (disch:=first|exact oa|fail) only[AX,i0,i2,i3,iO,h1,h2,hlen,s1,s2,l2]|refine wki ?_|refine wqn ?_|refine vpx [] ?_)
  refine⟨⟨i+1,((m-1:Nat):Int),_,rfl,rfl,rfl,by omega,by omega,by rw[List.length_set,List.length_set];exact hlen,fun k => ?_⟩,by omega⟩
  by_cases hkm:m=k
  ·subst hkm
   rw[List.getElem?_set_self (by rw[List.length_set];omega),if_pos (by omega),show n-1-m=i by omega,hD i (by omega),hx]
  ·rw[List.getElem?_set_ne hkm]
   by_cases hki:i=k
   ·subst hki
    rw[List.getElem?_set_self (by omega),if_pos (by omega),show n-1-i=m by omega,hD m (by omega),hy]
   ·rw[List.getElem?_set_ne hki,hk k]
    by_cases hc:k<n/\(k<i\/n<=k+i)
    ·rw[if_pos hc,if_pos (by omega)]
    ·rw[if_neg hc,if_neg (by omega)]
 ·have he:cs=R:=by
   refine hfin cs hlen fun k => ?_
   rw[hk k]
   by_cases hkn:k<n
   ·rw[if_pos hkn]
    by_cases hc:k<n/\(k<i\/n<=k+i)
    ·rw[if_pos hc]
    ·rw[if_neg hc]
     congr 1
     omega
   ·rw[if_neg hkn,if_neg (by omega)]
  subst he
  repeat (first|simp only[go_sem,i0,i2,i3,iO]|simp (disch:=first|exact oa|fail) only[AX,i0,i2,i3,iO]|refine wki ?_|refine wqn ?_|refine vpx [] ?_)
  exact⟨_,_,⟨rfl,rfl⟩,rfl,rfl⟩
theorem u_bytes:Tryz.prog.underlying 30=some (.slice 5):=by kernel_rfl
theorem u_str:Tryz.prog.underlying 9=some .string:=by kernel_rfl
theorem u_byte:isInt Tryz.prog 5=some .u8:=by kernel_rfl
theorem dig_ix (r:Nat):([48,49,50,51,52,53,54,55,56,57]:List UInt8)[r%10]?=some (UInt8.ofNat (48+r%10)):=by
 have key : ∀k:Nat,k<10->([48,49,50,51,52,53,54,55,56,57]:List UInt8)[k]?=some (UInt8.ofNat (48+k)):=by decide
 exact key _ (Nat.mod_lt _ (by omega))
theorem u8c_snoc (l:List UInt8) (b:UInt8):u8c l++[SV.int .u8 (b.toNat:Int)]=u8c (l++[b]):=by simp[u8c]
theorem len_of_dec {L:List UInt8} {n m K:Nat} (hn:n<10^K) (h:natLE L+10^L.length*m=n) (hm:m≠0):L.length<K:=by
 have h1:10^L.length*1<=10^L.length*m:=Nat.mul_le_mul_left _ (by omega)
 exact(Nat.pow_lt_pow_iff_right (a:=10) (by omega)).1 (by omega)
theorem nat_Print (n K:Nat) (hK:n<10^K) (hk:K<=4000000):Go.Ev.Fn CX 95 [natV (lim n)] (.str (bs (dec n))):=by
 have hlim:=lim_ten hK
 have hT:=nat_Trim (lim n) (okL_lim _) (by omega)
 rw[wth_lim]at hT
 by_cases hn:n=0
 ·subst hn
  rw[show dec 0=[48] from rfl]
  rw[lim_zero]at hT ⊢
  refine fni Tryz.f95 ?_;unfold Tryz.f95;simp only[Option.get!_some]
  repeat (first|simp only[go_sem,mk_bs]|simp (disch:=first|exact oa|fail) only[AX,mk_bs]|refine wki ?_|refine wqn ?_|refine vf_of (by first|exact hT) ?_)
 have hpos:=lim_pos hn
 refine fni Tryz.f95 ?_;unfold Tryz.f95;simp only[Option.get!_some]
 repeat (first|simp only[go_sem]|simp (disch:=first|exact oa|fail) only[AX]|refine wki ?_|refine wqn ?_|refine vf_of (by first|exact hT) ?_)
 refine vp_mono (R:=fun e s=>e = .exit 0 /\ ∃l:List UInt8,s.tmp 3 = .ref 26 0 1 0 l.length/\s.obj 26 0=some (u8c l)/\digs l=true/\natLE l=n/\l.length<=5000000) ?_ ?_
 ·refine vp_loop_inv (fun s => ∃ (m:Nat) (L:List UInt8),s.tmp 0 = .sv (natV (lim m))/\m<=n/\digs L=true/\natLE L+10^L.length*m=n/\L.length<=4000009 /\
    ((L=[]/\s.tmp 3 = .nil/\s.gen 26=0)\/(L≠[]/\s.tmp 3 = .ref 26 0 1 0 L.length/\s.obj 26 0=some (u8c L))))
   (fun s=>match s.tmp 0 with | .sv (.sl _ cs)=>(match decL cs with|some l=>wth l|none=>0)|_=>0) ?_ ?_
  ·exact⟨n,[],rfl,Nat.le_refl _,rfl,by simp[natLE],by simp,.inl ⟨rfl,rfl,rfl⟩⟩
  rintro s ⟨m,L,i0,hmn,hdL,hv,hL,hc⟩
  by_cases hm:m=0
  ·subst hm
   rw[Nat.mul_zero,Nat.add_zero]at hv
   rcases hc with⟨rfl,_⟩|⟨_,i3,iO⟩
   ·exact absurd hv.symm hn
   ·rw[lim_zero]at i0
    repeat (first|simp only[go_sem,i0,i3,iO]|simp (disch:=first|exact oa|fail) only[AX,i0,i3,iO]|refine wki ?_|refine wqn ?_)
    exact⟨L,rfl,rfl,hdL,hv,by omega⟩
  ·have hLl:=len_of_dec hK hv hm
   have h1:=lim_pos hm
   have h2:=lim_ten (Nat.lt_of_le_of_lt hmn hK)
   have hs:=nat_small (lim m) 1000000000 (okL_lim _) (by omega) (by omega) (by omega)
   rw[wth_lim]at hs
   have hr0:m%1000000000<1000000000:=Nat.mod_lt _ (by omega)
   have hdm:m%1000000000+1000000000*(m/1000000000)=m:=Nat.mod_add_div _ _
   have hlt:m/1000000000<m:=Nat.div_lt_self (by omega) (by omega)
   generalize hr:m%1000000000=r0 at *
   generalize hq:m/1000000000=q at *
   repeat (first|simp only[go_sem,i0]|simp (disch:=first|exact oa|fail) only[AX,i0]|refine wki ?_|refine wqn ?_|refine vf_of (by first|exact hs) ?_)
   refine vp_loop_inv (fun s'=>s'.tmp 4 = .sv (natV (lim q)) /\ ∃i:Nat,s'.tmp 19 = .sv (.int .i64 (i:Int))/\i<=9/\s'.tmp 5 = .sv (limb (r0/10^i)) /\
     ((L++dgN i r0=[]/\s'.tmp 3 = .nil/\s'.gen 26=0)\/(L++dgN i r0≠[]/\s'.tmp 3 = .ref 26 0 1 0 (L++dgN i r0).length/\s'.obj 26 0=some (u8c (L++dgN i r0)))))
    (fun s=>match s.tmp 19 with | .sv (.int _ i)=>9-i.toNat|_=>0) ?_ ?_
   ·refine⟨rfl,0,rfl,by omega,by rw[Nat.pow_zero,Nat.div_one];rfl,?_⟩
    rw[show dgN 0 r0=[] from rfl,List.append_nil]
    exact hc
   rintro s2 ⟨j4,i,j19,hi,j5,hc2⟩
   have hlen:(L++dgN i r0).length<=4000100:=by rw[List.length_append,dgN_len];omega
   by_cases hend:i=9
   ·subst hend
    have hL9:L++dgN 9 r0≠[]:=by
     intro h
     have:=congrArg List.length h
     rw[List.length_append,dgN_len]at this
     simp at this
    rcases hc2 with⟨h0,_⟩|⟨_,j3,jO⟩
    ·exact absurd h0 hL9
    ·repeat (first|simp only[go_sem,j4,j19,j5,j3,jO]|simp (disch:=first|exact oa|fail) only[AX,j4,j19,j5,j3,jO]|refine wki ?_|refine wqn ?_)
     refine⟨⟨q,L++dgN 9 r0,rfl,by omega,?_,?_,by rw[List.length_append,dgN_len];omega,.inr ⟨hL9,by rw[List.length_append],rfl⟩⟩,?_⟩
     ·rw[digs_app,hdL,dgN_digs];rfl
     ·rw[natLE_append,natLE_dgN,List.length_append,dgN_len,Nat.mod_eq_of_lt hr0,<- hv,<- hdm,Nat.pow_add,Nat.mul_add]
      have:10^L.length*10^9*q=10^L.length*(1000000000*q):=by rw[Nat.mul_assoc]
      omega
     ·rw[decL_map (okL_lim _),decL_map (okL_lim _)]
      dsimp only
      rw[wth_lim,wth_lim]
      exact hlt
   ·have hx:=dig_ix (r0/10^i)
    have hsn:dgN (i+1) r0=dgN i r0++[UInt8.ofNat (48+r0/10^i%10)]:=dgN_snoc i r0
    have hdd:r0/10^i/10=r0/10^(i+1):=by rw[Nat.div_div_eq_div_mul,<- Nat.pow_succ]
    have hx32:r0/10^i<1000000000:=Nat.lt_of_le_of_lt (Nat.div_le_self _ _) hr0
    have hap:=u8c_snoc (L++dgN i r0) (UInt8.ofNat (48+r0/10^i%10))
    rw[List.append_assoc,<- hsn]at hap
    have hlen1:(L++dgN (i+1) r0).length=(L++dgN i r0).length+1:=by rw[List.length_append,List.length_append,dgN_len,dgN_len];omega
    have hne1:L++dgN (i+1) r0≠[]:=by intro h;rw[h]at hlen1;simp at hlen1
    have hcl:=u8c_len (L++dgN i r0)
    generalize hL2:L++dgN (i+1) r0=L2 at *
    have hL3:L.length+(dgN (i+1) r0).length=L2.length:=by rw[<- hL2,List.length_append]
    generalize L++dgN i r0=L1 at *
    generalize r0/10^i=x at *
    have e10:(x:Int).tmod 10=((x%10:Nat):Int):=by rw[Int.tmod_eq_emod_of_nonneg (by omega)];omega
    have e11:(x:Int).tdiv 10=((x/10:Nat):Int):=by rw[Int.tdiv_eq_ediv_of_nonneg (by omega)];omega
    generalize UInt8.ofNat (48+x%10)=b at *
    clear hdm hlt hv hr0 hsn hLl
    rcases hc2 with⟨h0,j3,jg⟩|⟨h0,j3,jO⟩
    ·subst h0
     simp only[u8c,List.map_nil,List.nil_append]at hap
     repeat (first|simp only[go_sem,j4,j19,j5,j3,jg,mk_bs,vo_ix,idxB_bs,hx,e10,e11,Int.toNat_natCast]|simp (disch:=first|exact oa|fail) only[AX,j4,j19,j5,j3,jg,mk_bs,vo_ix,idxB_bs,hx,e10,e11,Int.toNat_natCast]|refine wki ?_|refine wqn ?_)
     exact⟨⟨i+1,rfl,by omega,by rw[<- hdd],.inr ⟨by rw[hL2];exact hne1,by rw[hL3,hlen1];rfl,by rw[hL2];exact hap⟩⟩,by omega⟩
    ·repeat (first|simp only[go_sem,j4,j19,j5,j3,jO,mk_bs,vo_ix,idxB_bs,hx,hcl,e10,e11,Int.toNat_natCast,N0]|simp (disch:=first|exact oa|fail) only[AX,j4,j19,j5,j3,jO,mk_bs,vo_ix,idxB_bs,hx,hcl,e10,e11,Int.toNat_natCast,N0]|refine wki ?_|refine wqn ?_)
     exact⟨⟨i+1,rfl,by omega,by rw[<- hdd],.inr ⟨by rw[hL2];exact hne1,by first|rw[hL3,hlen1]|rw[hL2,hlen1],by rw[hL2];first|exact hap|(rw[<- hap])⟩⟩,by omega⟩
 rintro e s ⟨rfl,l,i3,iO,hd,hv,hl⟩
 repeat (first|simp only[go_sem]|simp (disch:=first|exact oa|fail) only[AX]|refine wki ?_|refine wqn ?_)
 refine vp_mono (R:=fun e s=>e = .exit 4 /\ ∃rest:List SV,s.tmp 3 = .ref 26 0 1 0 (dgR n).length/\s.obj 26 0=some (u8c (dgR n)++rest)) ?_ ?_
 ·refine vp_loop_inv (fun s => ∃ (l:List UInt8) (rest:List SV),s.tmp 3 = .ref 26 0 1 0 l.length/\s.obj 26 0=some (u8c l++rest)/\digs l=true/\natLE l=n/\l.length<=5000000)
   (fun s=>match s.tmp 3 with | .ref _ _ _ _ n=>n|_=>0) ⟨l,[],i3,by rw[List.append_nil];exact iO,hd,hv,hl⟩ ?_
  rintro s ⟨l,rest,i3,iO,hd,hv,hl⟩
  have hcl:=u8c_len l
  rcases dgR_strip hd hv hn with⟨c,h1,h2,h3⟩|⟨l',rfl,h2,h3,h4⟩
  ·by_cases hl1:l.length<=1
   ·repeat (first|simp only[go_sem,i3,iO]|simp (disch:=first|exact oa|fail) only[AX,i3,iO]|refine wki ?_|refine wqn ?_)
    exact⟨rest,by rw[<- h3],by rw[<- h3]⟩
   ·have hh:((u8c l++rest).drop (l.length-1)).head?=some (.int .u8 (c.toNat:Int)):=by
     rw[List.head?_drop,List.getElem?_append_left (by rw[u8c_len];omega)]
     unfold u8c
     rw[List.getElem?_map,<- List.getLast?_eq_getElem?,h1]
     rfl
    have hc48 : ¬(c.toNat:Int)=48:=fun e=>h2 (UInt8.toNat_inj.1 (by rw[show (48:UInt8).toNat=48 from rfl];omega))
    repeat (first|simp only[go_sem,i3,iO,hh,hc48]|simp (disch:=first|exact oa|fail) only[AX,i3,iO,hh,hc48]|refine wki ?_|refine wqn ?_)
    exact⟨rest,by rw[<- h3],by rw[<- h3]⟩
  ·have hl2:0<l'.length:=List.length_pos_iff.2 h2
   have hll:(l'++[48]).length=l'.length+1:=by simp
   have hh:((u8c (l'++[48])++rest).drop l'.length).head?=some (.int .u8 48):=by
    rw[u8c_app,List.append_assoc,List.drop_append_of_le_length (by rw[u8c_len];exact Nat.le_refl _),List.drop_of_length_le (by rw[u8c_len];exact Nat.le_refl _)]
    rfl
   have e2:u8c (l'++[48])++rest=u8c l'++(.int .u8 48::rest):=by rw[u8c_app,List.append_assoc];rfl
   rw[hll]at i3
   repeat (first|simp only[go_sem,i3,iO,hh,Nat.add_sub_cancel]|simp (disch:=first|exact oa|fail) only[AX,i3,iO,hh,Nat.add_sub_cancel]|refine wki ?_|refine wqn ?_)
   exact⟨⟨l',.int .u8 48::rest,rfl,by first|rfl|(rw[<- e2];exact iO)|exact e2,h3,h4,by omega⟩,by omega⟩
 rintro e s ⟨rfl,rest,i3,iO⟩
 repeat (first|simp only[go_sem]|simp (disch:=first|exact oa|fail) only[AX]|refine wki ?_|refine wqn ?_)
 have hdl:=dgR_len_le hK
 obtain⟨r,exps,⟨rfl,rfl⟩,hf⟩:=rev_fn (dgR n) rest (by omega)
 have htk:(u8c (dgR n).reverse++rest).take (dgR n).length=u8c (dec n):=by
  rw[dec_pos hn,List.take_append_of_le_length (by rw[u8c_len,List.length_reverse];exact Nat.le_refl _),List.take_of_length_le (by rw[u8c_len,List.length_reverse];exact Nat.le_refl _)]
 have hcl:(u8c (dec n)).length=(dgR n).length:=by rw[u8c_len,dec_pos hn,List.length_reverse]
 have hby:=u8c_bytes (dec n)
 repeat (first|simp only[go_sem,i3,iO]|simp (disch:=first|exact oa|fail) only[AX,i3,iO]|refine wki ?_|refine wqn ?_)
 refine vi_of hf rfl ?_
 repeat (first|simp only[go_sem,i3,iO,htk,hby,hcl,mk_bs,u_bytes,u_str,u_byte]|simp (disch:=first|exact oa|fail) only[AX,i3,iO,htk,hby,hcl,mk_bs,u_bytes,u_str,u_byte]|refine wki ?_|refine wqn ?_)
end Go.Proofs.YtcfjiolldehegaaGreatDoor
namespace Go.Proofs.YtcfjiolldehegaaGreatDoor
open Go.Ev
def sgT (s:Bool):List UInt8:=if s then [45] else []
theorem sgT_len (s:Bool):(sgT s).length<=1:=by cases s<;>decide
theorem ratT_eq (q:Rat):ratT q=sgT (decide (q.num<0))++dec q.num.natAbs++(if q.den=1 then [] else 47::dec q.den):=by
 unfold ratT sgT
 by_cases h:q.num<0<;>simp[h]
theorem lim20 {n:Nat} {L:Nat} (h:(lim n).length<=L):n<10^(10*L):=by
 have h1:=wth_lt (okL_lim n)
 rw[wth_lim]at h1
 have h2:4294967296^(lim n).length<=4294967296^L:=Nat.pow_le_pow_right (by omega) h
 have h3:4294967296^L<=(10^10)^L:=Nat.pow_le_pow_left (by decide) L
 rw[<- Nat.pow_mul]at h3
 exact Nat.lt_of_lt_of_le h1 (Nat.le_trans h2 h3)
theorem dec_sign (s:Bool) (n d:List Nat):Go.Ev.Fn CX 94 [ratV s n d] (.str (bs (sgT s))):=by
 have z0:sgT false=[]:=rfl
 have z1:sgT true=[45]:=rfl
 cases s
 ·rw[z0]
  refine fni Tryz.f94 ?_;unfold Tryz.f94;simp only[Option.get!_some]
  repeat (first|simp only[go_sem,mk_bs]|simp (disch:=first|exact oa|fail) only[AX,mk_bs]|refine wki ?_|refine wqn ?_)
 ·rw[z1]
  refine fni Tryz.f94 ?_;unfold Tryz.f94;simp only[Option.get!_some]
  repeat (first|simp only[go_sem,mk_bs]|simp (disch:=first|exact oa|fail) only[AX,mk_bs]|refine wki ?_|refine wqn ?_)
theorem cmpN_one {d:Nat}:(cmpN d 1 != 0) = !(decide (d=1)):=by
 unfold cmpN
 by_cases h:d=1
 ·subst h;rfl
 ·rw[decide_eq_false h]
  by_cases h0:d<1
  ·rw[if_pos h0];rfl
  ·rw[if_neg h0,if_neg h];rfl
theorem dec_Print {v:SV} {q:Rat} {L:Nat} (h:RatA v q L) (hL:1<=L) (hL2:L<=200000):Go.Ev.Fn CX 51 [v] (.str (bs (ratT q))):=by
 have hn:Go.Ev.Fn CX 93 [v] (ratV (decide (q.num<0)) (lim q.num.natAbs) (lim q.den)):=rat_Norm h (by omega)
 obtain⟨z1,z2⟩:=szR_of h hL
 have p1:=nat_Print q.num.natAbs (10*L) (lim20 z1) (by omega)
 have p2:=nat_Print q.den (10*L) (lim20 z2) (by omega)
 have l1:=dec_len_le (lim20 (n:=q.num.natAbs) z1) (by omega)
 have l2:=dec_len_le (lim20 (n:=q.den) z2) (by omega)
 have o1:=nat_Of 1 (by omega)
 have c:=nat_CmpL (N:=q.den) (D:=1) (by omega) (by decide)
 have sg:=dec_sign (decide (q.num<0)) (lim q.num.natAbs) (lim q.den)
 have l0:=sgT_len (decide (q.num<0))
 have cn:=cmpN_one (d:=q.den)
 rw[ratT_eq]
 obtain⟨s,n,d,rfl,-⟩:=h
 generalize decide (q.num<0)=S at *
 generalize q.num.natAbs=N at *
 generalize q.den=D at *
 generalize sgT S=T at *
 by_cases hD:D=1
 ·rw[if_pos hD,List.append_nil]
  rw[decide_eq_true hD]at cn
  refine fni Tryz.f51 ?_;unfold Tryz.f51;simp only[Option.get!_some]
  repeat (first|simp only[go_sem,mk_bs,bs_size,bs_append,cn,Bool.not_true]|simp (disch:=first|exact oa|fail) only[AX,mk_bs,bs_size,bs_append,cn,Bool.not_true]|refine wki ?_|refine wqn ?_|refine vpd 2 [9] ?_|refine vpd 3 [13,14] ?_|refine vf_of (by first|exact hn|exact sg|exact p1|exact o1|exact c) ?_)
 ·rw[if_neg hD]
  rw[decide_eq_false hD]at cn
  refine fni Tryz.f51 ?_;unfold Tryz.f51;simp only[Option.get!_some]
  repeat (first|simp only[go_sem,mk_bs,bs_size,bs_append,cn,Bool.not_false,List.length_append]|simp (disch:=first|exact oa|fail) only[AX,mk_bs,bs_size,bs_append,cn,Bool.not_false,List.length_append]|refine wki ?_|refine wqn ?_|refine vpd 2 [9] ?_|refine vpd 3 [13,14] ?_|refine vf_of (by first|exact hn|exact sg|exact p1|exact o1|exact c|exact p2) ?_)
end Go.Proofs.YtcfjiolldehegaaGreatDoor
namespace Go.Proofs.YtcfjiolldehegaaGreatDoor
open Go.Ev
theorem stat_by {v:SV} {q:Rat} {n:Int} {L:Nat} (hv:RatA v q L) (hL:1<=L) (hL2:L<=10000000) (hn : -9223372036854775808<=n/\n<9223372036854775808) :
  Go.Ev.Fn CX 187 [v,.int .i64 n] (rv (q/(n:Rat))):=by
 have r:=rat_Int n hn
 have d:=rat_Div hv (RatA_rv (int_szR (n:=n) (by omega))) hL (by omega) (by omega)
 generalize decide ((n:Rat)≠0)=b at *
 obtain⟨s,y,d',rfl,-⟩:=hv
 refine fni Tryz.f187 ?_;unfold Tryz.f187;simp only[Option.get!_some]
 repeat (first|simp only[go_sem]|simp (disch:=first|exact oa|fail) only[AX]|refine wki ?_|refine wqn ?_|refine vpd 1 [] ?_|refine vf_of (by first|exact r|exact d) ?_)
theorem stat_Sum {cs:List SV} {l:List Rat} {L:Nat} (h:RowC cs l L) (hL:1<=L) (hL2:L<=100000) (hl:l.length<=12) :
  Go.Ev.Fn CX 110 [.sl l.length cs] (rv (sumR l)):=by
 have r0:=rat_Int 0 (by omega)
 have hlen:=row_len h
 have hz:=row_sz hL h
 refine fni Tryz.f110 ?_;unfold Tryz.f110;simp only[Option.get!_some]
 repeat (first|simp only[go_sem]|simp (disch:=first|exact oa|fail) only[AX]|refine wki ?_|refine wqn ?_|refine vf_of (by first|exact r0) ?_)
 refine vp_loop_inv (fun s=>s.tmp 7 = .sv (.sl l.length cs)/\s.tmp 8 = .sv (.int .i64 (l.length:Int))/\s.tmp 2 = .ptr 2 0 0/\s.obj 2 0=some [.bool false,.sl 0 [],.sl 0 []]/\s.tmp 3 = .ptr 3 0 0 /\
   ∃i:Nat,s.tmp 9 = .sv (.int .i64 (i:Int))/\i<=l.length/\s.obj 3 0=some (rvC (sumR (l.take i))))
  (fun s=>match s.tmp 9 with | .sv (.int _ i)=>l.length-i.toNat|_=>0) ⟨rfl,rfl,rfl,rfl,rfl,0,rfl,by omega,rfl⟩ ?_
 rintro s2 ⟨i7,i8,i2,iO,i3,i,i9,hi,iP⟩
 by_cases hend:i=l.length
 ·subst hend
  rw[List.take_length]at iP
  repeat (first|simp only[go_sem,i7,i8,i2,iO,i3,i9,iP,rvC]|simp (disch:=first|exact oa|fail) only[AX,i7,i8,i2,iO,i3,i9,iP,rvC]|refine wki ?_|refine wqn ?_)
 ·obtain⟨s,n,d,rest,hat,hA⟩:=row_at (i:=i) h (by omega)
  have hS:=sumR_take l (i:=i) (by omega)
  have z:=sz_take12 hL hz hl i
  have a:=rat_Add (RatA_rv z) hA (by omega) hL (by omega)
  rw[<- hS]at a
  clear hz z h hS hA
  repeat (first|simp only[go_sem,i7,i8,i2,iO,i3,i9,iP,rvC,hat,hlen]|simp (disch:=first|exact oa|fail) only[AX,i7,i8,i2,iO,i3,i9,iP,rvC,hat,hlen]|refine wki ?_|refine wqn ?_|refine vf_of (by first|exact a) ?_)
  exact⟨⟨i+1,rfl,by omega,rfl⟩,by omega⟩
abbrev numE (q:Rat) (e:Int):SV := .tup [rv q,.int .i64 e]
theorem stat_Mean {cs:List SV} {l:List Rat} {L:Nat} (h:RowC cs l L) (hL:1<=L) (hL2:L<=100000) (hl:l.length<=12) :
  Go.Ev.Fn CX 105 [.sl l.length cs] (if l.length=0 then numE 0 5 else numE (meanR l) 0):=by
 have r0:=rat_Int 0 (by omega)
 by_cases h0:l.length=0
 ·rw[if_pos h0]
  refine fni Tryz.f105 ?_;unfold Tryz.f105;simp only[Option.get!_some]
  repeat (first|simp only[go_sem]|simp (disch:=first|exact oa|fail) only[AX]|refine wki ?_|refine wqn ?_|refine vf_of (by first|exact r0) ?_)
  rfl
 ·rw[if_neg h0]
  have s1:=stat_Sum h hL hL2 hl
  have b1:=stat_by (n:=(l.length:Int)) (RatA_rv (sz_sum12 hL (row_sz hL h) hl)) (by omega) (by omega) (by omega)
  rw[show sumR l/((l.length:Int):Rat)=meanR l from rfl]at b1
  clear h
  refine fni Tryz.f105 ?_;unfold Tryz.f105;simp only[Option.get!_some]
  repeat (first|simp only[go_sem]|simp (disch:=first|exact oa|fail) only[AX]|refine wki ?_|refine wqn ?_|refine vf_of (by first|exact s1|exact b1) ?_)
theorem sz_sumN {L:Nat} {l:List Rat} (hL:1<=L) (h : ∀x∈l,szR x L) (hl:l.length<=256):szR (sumR l) (256*(L+1)+1):=
 szR_mono (sz_sum hL l h) (by have:=Nat.mul_le_mul_left (L+1) hl;rw[Nat.mul_comm 256];omega)
theorem sz_takeN {L:Nat} {l:List Rat} (hL:1<=L) (h : ∀x∈l,szR x L) (hl:l.length<=256) (i:Nat):szR (sumR (l.take i)) (256*(L+1)+1):=
 sz_sumN hL (fun x hx=>h x (List.mem_of_mem_take hx)) (by rw[List.length_take];omega)
theorem stat_SumN {cs:List SV} {l:List Rat} {L:Nat} (h:RowC cs l L) (hL:1<=L) (hL2:L<=1000) (hl:l.length<=256) :
  Go.Ev.Fn CX 110 [.sl l.length cs] (rv (sumR l)):=by
 have r0:=rat_Int 0 (by omega)
 have hlen:=row_len h
 have hz:=row_sz hL h
 refine fni Tryz.f110 ?_;unfold Tryz.f110;simp only[Option.get!_some]
 repeat (first|simp only[go_sem]|simp (disch:=first|exact oa|fail) only[AX]|refine wki ?_|refine wqn ?_|refine vf_of (by first|exact r0) ?_)
 refine vp_loop_inv (fun s=>s.tmp 7 = .sv (.sl l.length cs)/\s.tmp 8 = .sv (.int .i64 (l.length:Int))/\s.tmp 2 = .ptr 2 0 0/\s.obj 2 0=some [.bool false,.sl 0 [],.sl 0 []]/\s.tmp 3 = .ptr 3 0 0 /\
   ∃i:Nat,s.tmp 9 = .sv (.int .i64 (i:Int))/\i<=l.length/\s.obj 3 0=some (rvC (sumR (l.take i))))
  (fun s=>match s.tmp 9 with | .sv (.int _ i)=>l.length-i.toNat|_=>0) ⟨rfl,rfl,rfl,rfl,rfl,0,rfl,by omega,rfl⟩ ?_
 rintro s2 ⟨i7,i8,i2,iO,i3,i,i9,hi,iP⟩
 by_cases hend:i=l.length
 ·subst hend
  rw[List.take_length]at iP
  repeat (first|simp only[go_sem,i7,i8,i2,iO,i3,i9,iP,rvC]|simp (disch:=first|exact oa|fail) only[AX,i7,i8,i2,iO,i3,i9,iP,rvC]|refine wki ?_|refine wqn ?_)
 ·obtain⟨s,n,d,rest,hat,hA⟩:=row_at (i:=i) h (by omega)
  have hS:=sumR_take l (i:=i) (by omega)
  have z:=sz_takeN hL hz hl i
  have a:=rat_Add (RatA_rv z) hA (by omega) hL (by omega)
  rw[<- hS]at a
  clear hz z h hS hA
  repeat (first|simp only[go_sem,i7,i8,i2,iO,i3,i9,iP,rvC,hat,hlen]|simp (disch:=first|exact oa|fail) only[AX,i7,i8,i2,iO,i3,i9,iP,rvC,hat,hlen]|refine wki ?_|refine wqn ?_|refine vf_of (by first|exact a) ?_)
  exact⟨⟨i+1,rfl,by omega,rfl⟩,by omega⟩
theorem stat_MeanN {cs:List SV} {l:List Rat} {L:Nat} (h:RowC cs l L) (hL:1<=L) (hL2:L<=1000) (hl:l.length<=256) :
  Go.Ev.Fn CX 105 [.sl l.length cs] (if l.length=0 then numE 0 5 else numE (meanR l) 0):=by
 have r0:=rat_Int 0 (by omega)
 by_cases h0:l.length=0
 ·rw[if_pos h0]
  refine fni Tryz.f105 ?_;unfold Tryz.f105;simp only[Option.get!_some]
  repeat (first|simp only[go_sem]|simp (disch:=first|exact oa|fail) only[AX]|refine wki ?_|refine wqn ?_|refine vf_of (by first|exact r0) ?_)
  rfl
 ·rw[if_neg h0]
  have s1:=stat_SumN h hL hL2 hl
  have b1:=stat_by (n:=(l.length:Int)) (RatA_rv (sz_sumN hL (row_sz hL h) hl)) (by omega) (by omega) (by omega)
  rw[show sumR l/((l.length:Int):Rat)=meanR l from rfl]at b1
  clear h
  refine fni Tryz.f105 ?_;unfold Tryz.f105;simp only[Option.get!_some]
  repeat (first|simp only[go_sem]|simp (disch:=first|exact oa|fail) only[AX]|refine wki ?_|refine wqn ?_|refine vf_of (by first|exact s1|exact b1) ?_)
theorem rvs_snoc {l:List Rat} {i:Nat} (h:i<l.length):rvsC (l.take i)++rvC (l.getD i 0)=rvsC (l.take (i+1)):=by rw[take_snoc l h,rvsC_snoc]
theorem stat_off {cs:List SV} {l:List Rat} {L:Nat} (h:RowC cs l L) (hL:1<=L) (hL2:L<=100000) (hl:l.length<=12) (h0:1<=l.length) :
  Go.Ev.Fn CX 190 [.sl l.length cs] (.sl l.length (rvsC (offR l))):=by
 have m1:=stat_Mean h hL hL2 hl
 rw[if_neg (by omega)]at m1
 have hz:=row_sz hL h
 have zm:=sz_mean hL hz hl
 have hlen:=row_len h
 have hol:(offR l).length=l.length:=by unfold offR;rw[List.length_map]
 refine fni Tryz.f190 ?_;unfold Tryz.f190;simp only[Option.get!_some]
 repeat (first|simp only[go_sem]|simp (disch:=first|exact oa|fail) only[AX]|refine wki ?_|refine wqn ?_|refine vf_of (by first|exact m1) ?_)
 refine vp_loop_inv (fun s=>s.tmp 13 = .sv (.sl l.length cs)/\s.tmp 14 = .sv (.int .i64 (l.length:Int))/\s.tmp 3 = .ptr 3 0 0/\s.obj 3 0=some (rvC (meanR l)) /\
   ∃i:Nat,s.tmp 15 = .sv (.int .i64 (i:Int))/\i<=l.length/\((i=0/\s.tmp 5 = .nil/\s.gen 24=0)\/(0<i/\s.tmp 5 = .ref 24 0 3 0 i/\s.obj 24 0=some (rvsC ((offR l).take i)))))
  (fun s=>match s.tmp 15 with | .sv (.int _ i)=>l.length-i.toNat|_=>0) ⟨rfl,rfl,rfl,rfl,0,rfl,by omega,.inl ⟨rfl,rfl,rfl⟩⟩ ?_
 rintro s2 ⟨i13,i14,i3,iO,i,i15,hi,hc⟩
 by_cases hend:i=l.length
 ·subst hend
  rcases hc with⟨h00,_⟩|⟨_,i5,iP⟩
  ·omega
  ·rw[List.take_of_length_le (by omega)]at iP
   have hrl:=rvsC_len (offR l)
   repeat (first|simp only[go_sem,i13,i14,i3,iO,i15,i5,iP,rvC]|simp (disch:=first|exact oa|fail) only[AX,i13,i14,i3,iO,i15,i5,iP,rvC]|refine wki ?_|refine wqn ?_)
   refine ro_ref (cs:=rvsC (offR l)) (by decide) ?_ ?_
   ·simp only[go_sem,i5,iP]
   ·rw[List.drop_zero,List.take_of_length_le (by omega)]
 ·obtain⟨s,n,d,rest,hat,hA⟩:=row_at (i:=i) h (by omega)
  have a:=rat_Sub hA (RatA_rv zm) hL (by omega) (by omega)
  have hd:(offR l).getD i 0=l.getD i 0-meanR l:=by unfold offR;rw[getD_map l _ (by omega)]
  have hsn:=rvs_snoc (l:=offR l) (i:=i) (by omega)
  rw[hd]at hsn
  have hrl:=rvsC_len ((offR l).take i)
  rw[List.length_take,hol,Nat.min_eq_left (by omega)]at hrl
  clear hz zm h hd hA
  rcases hc with⟨h00,i5,ig⟩|⟨h00,i5,iP⟩
  ·subst h00
   rw[List.take_zero,rvsC_nil,List.nil_append]at hsn
   rw[Nat.zero_mul,List.drop_zero]at hat
   subst hat
   repeat (first|simp only[go_sem,i13,i14,i3,iO,i15,i5,ig,rvC,N0]|simp (disch:=first|exact oa|fail) only[AX,i13,i14,i3,iO,i15,i5,ig,rvC,N0]|refine wki ?_|refine wqn ?_|refine vf_of (by first|exact a) ?_)
   exact⟨⟨1,rfl,by omega,.inr ⟨by omega,rfl,by first|(rw[<- hsn];rfl)|rw[<- hsn]⟩⟩,by omega⟩
  ·unfold rvC at hsn
   repeat (first|simp only[go_sem,i13,i14,i3,iO,i15,i5,iP,hat,hlen,rvC,N0,hsn,hrl]|simp (disch:=first|exact oa|fail) only[AX,i13,i14,i3,iO,i15,i5,iP,hat,hlen,rvC,N0,hsn,hrl]|refine wki ?_|refine wqn ?_|refine vf_of (by first|exact a) ?_)
   exact⟨⟨i+1,rfl,by omega,.inr ⟨by omega,rfl,by first|(rw[<- hsn];rfl)|rw[<- hsn]⟩⟩,by omega⟩
theorem stat_products {l:List Rat} {L:Nat} (hz : ∀x∈l,szR x L) (hL:1<=L) (hL2:L<=1000000) (hl:l.length<=12) :
  Go.Ev.Fn CX 189 [.sl l.length (rvsC l),.sl l.length (rvsC l)] (rv (sumR (l.map fun x=>x*x))):=by
 have r0:=rat_Int 0 (by omega)
 have hlen:=rvsC_len l
 have hz2:=sz_map (f:=fun x=>x*x) hz (fun x hx=>szR_mul hx hx hL)
 generalize hcs:rvsC l=cs at *
 refine fni Tryz.f189 ?_;unfold Tryz.f189;simp only[Option.get!_some]
 repeat (first|simp only[go_sem]|simp (disch:=first|exact oa|fail) only[AX]|refine wki ?_|refine wqn ?_|refine vpd 5 [] ?_|refine vf_of (by first|exact r0) ?_)
 refine vp_loop_inv (fun s=>s.tmp 9 = .sv (.sl l.length cs)/\s.tmp 1 = .sv (.sl l.length cs)/\s.tmp 10 = .sv (.int .i64 (l.length:Int))/\s.tmp 4 = .ptr 4 0 0/\s.obj 4 0=some [.bool false,.sl 0 [],.sl 0 []]/\s.tmp 5 = .ptr 5 0 0 /\
   ∃i:Nat,s.tmp 11 = .sv (.int .i64 (i:Int))/\i<=l.length/\s.obj 5 0=some (rvC (sumR ((l.map fun x=>x*x).take i))))
  (fun s=>match s.tmp 11 with | .sv (.int _ i)=>l.length-i.toNat|_=>0) ⟨rfl,rfl,rfl,rfl,rfl,rfl,0,rfl,by omega,rfl⟩ ?_
 rintro s2 ⟨i9,i1,i10,i4,iO,i5,i,i11,hi,iP⟩
 by_cases hend:i=l.length
 ·subst hend
  rw[List.take_of_length_le (by rw[List.length_map];omega)]at iP
  repeat (first|simp only[go_sem,i9,i1,i10,i4,iO,i5,i11,iP,rvC]|simp (disch:=first|exact oa|fail) only[AX,i9,i1,i10,i4,iO,i5,i11,iP,rvC]|refine wki ?_|refine wqn ?_|refine vpd 5 [] ?_)
 ·obtain⟨rest,hat⟩:=rvsC_at (l:=l) (i:=i) (by omega)
  rw[hcs]at hat
  have hm:=hz _ (getD_mem (l:=l) (i:=i) (by omega))
  have m1:=rat_Mul (RatA_rv hm) (RatA_rv hm) hL hL (by omega)
  have hS:=sumR_take (l.map fun x=>x*x) (i:=i) (by rw[List.length_map];omega)
  rw[getD_map l _ (by omega)]at hS
  have a:=rat_Add (RatA_rv (sz_take12 (by omega) hz2 (by rw[List.length_map];omega) i)) (RatA_rv (szR_mul hm hm hL)) (by omega) (by omega) (by omega)
  rw[<- hS]at a
  generalize l.getD i 0=x at *
  clear hz hz2 hm hS
  repeat (first|simp only[go_sem,i9,i1,i10,i4,iO,i5,i11,iP,rvC,hat,hlen,List.cons_append,List.nil_append]|simp (disch:=first|exact oa|fail) only[AX,i9,i1,i10,i4,iO,i5,i11,iP,rvC,hat,hlen,List.cons_append,List.nil_append]|refine wki ?_|refine wqn ?_|refine vpd 5 [] ?_|refine vf_of (by first|exact m1|exact a) ?_)
  exact⟨⟨i+1,rfl,by omega,rfl⟩,by omega⟩
theorem stat_Covariance {cs:List SV} {l:List Rat} {L:Nat} (h:RowC cs l L) (hL:1<=L) (hL2:L<=10000) (hl:l.length<=12) :
  Go.Ev.Fn CX 108 [.sl l.length cs,.sl l.length cs] (if l.length<2 then numE 0 5 else numE (varR l) 0):=by
 have r0:=rat_Int 0 (by omega)
 by_cases h0:l.length<2
 ·rw[if_pos h0]
  refine fni Tryz.f108 ?_;unfold Tryz.f108;simp only[Option.get!_some]
  repeat (first|simp only[go_sem]|simp (disch:=first|exact oa|fail) only[AX]|refine wki ?_|refine wqn ?_|refine vf_of (by first|exact r0) ?_)
  rfl
 ·rw[if_neg h0]
  have s1:=stat_off h hL (by omega) hl (by omega)
  have hz:=row_sz hL h
  have zo:=sz_off hL hz hl
  have p1:=stat_products zo (by omega) (by omega) (by unfold offR;rw[List.length_map];exact hl)
  rw[show (offR l).length=l.length by unfold offR;rw[List.length_map],show sumR ((offR l).map fun x=>x*x)=sqR l from rfl]at p1
  have b1:=stat_by (n:=(l.length:Int)-1) (RatA_rv (sz_sq hL hz hl)) (by omega) (by omega) (by omega)
  rw[show sqR l/(((l.length:Int)-1:Int):Rat)=varR l from rfl,show (l.length:Int)-1=((l.length-1:Nat):Int) by omega]at b1
  clear h zo hz
  refine fni Tryz.f108 ?_;unfold Tryz.f108;simp only[Option.get!_some]
  repeat (first|simp only[go_sem]|simp (disch:=first|exact oa|fail) only[AX]|refine wki ?_|refine wqn ?_|refine vf_of (by first|exact s1|exact p1|exact b1) ?_)
theorem stat_Variance {cs:List SV} {l:List Rat} {L:Nat} (h:RowC cs l L) (hL:1<=L) (hL2:L<=10000) (hl:l.length<=12) :
  Go.Ev.Fn CX 106 [.sl l.length cs] (if l.length<2 then numE 0 5 else numE (varR l) 0):=by
 have c1:=stat_Covariance h hL hL2 hl
 by_cases h0:l.length<2
 ·rw[if_pos h0]at c1 ⊢
  refine fni Tryz.f106 ?_;unfold Tryz.f106;simp only[Option.get!_some]
  repeat (first|simp only[go_sem]|simp (disch:=first|exact oa|fail) only[AX]|refine wki ?_|refine wqn ?_|refine vf_of (by first|exact c1) ?_)
 ·rw[if_neg h0]at c1 ⊢
  refine fni Tryz.f106 ?_;unfold Tryz.f106;simp only[Option.get!_some]
  repeat (first|simp only[go_sem]|simp (disch:=first|exact oa|fail) only[AX]|refine wki ?_|refine wqn ?_|refine vf_of (by first|exact c1) ?_)
end Go.Proofs.YtcfjiolldehegaaGreatDoor
