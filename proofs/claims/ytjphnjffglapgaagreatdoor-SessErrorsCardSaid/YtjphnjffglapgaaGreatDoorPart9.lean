/- Part 9 of the proof: the evaluator, contracts of functions and their plain laws (joined by program). No condition. -/
import Derived.Test.YtjphnjffglapgaaGreatDoorPart8
set_option linter.unusedVariables false
set_option linter.unusedSimpArgs false
set_option maxRecDepth 100000
set_option maxHeartbeats 4000000
namespace Go.Proofs.YtjphnjffglapgaaGreatDoor
open Go.Ev
theorem tw_lt {p:UInt8->Bool} : ∀ {l:List UInt8} {i:Nat},i<(l.takeWhile p).length -> ∃b,l[i]?=some b/\p b=true
 | [],i,h=>by simp at h
 |x::l,i,h=>by
  rw[List.takeWhile_cons]at h
  cases hx:p x with
  |false=>rw[hx]at h;simp at h
  |true=>
   cases i with
   |zero=>exact⟨x,rfl,hx⟩
   |succ i=>
    rw[hx]at h
    simp only[if_true,List.length_cons]at h
    obtain⟨b,h1,h2⟩:=tw_lt (p:=p) (l:=l) (i:=i) (by omega)
    exact⟨b,h1,h2⟩
theorem tw_end {p:UInt8->Bool} : ∀ {l:List UInt8},(l.takeWhile p).length=l.length \/ ∃b,l[(l.takeWhile p).length]?=some b/\p b=false
 | [] => .inl rfl
 |x::l=>by
  rw[List.takeWhile_cons]
  cases hx:p x with
  |false=>exact .inr ⟨x,rfl,hx⟩
  |true=>
   simp only[if_true,List.length_cons]
   rcases tw_end (p:=p) (l:=l) with h|⟨b,h1,h2⟩
   ·exact .inl (by rw[h])
   ·exact .inr ⟨b,h1,h2⟩
theorem tw_le {p:UInt8->Bool} {l:List UInt8}:(l.takeWhile p).length<=l.length:=(List.takeWhile_sublist p).length_le
theorem ref3_run (l:List UInt8) (hl:l.length<=1048576):Go.Ev.Fn CX 104 [.str (bs l)] (.int .i64 ((l.takeWhile dig).length:Int)):=by
 have hle:=tw_le (p:=dig) (l:=l)
 refine fni Tryz.f104 ?_;unfold Tryz.f104;simp only[Option.get!_some]
 repeat (first|simp only[go_sem]|simp (disch:=first|exact oa|fail) only[AX]|refine wki ?_|refine wqn ?_)
 refine vp_loop_inv (fun s=>s.tmp 0 = .sv (.str (bs l)) /\ ∃i:Nat,s.tmp 3 = .sv (.int .i64 (i:Int))/\i<=(l.takeWhile dig).length)
  (fun s=>match s.tmp 3 with | .sv (.int _ i)=>(l.takeWhile dig).length-i.toNat|_=>0) ⟨rfl,0,rfl,by omega⟩ ?_
 rintro s ⟨i0,i,i3,hi⟩
 by_cases hend:i=(l.takeWhile dig).length
 ·rcases tw_end (p:=dig) (l:=l) with h|⟨b,h1,h2⟩
  ·rw[<- hend]at h ⊢
   repeat (first|simp only[go_sem,i0,i3,bs_size]|simp (disch:=first|exact oa|fail) only[AX,i0,i3,bs_size]|refine wki ?_|refine wqn ?_)
  ·rw[<- hend]at h1 ⊢
   have hlt:i<l.length:=by
    rcases Nat.lt_or_ge i l.length with h|h
    ·exact h
    ·rw[List.getElem?_eq_none h]at h1;cases h1
   unfold dig at h2
   by_cases c:b.toNat<48
   ·repeat (first|simp only[go_sem,i0,i3,bs_size,h1,vo_ix,idxB_bs,Option.map_some]|simp (disch:=first|exact oa|fail) only[AX,i0,i3,bs_size,h1,vo_ix,idxB_bs,Option.map_some]|refine wki ?_|refine wqn ?_)
   ·have c2:57<b.toNat:=by
     simp only[Bool.and_eq_false_iff,decide_eq_false_iff_not]at h2
     omega
    repeat (first|simp only[go_sem,i0,i3,bs_size,h1,vo_ix,idxB_bs,Option.map_some]|simp (disch:=first|exact oa|fail) only[AX,i0,i3,bs_size,h1,vo_ix,idxB_bs,Option.map_some]|refine wki ?_|refine wqn ?_)
 ·obtain⟨b,h1,h2⟩:=tw_lt (p:=dig) (l:=l) (i:=i) (by omega)
  unfold dig at h2
  simp only[Bool.and_eq_true,decide_eq_true_eq]at h2
  repeat (first|simp only[go_sem,i0,i3,bs_size,h1,vo_ix,idxB_bs,Option.map_some]|simp (disch:=first|exact oa|fail) only[AX,i0,i3,bs_size,h1,vo_ix,idxB_bs,Option.map_some]|refine wki ?_|refine wqn ?_)
  exact⟨⟨i+1,rfl,by omega⟩,by omega⟩
theorem natD_take_succ {l:List UInt8} {i:Nat} {b:UInt8} (h:l[i]?=some b):natD (l.take (i+1))=natD (l.take i)*10+(b.toNat-48):=by
 rw[List.take_add_one,h]
 exact natD_snoc _ _
theorem ref1_Parse {l:List UInt8} (h0:l≠[]) (hl:l.length<=400) (hd:digs l=true):Go.Ev.Fn CX 105 [.str (bs l)] (.tup [natV (lim (natD l)),.bool true]):=by
 have hpos:0<l.length:=List.length_pos_iff.2 h0
 have e10:(natV (lim 10):SV) = .sl 1 [.int .u32 10]:=rfl
 refine fni Tryz.f105 ?_;unfold Tryz.f105;simp only[Option.get!_some]
 repeat (first|simp only[go_sem,bs_size]|simp (disch:=first|exact oa|fail) only[AX,bs_size]|refine wki ?_|refine wqn ?_|refine vpd 9 [4,31,32,38] ?_)
 refine vp_loop_inv (fun s=>s.tmp 0 = .sv (.str (bs l)) /\ ∃i:Nat,s.tmp 5 = .sv (.int .i64 (i:Int))/\i<=l.length/\((i=0/\s.tmp 4 = .nil/\s.tmp 31 = .undef/\s.tmp 32 = .undef/\s.tmp 38 = .undef)\/(s.tmp 4 = .sv (natV (lim (natD (l.take i)))) /\ ∃x y z,s.tmp 31 = .sv x/\s.tmp 32 = .sv y/\s.tmp 38 = .sv z)))
  (fun s=>match s.tmp 5 with | .sv (.int _ i)=>l.length-i.toNat|_=>0) ⟨rfl,0,rfl,by omega,.inl ⟨rfl,rfl,rfl,rfl,rfl⟩⟩ ?_
 rintro s ⟨i0,i,i5,hi,hc⟩
 by_cases hend:i=l.length
 ·subst hend
  rcases hc with⟨h00,_⟩|⟨i4,_⟩
  ·omega
  ·rw[List.take_length]at i4
   repeat (first|simp only[go_sem,i0,i5,i4,bs_size]|simp (disch:=first|exact oa|fail) only[AX,i0,i5,i4,bs_size]|refine wki ?_|refine wqn ?_|refine vpd 9 [4,31,32,38] ?_)
 ·obtain⟨b,hb⟩ : ∃b,l[i]?=some b:=⟨_,List.getElem?_eq_getElem (by omega)⟩
  have hdb:dig b=true:=List.all_eq_true.1 hd b (List.mem_of_getElem? hb)
  unfold dig at hdb
  simp only[Bool.and_eq_true,decide_eq_true_eq]at hdb
  have hsnoc:=natD_take_succ hb
  have hdt:digs (l.take i)=true:=by unfold digs;exact List.all_eq_true.2 fun x hx=>List.all_eq_true.1 hd x (List.mem_of_mem_take hx)
  have hs1:(lim (natD (l.take i))).length<=400:=by
   have:=lim_ten (natD_lt hdt)
   rw[List.length_take]at this
   omega
  have hs2:(lim (natD (l.take i)*10)).length<=401:=by
   have h3:=lim_ten' (natD_lt hdt)
   rw[List.length_take]at h3
   omega
  have hz:(lim (b.toNat-48)).length<=16777216:=by
   have:=lim_small (n:=b.toNat-48) (k:=1) (by omega)
   omega
  have m:=ref1_MulL (N:=natD (l.take i)) (D:=10) (by omega) (by decide)
  have a:=ref1_AddL (N:=natD (l.take i)*10) (D:=b.toNat-48) (by omega) hz
  have aw:=ref1_Add (lim (natD (l.take i)*10)) [b.toNat-48] (okL_lim _) (fun x hx=>by rw[List.mem_singleton.1 hx];omega) (by omega) (by simp)
  rw[wth_lim,show wth [b.toNat-48]=b.toNat-48 by simp[wth],<- hsnoc,show (natV [b.toNat-48]:SV) = .sl 1 [.int .u32 ((b.toNat-48:Nat):Int)] from rfl]at aw
  rw[e10]at m
  have ew:IntKind.u32.wrap (IntKind.u8.wrap ((b.toNat:Int)-48))=((b.toNat-48:Nat):Int):=by
   rw[IntKind.wrap_u8,IntKind.wrap_u32]
   omega
  clear a hs1 hs2 hz hdt
  rcases hc with⟨h00,i4,u2,u3,u4⟩|⟨i4,x,y,z,u2,u3,u4⟩
  ·subst h00
   rw[List.take_zero,natD_nil,natV_zero]at m
   rw[List.take_zero,natD_nil]at aw
   repeat (first|simp only[go_sem,i0,i5,i4,u2,u3,u4,bs_size,hb,vo_ix,idxB_bs,Option.map_some,ew]|simp (disch:=first|exact oa|fail) only[AX,i0,i5,i4,u2,u3,u4,bs_size,hb,vo_ix,idxB_bs,Option.map_some,ew]|refine wki ?_|refine wqn ?_|refine vpd 9 [4,31,32,38] ?_|refine vf_of (by first|exact m|exact aw) ?_)
   exact⟨⟨1,rfl,by omega,.inr ⟨rfl,_,_,_,rfl,rfl,rfl⟩⟩,by omega⟩
  ·repeat (first|simp only[go_sem,i0,i5,i4,u2,u3,u4,bs_size,hb,vo_ix,idxB_bs,Option.map_some]|simp (disch:=first|exact oa|fail) only[AX,i0,i5,i4,u2,u3,u4,bs_size,hb,vo_ix,idxB_bs,Option.map_some]|refine wki ?_|refine wqn ?_|refine vpd 9 [4,31,32,38] ?_)
   repeat (first|simp only[go_sem,i0,i5,i4,u2,u3,u4,bs_size,hb,vo_ix,idxB_bs,Option.map_some,ew]|simp (disch:=first|exact oa|fail) only[AX,i0,i5,i4,u2,u3,u4,bs_size,hb,vo_ix,idxB_bs,Option.map_some,ew]|refine wki ?_|refine wqn ?_|refine vpd 9 [4,31,32,38] ?_|refine vf_of (by first|exact m|exact aw) ?_)
   exact⟨⟨i+1,rfl,by omega,.inr ⟨rfl,_,_,_,rfl,rfl,rfl⟩⟩,by omega⟩
theorem ref3_ten (n:Nat) (hn:n<=400):Go.Ev.Fn CX 106 [.int .i64 (n:Int)] (natV (lim (10^n))):=by
 have e1:(natV (lim 1):SV) = .sl 1 [.int .u32 1]:=rfl
 have e10:(natV (lim 10):SV) = .sl 1 [.int .u32 10]:=rfl
 refine fni Tryz.f106 ?_;unfold Tryz.f106;simp only[Option.get!_some]
 repeat (first|simp only[go_sem]|simp (disch:=first|exact oa|fail) only[AX]|refine wki ?_|refine wqn ?_)
 refine vp_loop_inv (fun s=>s.tmp 0 = .sv (.int .i64 (n:Int)) /\ ∃i:Nat,s.tmp 4 = .sv (.int .i64 (i:Int))/\i<=n/\((i=0/\s.tmp 3 = .ref 5 0 1 0 1/\s.obj 5 0=some [.int .u32 1])\/s.tmp 3 = .sv (natV (lim (10^i)))))
  (fun s=>match s.tmp 4 with | .sv (.int _ i)=>n-i.toNat|_=>0) ⟨rfl,0,rfl,by omega,.inl ⟨rfl,rfl,rfl⟩⟩ ?_
 rintro s ⟨i0,i,i4,hi,hc⟩
 by_cases hend:i=n
 ·subst hend
  rcases hc with⟨rfl,i3,iO⟩|i3
  ·repeat (first|simp only[go_sem,i0,i4,i3,iO]|simp (disch:=first|exact oa|fail) only[AX,i0,i4,i3,iO]|refine wki ?_|refine wqn ?_)
   refine ro_ref (cs:=[.int .u32 1]) (by decide) ?_ ?_
   ·simp only[go_sem,i3,iO]
   ·rfl
  ·repeat (first|simp only[go_sem,i0,i4,i3]|simp (disch:=first|exact oa|fail) only[AX,i0,i4,i3]|refine wki ?_|refine wqn ?_)
 ·have hp:=pow_lim (k:=i)
  have m:=ref1_MulL (N:=10^i) (D:=10) (by omega) (by decide)
  rw[show 10^i*10=10^(i+1) by rw[Nat.pow_succ],e10]at m
  rcases hc with⟨rfl,i3,iO⟩|i3
  ·rw[Nat.pow_zero,e1]at m
   generalize hY:10^(0+1)=Y at *
   repeat (first|simp only[go_sem,i0,i4,i3,iO]|simp (disch:=first|exact oa|fail) only[AX,i0,i4,i3,iO]|refine wki ?_|refine wqn ?_|refine vf_of (by first|exact m) ?_)
   exact⟨⟨1,rfl,by omega,.inr (by rw[hY])⟩,by omega⟩
  ·generalize 10^i=X at *
   generalize hY:10^(i+1)=Y at *
   repeat (first|simp only[go_sem,i0,i4,i3]|simp (disch:=first|exact oa|fail) only[AX,i0,i4,i3]|refine wki ?_|refine wqn ?_|refine vf_of (by first|exact m) ?_)
   exact⟨⟨i+1,rfl,by omega,.inr (by rw[hY])⟩,by omega⟩
theorem take_tw {p:UInt8->Bool} (l:List UInt8):l.take (l.takeWhile p).length=l.takeWhile p:=by
 induction l with
 |nil=>rfl
 |cons x l ih=>
  rw[List.takeWhile_cons]
  split
  ·rw[List.length_cons,List.take_succ_cons,ih]
  ·rfl
theorem drop_tw {p:UInt8->Bool} (l:List UInt8):l.drop (l.takeWhile p).length=l.dropWhile p:=by
 induction l with
 |nil=>rfl
 |cons x l ih=>
  rw[List.takeWhile_cons,List.dropWhile_cons]
  split
  ·rw[List.length_cons,List.drop_succ_cons,ih]
  ·rfl
def docV (o:Option Rat):SV:=match o with
 |some q => .tup [rv q,.int .i64 0]
 |none => .tup [rv 0,.int .i64 2]
theorem tw_all : ∀ {y:List UInt8},digs y=true->y.takeWhile dig=y
 | [],_=>rfl
 |x::y,h=>by
  unfold digs at h
  rw[List.all_cons,Bool.and_eq_true]at h
  rw[List.takeWhile_cons,h.1]
  simp only[if_true]
  rw[tw_all (y:=y) h.2]
theorem tw_short {y:List UInt8} (h:digs y=false):(y.takeWhile dig).length≠y.length:=fun e=>by
 have h2:=digs_tw y
 have h3:y.takeWhile dig=y:=by
  have:=take_tw (p:=dig) y
  rw[e,List.take_length]at this
  exact this.symm
 rw[h3,h]at h2
 cases h2
theorem ref3_body (l u:List UInt8) (ng:Bool) (hl:l.length<=60)
  (hsg:(ng=true/\l[0]?=some 45/\(l==[])=false/\(l.drop 1).take (l.length-1)=u/\l.length=u.length+1)\/(ng=false/\l=u/\(u==[])=false /\ ∃b,u[0]?=some b/\((b.toNat:Int)==45)=false)) :
  Go.Ev.Fn CX 72 [.str (bs l)] (docV (if u.takeWhile dig=[] then none else
  match u.dropWhile dig with
  | []=>some (mkRat (sgn ng (natD (u.takeWhile dig))) 1)
  |c::y=>if y=[]\/digs y=false\/(c≠46/\c≠47) then none else
   if c=47 then (if natD y=0 then none else some (mkRat (sgn ng (natD (u.takeWhile dig))) (natD y)))
   else some (mkRat (sgn ng (natD (u.takeWhile dig)*10^y.length+natD y)) (10^y.length)))):=by
 have z:=ref2_Int 0 (by omega)
 rw[show (((0:Int)):Rat)=0 by rfl]at z
 have hul:u.length<=60:=by rcases hsg with⟨_,_,_,_,h⟩|⟨_,h,_⟩<;>(try rw[<- h])<;>omega
 have r1:=ref3_run u (by omega)
 have tt:=take_tw (p:=dig) u
 have dt:=drop_tw (p:=dig) u
 have hle:=tw_le (p:=dig) (l:=u)
 have hlen:=congrArg List.length (List.takeWhile_append_dropWhile (p:=dig) (l:=u))
 rw[List.length_append]at hlen
 have hw:=digs_tw u
 have hc0 := @dw_head u
 generalize hW:u.takeWhile dig=W at *
 generalize hR:u.dropWhile dig=R at *
 have hRt:List.take (u.length-W.length) R=R:=List.take_of_length_le (by omega)
 by_cases hW0:W=[]
 ·rw[if_pos hW0]
  have hk:((W.length:Int)==0)=true:=by rw[hW0];rfl
  unfold docV
  rcases hsg with⟨rfl,hx0,hne,hsl,hll⟩|⟨rfl,rfl,hne,b,hx0,hbq⟩
  ·have hbq:(((45:UInt8).toNat:Int)==45)=true:=rfl
   refine fni Tryz.f72 ?_;unfold Tryz.f72;simp only[Option.get!_some]
   repeat (first|simp only[go_sem,mk_bs,bs_list,bs_size,vo_ix,idxB_bs,Option.map_some,hne,Bool.not_false,hx0,hbq,bs_extract,hsl,tt,dt,hRt,hk]|simp (disch:=first|exact oa|fail) only[AX,mk_bs,bs_list,bs_size,vo_ix,idxB_bs,Option.map_some,hne,Bool.not_false,hx0,hbq,bs_extract,hsl,tt,dt,hRt,hk]|refine wki ?_|refine wqn ?_|refine vpd 7 [] ?_|refine vf_of (by first|exact r1|exact z) ?_)
  ·refine fni Tryz.f72 ?_;unfold Tryz.f72;simp only[Option.get!_some]
   repeat (first|simp only[go_sem,mk_bs,bs_list,bs_size,vo_ix,idxB_bs,Option.map_some,hne,Bool.not_false,hx0,hbq,bs_extract,tt,dt,hRt,hk]|simp (disch:=first|exact oa|fail) only[AX,mk_bs,bs_list,bs_size,vo_ix,idxB_bs,Option.map_some,hne,Bool.not_false,hx0,hbq,bs_extract,tt,dt,hRt,hk]|refine wki ?_|refine wqn ?_|refine vpd 7 [] ?_|refine vf_of (by first|exact r1|exact z) ?_)
 ·rw[if_neg hW0]
  have hk:((W.length:Int)==0)=false:=by
   rw[beq_eq_false_iff_ne]
   have:=List.length_pos_iff.2 hW0
   omega
  have p1:=ref1_Parse hW0 (by omega) hw
  have lW:=lim_ten (natD_lt hw)
  cases R with
  |nil=>
   have o:=ref2_OfL (s:=ng) (n:=natD W) (d:=1) (by omega) (by decide)
   rw[show (natV (lim 1):SV) = .sl 1 [.int .u32 1] from rfl]at o
   unfold docV
   dsimp only
   rcases hsg with⟨rfl,hx0,hne,hsl,hll⟩|⟨rfl,rfl,hne,b,hx0,hbq⟩
   rotate_left
   have hsl:List.take 0 ([]:List UInt8)=[]:=rfl
   rotate_left
   have hbq:(((45:UInt8).toNat:Int)==45)=true:=rfl
   all_goals
    refine fni Tryz.f72 ?_;unfold Tryz.f72;simp only[Option.get!_some]
    repeat (first|simp only[go_sem,mk_bs,bs_list,bs_size,vo_ix,idxB_bs,Option.map_some,hne,Bool.not_false,hx0,hbq,bs_extract,hsl,tt,dt,hRt,hk,nil_beq]|simp (disch:=first|exact oa|fail) only[AX,mk_bs,bs_list,bs_size,vo_ix,idxB_bs,Option.map_some,hne,Bool.not_false,hx0,hbq,bs_extract,hsl,tt,dt,hRt,hk,nil_beq]|refine wki ?_|refine wqn ?_|refine vpd 7 [] ?_|refine vf_of (by first|exact r1|exact p1|exact o) ?_)
  |cons c y=>
   have hcd:=hc0 rfl
   have hRl:(c::y).length=y.length+1:=rfl
   have hR0:(c::y)[0]?=some c:=rfl
   have hRn:((c::y)==[])=false:=rfl
   have hRy:List.take y.length (List.drop 1 (c::y))=y:=List.take_of_length_le (Nat.le_refl _)
   have hRy2:List.take (y.length+1-1) (List.drop 1 (c::y))=y:=List.take_of_length_le (Nat.le_refl _)
   dsimp only
   clear hc0
   generalize (c::y)=R at *
   have hyl:y.length+1<=60:=by omega
   have r2:=ref3_run y (by omega)
   by_cases hy0:y=[]
   ·rw[if_pos (.inl hy0)]
    unfold docV
    subst hy0
    have hm0:((([]:List UInt8).takeWhile dig).length:Int)=0:=rfl
    rw[hm0]at r2
    have hm1:((0:Int)==0)=true:=rfl
    rcases hsg with⟨rfl,hx0,hne,hsl,hll⟩|⟨rfl,rfl,hne,b,hx0,hbq⟩
    rotate_left
    have hsl:List.take 0 ([]:List UInt8)=[]:=rfl
    rotate_left
    have hbq:(((45:UInt8).toNat:Int)==45)=true:=rfl
    all_goals
     refine fni Tryz.f72 ?_;unfold Tryz.f72;simp only[Option.get!_some]
     repeat (first|simp only[go_sem,mk_bs,bs_list,bs_size,vo_ix,idxB_bs,Option.map_some,hne,Bool.not_false,hx0,hbq,bs_extract,hsl,tt,dt,hRt,hk,hRn,hRl,hRy,hRy2,hm1]|simp (disch:=first|exact oa|fail) only[AX,mk_bs,bs_list,bs_size,vo_ix,idxB_bs,Option.map_some,hne,Bool.not_false,hx0,hbq,bs_extract,hsl,tt,dt,hRt,hk,hRn,hRl,hRy,hRy2,hm1]|refine wki ?_|refine wqn ?_|refine vpd 7 [] ?_|refine vf_of (by first|exact r1|exact p1|exact r2|exact z) ?_)
   cases hyd:digs y with
   |false=>
    rw[if_pos (.inr (.inl rfl))]
    unfold docV
    have hsh:=tw_short hyd
    have hle2:=tw_le (p:=dig) (l:=y)
    generalize (y.takeWhile dig).length=M at *
    by_cases hM:M=0
    ·have hm1:((M:Int)==0)=true:=by rw[hM];rfl
     rcases hsg with⟨rfl,hx0,hne,hsl,hll⟩|⟨rfl,rfl,hne,b,hx0,hbq⟩
     rotate_left
     have hsl:List.take 0 ([]:List UInt8)=[]:=rfl
     rotate_left
     have hbq:(((45:UInt8).toNat:Int)==45)=true:=rfl
     all_goals
      refine fni Tryz.f72 ?_;unfold Tryz.f72;simp only[Option.get!_some]
      repeat (first|simp only[go_sem,mk_bs,bs_list,bs_size,vo_ix,idxB_bs,Option.map_some,hne,Bool.not_false,hx0,hbq,bs_extract,hsl,tt,dt,hRt,hk,hRn,hRl,hRy,hRy2,hm1]|simp (disch:=first|exact oa|fail) only[AX,mk_bs,bs_list,bs_size,vo_ix,idxB_bs,Option.map_some,hne,Bool.not_false,hx0,hbq,bs_extract,hsl,tt,dt,hRt,hk,hRn,hRl,hRy,hRy2,hm1]|refine wki ?_|refine wqn ?_|refine vpd 7 [] ?_|refine vf_of (by first|exact r1|exact p1|exact r2|exact z) ?_)
    ·have hm1:((M:Int)==0)=false:=by rw[beq_eq_false_iff_ne];omega
     have hm2:((M:Int) != (y.length:Int))=true:=by rw[bne_iff_ne];omega
     rcases hsg with⟨rfl,hx0,hne,hsl,hll⟩|⟨rfl,rfl,hne,b,hx0,hbq⟩
     rotate_left
     have hsl:List.take 0 ([]:List UInt8)=[]:=rfl
     rotate_left
     have hbq:(((45:UInt8).toNat:Int)==45)=true:=rfl
     all_goals
      refine fni Tryz.f72 ?_;unfold Tryz.f72;simp only[Option.get!_some]
      repeat (first|simp only[go_sem,mk_bs,bs_list,bs_size,vo_ix,idxB_bs,Option.map_some,hne,Bool.not_false,hx0,hbq,bs_extract,hsl,tt,dt,hRt,hk,hRn,hRl,hRy,hRy2,hm1,hm2]|simp (disch:=first|exact oa|fail) only[AX,mk_bs,bs_list,bs_size,vo_ix,idxB_bs,Option.map_some,hne,Bool.not_false,hx0,hbq,bs_extract,hsl,tt,dt,hRt,hk,hRn,hRl,hRy,hRy2,hm1,hm2]|refine wki ?_|refine wqn ?_|refine vpd 7 [] ?_|refine vf_of (by first|exact r1|exact p1|exact r2|exact z) ?_)
   |true=>
    have hyp:=List.length_pos_iff.2 hy0
    rw[tw_all hyd]at r2
    have hm1:((y.length:Int)==0)=false:=by rw[beq_eq_false_iff_ne];omega
    have hm2:((y.length:Int) != (y.length:Int))=false:=by simp
    have p2:=ref1_Parse hy0 (by omega) hyd
    have lY:=lim_ten (natD_lt hyd)
    by_cases c46:c=46
    ·subst c46
     rw[if_neg (by
      rintro(h|h|h)
      ·exact hy0 h
      ·cases h
      ·exact h.1 rfl),if_neg (by decide)]
     have hq1:(((46:UInt8).toNat:Int) != 46)=false:=rfl
     have hq2:(((46:UInt8).toNat:Int)==47)=false:=rfl
     have tn:=ref3_ten y.length (by omega)
     have lT:(lim (10^y.length)).length<=61:=by
      have:=pow_lim (k:=y.length)
      omega
     have lM:(lim (natD W*10^y.length)).length<=400:=by
      have h1:=natD_lt hw
      have:natD W*10^y.length<10^(W.length+y.length):=by
       rw[Nat.pow_add]
       exact Nat.mul_lt_mul_of_pos_right h1 (Nat.pow_pos (by omega))
      have:=lim_ten this
      omega
     have lA:(lim (natD W*10^y.length+natD y)).length<=400:=by
      have:natD (W++y)<10^(W++y).length:=natD_lt (by rw[digs_appD,hw,hyd];rfl)
      rw[natD_append,List.length_append]at this
      have:=lim_ten this
      omega
     have mm:=ref1_MulL (N:=natD W) (D:=10^y.length) (by omega) (by omega)
     have aa:=ref1_AddL (N:=natD W*10^y.length) (D:=natD y) (by omega) (by omega)
     have o:=ref2_OfL (s:=ng) (n:=natD W*10^y.length+natD y) (d:=10^y.length) (by omega) (by omega)
     unfold docV
     dsimp only
     generalize natD W*10^y.length+natD y=V at *
     generalize natD W*10^y.length=U at *
     generalize 10^y.length=T at *
     rcases hsg with⟨rfl,hx0,hne,hsl,hll⟩|⟨rfl,rfl,hne,b,hx0,hbq⟩
     rotate_left
     have hsl:List.take 0 ([]:List UInt8)=[]:=rfl
     rotate_left
     have hbq:(((45:UInt8).toNat:Int)==45)=true:=rfl
     all_goals
      refine fni Tryz.f72 ?_;unfold Tryz.f72;simp only[Option.get!_some]
      repeat (first|simp only[go_sem,mk_bs,bs_list,bs_size,vo_ix,idxB_bs,Option.map_some,hne,Bool.not_false,hx0,hbq,bs_extract,hsl,tt,dt,hRt,hk,hRn,hRl,hRy,hRy2,hm1,hm2,hR0,hq1,hq2]|simp (disch:=first|exact oa|fail) only[AX,mk_bs,bs_list,bs_size,vo_ix,idxB_bs,Option.map_some,hne,Bool.not_false,hx0,hbq,bs_extract,hsl,tt,dt,hRt,hk,hRn,hRl,hRy,hRy2,hm1,hm2,hR0,hq1,hq2]|refine wki ?_|refine wqn ?_|refine vpd 7 [] ?_|refine vf_of (by first|exact r1|exact p1|exact r2|exact p2|exact tn|exact mm|exact aa|exact o) ?_)
    ·by_cases c47:c=47
     ·subst c47
      rw[if_neg (by
       rintro(h|h|h)
       ·exact hy0 h
       ·cases h
       ·exact h.2 rfl),if_pos rfl]
      have hq1:(((47:UInt8).toNat:Int) != 46)=true:=rfl
      have hq2:(((47:UInt8).toNat:Int)==47)=true:=rfl
      have hq3:(((47:UInt8).toNat:Int) != 47)=false:=rfl
      by_cases hz:natD y=0
      ·rw[if_pos hz]
       rw[hz,natV_zero]at p2
       unfold docV
       dsimp only
       have hm3:((0:Int)==0)=true:=rfl
       rcases hsg with⟨rfl,hx0,hne,hsl,hll⟩|⟨rfl,rfl,hne,b,hx0,hbq⟩
       rotate_left
       have hsl:List.take 0 ([]:List UInt8)=[]:=rfl
       rotate_left
       have hbq:(((45:UInt8).toNat:Int)==45)=true:=rfl
       all_goals
        refine fni Tryz.f72 ?_;unfold Tryz.f72;simp only[Option.get!_some]
        repeat (first|simp only[go_sem,mk_bs,bs_list,bs_size,vo_ix,idxB_bs,Option.map_some,hne,Bool.not_false,hx0,hbq,bs_extract,hsl,tt,dt,hRt,hk,hRn,hRl,hRy,hRy2,hm1,hm2,hR0,hq1,hq2,hq3,hm3]|simp (disch:=first|exact oa|fail) only[AX,mk_bs,bs_list,bs_size,vo_ix,idxB_bs,Option.map_some,hne,Bool.not_false,hx0,hbq,bs_extract,hsl,tt,dt,hRt,hk,hRn,hRl,hRy,hRy2,hm1,hm2,hR0,hq1,hq2,hq3,hm3]|refine wki ?_|refine wqn ?_|refine vpd 7 [] ?_|refine vf_of (by first|exact r1|exact p1|exact r2|exact p2|exact z) ?_)
      ·rw[if_neg hz]
       have o:=ref2_OfL (s:=ng) (n:=natD W) (d:=natD y) (by omega) (by omega)
       unfold docV
       dsimp only
       have hm3:(((lim (natD y)).length:Int)==0)=false:=by
        rw[beq_eq_false_iff_ne]
        exact lim_ne hz
       rcases hsg with⟨rfl,hx0,hne,hsl,hll⟩|⟨rfl,rfl,hne,b,hx0,hbq⟩
       rotate_left
       have hsl:List.take 0 ([]:List UInt8)=[]:=rfl
       rotate_left
       have hbq:(((45:UInt8).toNat:Int)==45)=true:=rfl
       all_goals
        refine fni Tryz.f72 ?_;unfold Tryz.f72;simp only[Option.get!_some]
        repeat (first|simp only[go_sem,mk_bs,bs_list,bs_size,vo_ix,idxB_bs,Option.map_some,hne,Bool.not_false,hx0,hbq,bs_extract,hsl,tt,dt,hRt,hk,hRn,hRl,hRy,hRy2,hm1,hm2,hR0,hq1,hq2,hq3,hm3]|simp (disch:=first|exact oa|fail) only[AX,mk_bs,bs_list,bs_size,vo_ix,idxB_bs,Option.map_some,hne,Bool.not_false,hx0,hbq,bs_extract,hsl,tt,dt,hRt,hk,hRn,hRl,hRy,hRy2,hm1,hm2,hR0,hq1,hq2,hq3,hm3]|refine wki ?_|refine wqn ?_|refine vpd 7 [] ?_|refine vf_of (by first|exact r1|exact p1|exact r2|exact p2|exact o) ?_)
     ·rw[if_pos (.inr (.inr ⟨c46,c47⟩))]
      have hq1:((c.toNat:Int) != 46)=true:=by
       rw[bne_iff_ne]
       intro e
       exact c46 (UInt8.toNat.inj (by have:(46:UInt8).toNat=46:=rfl;omega))
      have hq3:((c.toNat:Int) != 47)=true:=by
       rw[bne_iff_ne]
       intro e
       exact c47 (UInt8.toNat.inj (by have:(47:UInt8).toNat=47:=rfl;omega))
      unfold docV
      dsimp only
      rcases hsg with⟨rfl,hx0,hne,hsl,hll⟩|⟨rfl,rfl,hne,b,hx0,hbq⟩
      rotate_left
      have hsl:List.take 0 ([]:List UInt8)=[]:=rfl
      rotate_left
      have hbq:(((45:UInt8).toNat:Int)==45)=true:=rfl
      all_goals
       refine fni Tryz.f72 ?_;unfold Tryz.f72;simp only[Option.get!_some]
       repeat (first|simp only[go_sem,mk_bs,bs_list,bs_size,vo_ix,idxB_bs,Option.map_some,hne,Bool.not_false,hx0,hbq,bs_extract,hsl,tt,dt,hRt,hk,hRn,hRl,hRy,hRy2,hm1,hm2,hR0,hq1,hq3]|simp (disch:=first|exact oa|fail) only[AX,mk_bs,bs_list,bs_size,vo_ix,idxB_bs,Option.map_some,hne,Bool.not_false,hx0,hbq,bs_extract,hsl,tt,dt,hRt,hk,hRn,hRl,hRy,hRy2,hm1,hm2,hR0,hq1,hq3]|refine wki ?_|refine wqn ?_|refine vpd 7 [] ?_|refine vf_of (by first|exact r1|exact p1|exact r2|exact z) ?_)
end Go.Proofs.YtjphnjffglapgaaGreatDoor
namespace Go.Proofs.YtjphnjffglapgaaGreatDoor
open Go.Ev
theorem front_idx {c:UInt8} : ∀ {l:List UInt8} {i:Nat},i<(frontL c l).length -> ∃b,l[i]?=some b/\b≠c:=by
 intro l i h
 obtain⟨b,h1,h2⟩:=tw_lt (p:=(· != c)) h
 exact⟨b,h1,by simpa using h2⟩
theorem front_end {c:UInt8} {l:List UInt8} (h:l.contains c=true):l[(frontL c l).length]?=some c:=by
 have key : ∀F B:List UInt8,l=F++c::B->l[F.length]?=some c:=fun F B e=>by
  rw[e,List.getElem?_append_right (Nat.le_refl _),Nat.sub_self]
  rfl
 exact key _ _ (cutL_at h)
theorem ref16_find (l:List UInt8) (c:UInt8) (hl:l.length<=1048576):Go.Ev.Fn CX 71 [.str (bs l),.int .u8 (c.toNat:Int)] (.int .i64 (if l.contains c=true then ((frontL c l).length:Int) else -1)):=by
 have hfl:(frontL c l).length<=l.length:=(List.takeWhile_sublist _).length_le
 cases hc:l.contains c with
 |true=>
  rw[if_pos rfl]
  have he:=front_end hc
  have hlt:(frontL c l).length<l.length:=by
   rcases Nat.lt_or_ge (frontL c l).length l.length with h|h
   ·exact h
   ·rw[List.getElem?_eq_none h]at he;cases he
  refine fni Tryz.f71 ?_;unfold Tryz.f71;simp only[Option.get!_some]
  repeat (first|simp only[go_sem]|simp (disch:=first|exact oa|fail) only[AX]|refine wki ?_|refine wqn ?_)
  refine vp_loop_inv (fun s=>s.tmp 0 = .sv (.str (bs l))/\s.tmp 1 = .sv (.int .u8 (c.toNat:Int)) /\ ∃i:Nat,s.tmp 5 = .sv (.int .i64 (i:Int))/\i<=(frontL c l).length)
   (fun s=>match s.tmp 5 with | .sv (.int _ i)=>(frontL c l).length-i.toNat|_=>0) ⟨rfl,rfl,0,rfl,by omega⟩ ?_
  rintro s ⟨i0,i1,i,i5,hi⟩
  by_cases hend:i=(frontL c l).length
  ·rw[<- hend]at he ⊢
   repeat (first|simp only[go_sem,i0,i1,i5,bs_size,he,vo_ix,idxB_bs,Option.map_some,beq_self_eq_true]|simp (disch:=first|exact oa|fail) only[AX,i0,i1,i5,bs_size,he,vo_ix,idxB_bs,Option.map_some,beq_self_eq_true]|refine wki ?_|refine wqn ?_)
  ·obtain⟨b,h1,h2⟩:=front_idx (c:=c) (l:=l) (i:=i) (by omega)
   have hne:((b.toNat:Int)==(c.toNat:Int))=false:=by
    rw[beq_eq_false_iff_ne]
    intro e
    apply h2
    apply UInt8.toNat.inj
    omega
   repeat (first|simp only[go_sem,i0,i1,i5,bs_size,h1,vo_ix,idxB_bs,Option.map_some,hne]|simp (disch:=first|exact oa|fail) only[AX,i0,i1,i5,bs_size,h1,vo_ix,idxB_bs,Option.map_some,hne]|refine wki ?_|refine wqn ?_)
   exact⟨⟨i+1,rfl,by omega⟩,by omega⟩
 |false=>
  rw[if_neg (by simp)]
  refine fni Tryz.f71 ?_;unfold Tryz.f71;simp only[Option.get!_some]
  repeat (first|simp only[go_sem]|simp (disch:=first|exact oa|fail) only[AX]|refine wki ?_|refine wqn ?_)
  refine vp_loop_inv (fun s=>s.tmp 0 = .sv (.str (bs l))/\s.tmp 1 = .sv (.int .u8 (c.toNat:Int)) /\ ∃i:Nat,s.tmp 5 = .sv (.int .i64 (i:Int))/\i<=l.length)
   (fun s=>match s.tmp 5 with | .sv (.int _ i)=>l.length-i.toNat|_=>0) ⟨rfl,rfl,0,rfl,by omega⟩ ?_
  rintro s ⟨i0,i1,i,i5,hi⟩
  by_cases hend:i=l.length
  ·subst hend
   repeat (first|simp only[go_sem,i0,i1,i5,bs_size]|simp (disch:=first|exact oa|fail) only[AX,i0,i1,i5,bs_size]|refine wki ?_|refine wqn ?_)
  ·obtain⟨b,hb⟩ : ∃b,l[i]?=some b:=⟨_,List.getElem?_eq_getElem (by omega)⟩
   have hne:((b.toNat:Int)==(c.toNat:Int))=false:=by
    rw[beq_eq_false_iff_ne]
    intro e
    have:b=c:=UInt8.toNat.inj (by omega)
    subst this
    rw[List.contains_iff_mem.2 (List.mem_of_getElem? hb)]at hc
    cases hc
   repeat (first|simp only[go_sem,i0,i1,i5,bs_size,hb,vo_ix,idxB_bs,Option.map_some,hne]|simp (disch:=first|exact oa|fail) only[AX,i0,i1,i5,bs_size,hb,vo_ix,idxB_bs,Option.map_some,hne]|refine wki ?_|refine wqn ?_)
   exact⟨⟨i+1,rfl,by omega⟩,by omega⟩
theorem ref16_gap (b:UInt8):Go.Ev.Fn CX 39 [.int .u8 (b.toNat:Int)] (.bool (gapB b)):=by
 have h:gapB b=(decide (b.toNat=32)||decide (b.toNat=44)||decide (b.toNat=10)):=by
  have key : ∀n:Nat,n<256->gapB (UInt8.ofNat n)=(decide ((UInt8.ofNat n).toNat=32)||decide ((UInt8.ofNat n).toNat=44)||decide ((UInt8.ofNat n).toNat=10)):=by decide +kernel
  have:=key b.toNat b.toNat_lt
  rwa [UInt8.ofNat_toNat]at this
 rw[h]
 by_cases c1:b.toNat=32
 ·have e:((b.toNat:Int)==32)=true:=by rw[c1];rfl
  rw[decide_eq_true c1,Bool.true_or,Bool.true_or]
  refine fni Tryz.f39 ?_;unfold Tryz.f39;simp only[Option.get!_some]
  repeat (first|simp only[go_sem,e]|simp (disch:=first|exact oa|fail) only[AX,e]|refine wki ?_|refine wqn ?_)
 ·have e:((b.toNat:Int)==32)=false:=by rw[beq_eq_false_iff_ne];omega
  rw[decide_eq_false c1,Bool.false_or]
  by_cases c2:b.toNat=44
  ·have e2:((b.toNat:Int)==44)=true:=by rw[c2];rfl
   rw[decide_eq_true c2,Bool.true_or]
   refine fni Tryz.f39 ?_;unfold Tryz.f39;simp only[Option.get!_some]
   repeat (first|simp only[go_sem,e,e2]|simp (disch:=first|exact oa|fail) only[AX,e,e2]|refine wki ?_|refine wqn ?_)
  ·have e2:((b.toNat:Int)==44)=false:=by rw[beq_eq_false_iff_ne];omega
   rw[decide_eq_false c2,Bool.false_or]
   by_cases c3:b.toNat=10
   ·have e3:((b.toNat:Int)==10)=true:=by rw[c3];rfl
    rw[decide_eq_true c3]
    refine fni Tryz.f39 ?_;unfold Tryz.f39;simp only[Option.get!_some]
    repeat (first|simp only[go_sem,e,e2,e3]|simp (disch:=first|exact oa|fail) only[AX,e,e2,e3]|refine wki ?_|refine wqn ?_)
   ·have e3:((b.toNat:Int)==10)=false:=by rw[beq_eq_false_iff_ne];omega
    rw[decide_eq_false c3]
    refine fni Tryz.f39 ?_;unfold Tryz.f39;simp only[Option.get!_some]
    repeat (first|simp only[go_sem,e,e2,e3]|simp (disch:=first|exact oa|fail) only[AX,e,e2,e3]|refine wki ?_|refine wqn ?_)
theorem ref3_Parse (l:List UInt8) (hl:l.length<=60):Go.Ev.Fn CX 72 [.str (bs l)] (docV (docP l)):=by
 cases l with
 |nil=>
  have r1:Go.Ev.Fn CX 104 [.str (bs [])] (.int .i64 0):=ref3_run [] (by decide)
  have e0:((0:Int)==0)=true:=rfl
  have z:=ref2_Int 0 (by omega)
  rw[show (((0:Int)):Rat)=0 by rfl]at z
  rw[show docV (docP []) = .tup [rv 0,.int .i64 2] from rfl]
  refine fni Tryz.f72 ?_;unfold Tryz.f72;simp only[Option.get!_some]
  repeat (first|simp only[go_sem,mk_bs,bs_list,bs_size,vo_ix,idxB_bs,nil_beq,Bool.not_true,bs_extract,e0]|simp (disch:=first|exact oa|fail) only[AX,mk_bs,bs_list,bs_size,vo_ix,idxB_bs,nil_beq,Bool.not_true,bs_extract,e0]|refine wki ?_|refine wqn ?_|refine vpd 7 [] ?_|refine vf_of (by first|exact r1|exact z) ?_)
 |cons b r=>
  by_cases hb:b=45
  ·subst hb
   exact ref3_body (45::r) r true hl (.inl ⟨rfl,rfl,rfl,List.take_of_length_le (Nat.le_refl _),rfl⟩)
  ·have hn:negP (b::r)=false:=by
    unfold negP
    simpa using hb
   have ha:absP (b::r)=b::r:=by
    unfold absP
    rw[hn]
    rfl
   have h:=ref3_body (b::r) (b::r) false hl (.inr ⟨rfl,rfl,rfl,b,rfl,by
    rw[beq_eq_false_iff_ne]
    intro e
    exact hb (UInt8.toNat.inj (by have:(45:UInt8).toNat=45:=rfl;omega))⟩)
   unfold docP
   rw[ha,hn]
   exact h
theorem ref16_digit (b:UInt8):Go.Ev.Fn CX 108 [.int .u8 (b.toNat:Int)] (.bool (dig b)):=by
 unfold dig
 by_cases c1:48<=b.toNat
 ·by_cases c2:b.toNat<=57
  ·rw[decide_eq_true c1,decide_eq_true c2]
   refine fni Tryz.f108 ?_;unfold Tryz.f108;simp only[Option.get!_some]
   repeat (first|simp only[go_sem]|simp (disch:=first|exact oa|fail) only[AX]|refine wki ?_|refine wqn ?_)
  ·rw[decide_eq_true c1,decide_eq_false c2]
   refine fni Tryz.f108 ?_;unfold Tryz.f108;simp only[Option.get!_some]
   repeat (first|simp only[go_sem]|simp (disch:=first|exact oa|fail) only[AX]|refine wki ?_|refine wqn ?_)
 ·rw[decide_eq_false c1]
  refine fni Tryz.f108 ?_;unfold Tryz.f108;simp only[Option.get!_some]
  repeat (first|simp only[go_sem]|simp (disch:=first|exact oa|fail) only[AX]|refine wki ?_|refine wqn ?_)
theorem ref16_ten (n:Nat) (hn:n<=60):Go.Ev.Fn CX 75 [.int .i64 (n:Int)] (rv ((10:Rat)^n)):=by
 have o1:=ref2_Int 1 (by omega)
 have o10:=ref2_Int 10 (by omega)
 rw[show (((1:Int)):Rat)=(10:Rat)^0 by rfl]at o1
 rw[show (((10:Int)):Rat)=(10:Rat) by rfl]at o10
 refine fni Tryz.f75 ?_;unfold Tryz.f75;simp only[Option.get!_some]
 repeat (first|simp only[go_sem]|simp (disch:=first|exact oa|fail) only[AX]|refine wki ?_|refine wqn ?_|refine vpd 5 [] ?_|refine vf_of (by first|exact o1) ?_)
 refine vp_loop_inv (fun s=>s.tmp 0 = .sv (.int .i64 (n:Int))/\s.tmp 2 = .ptr 2 0 0/\s.tmp 3 = .ptr 3 0 0/\s.obj 2 0=some [.bool false,.sl 0 [],.sl 0 []] /\ ∃i:Nat,s.tmp 4 = .sv (.int .i64 (i:Int))/\i<=n/\s.obj 3 0=some (rvC ((10:Rat)^i)))
  (fun s=>match s.tmp 4 with | .sv (.int _ i)=>n-i.toNat|_=>0) ⟨rfl,rfl,rfl,rfl,0,rfl,by omega,rfl⟩ ?_
 rintro s ⟨i0,i2,i3,iO,i,i4,hi,iR⟩
 unfold rvC at iR
 by_cases hend:i=n
 ·subst hend
  generalize hX:(10:Rat)^i=X at *
  repeat (first|simp only[go_sem,i0,i2,i3,iO,i4,iR]|simp (disch:=first|exact oa|fail) only[AX,i0,i2,i3,iO,i4,iR]|refine wki ?_|refine wqn ?_|refine vpd 5 [] ?_)
 ·have hz:=RatA_rv (sz_ten i (by omega))
  have hz10:=RatA_rv (sz_ten 1 (by omega))
  rw[show (10:Rat)^1=10 by rfl]at hz10
  have m:=ref2_Mul hz hz10 (by omega) (by omega) (by omega)
  have hp:(10:Rat)^i*10=(10:Rat)^(i+1):=(Rat.pow_succ _ _).symm
  rw[hp]at m
  generalize hX:(10:Rat)^i=X at *
  generalize hY:(10:Rat)^(i+1)=Y at *
  have m':Go.Ev.Fn CX 74 [.agg [.bool (decide (X.num<0)),natV (lim X.num.natAbs),natV (lim X.den)],rv 10] (rv Y):=m
  repeat (first|simp only[go_sem,i0,i2,i3,iO,i4,iR]|simp (disch:=first|exact oa|fail) only[AX,i0,i2,i3,iO,i4,iR]|refine wki ?_|refine wqn ?_|refine vpd 5 [] ?_|refine vf_of (by first|exact o10|exact m') ?_)
  exact⟨⟨i+1,rfl,by omega,by rw[hY];rfl⟩,by omega⟩
def bytC (l:List UInt8):List SV:=l.map fun b => .int .u8 (b.toNat:Int)
theorem bytC_len (l:List UInt8):(bytC l).length=l.length:=by unfold bytC;rw[List.length_map]
theorem bytC_of : ∀l:List UInt8,bytesOf (bytC l)=some l
 | []=>rfl
 |b::l=>by
  show (match bytesOf (bytC l) with|some r=>some (UInt8.ofNat ((b.toNat:Int)).toNat::r)|none=>none)=_
  rw[bytC_of l]
  simp
theorem bytC_snoc (l:List UInt8) (b:UInt8):bytC l++[.int .u8 (b.toNat:Int)]=bytC (l++[b]):=by unfold bytC;simp
theorem u8_eq (b:UInt8) (n:Nat) (h:n<256):((b.toNat:Int)==(n:Int))=(b==UInt8.ofNat n):=by
 by_cases e:b=UInt8.ofNat n
 ·subst e
  have:(UInt8.ofNat n).toNat=n:=by simp;omega
  rw[this,beq_self_eq_true,beq_self_eq_true]
 ·rw[beq_eq_false_iff_ne.2 e,beq_eq_false_iff_ne]
  intro h2
  exact e (UInt8.toNat.inj (by have:(UInt8.ofNat n).toNat=n:=(by simp;omega);omega))
theorem ud_bytes:Tryz.prog.underlying 107=some (.slice 5):=by kernel_rfl
theorem ud_str:Tryz.prog.underlying 9=some .string:=by kernel_rfl
theorem plain_cons (off:Bool) (b:UInt8) (r:List UInt8):plainL off (b::r)=if b==10 then 10::plainL false r else if off||b==35 then plainL true r else b::plainL false r:=rfl
theorem drop_get {l:List UInt8} {i:Nat} {b:UInt8} (h:l[i]?=some b):l.drop i=b::l.drop (i+1):=by
 obtain⟨hi,rfl⟩:=List.getElem?_eq_some_iff.1 h
 exact List.drop_eq_getElem_cons hi
theorem ref16_plain (l:List UInt8) (hl:l.length<=100000):Go.Ev.Fn CX 38 [.str (bs l)] (.str (bs (plainL false l))):=by
 refine fni Tryz.f38 ?_;unfold Tryz.f38;simp only[Option.get!_some]
 repeat (first|simp only[go_sem]|simp (disch:=first|exact oa|fail) only[AX]|refine wki ?_|refine wqn ?_)
 refine vp_loop_inv (fun s=>s.tmp 0 = .sv (.str (bs l)) /\ ∃ (i:Nat) (off:Bool) (o:List UInt8),s.tmp 5 = .sv (.int .i64 (i:Int))/\i<=l.length/\s.tmp 4 = .sv (.bool off)/\o.length<=i/\plainL false l=o++plainL off (l.drop i) /\
   ((o=[]/\s.tmp 3 = .nil) \/ ∃g,0<o.length/\s.tmp 3 = .ref 27 g 1 0 o.length/\s.obj 27 g=some (bytC o)))
  (fun s=>match s.tmp 5 with | .sv (.int _ i)=>l.length-i.toNat|_=>0) ⟨rfl,0,false,[],rfl,by omega,rfl,by simp,rfl,.inl ⟨rfl,rfl⟩⟩ ?_
 rintro s ⟨i0,i,off,o,i5,hi,i4,ho,hpl,hc⟩
 by_cases hend:i=l.length
 ·subst hend
  rw[List.drop_length,show plainL off []=[] by cases off<;>rfl,List.append_nil]at hpl
  rw[hpl]
  rcases hc with⟨rfl,i3⟩|⟨g,h0,i3,iO⟩
  ·repeat (first|simp only[go_sem,i0,i5,i4,i3,bs_size,ud_bytes,ud_str]|simp (disch:=first|exact oa|fail) only[AX,i0,i5,i4,i3,bs_size,ud_bytes,ud_str]|refine wki ?_|refine wqn ?_)
   rfl
  ·have hb:=bytC_of o
   have hbl:=bytC_len o
   have htk:List.take o.length (bytC o)=bytC o:=List.take_of_length_le (by omega)
   repeat (first|simp only[go_sem,i0,i5,i4,i3,iO,bs_size,ud_bytes,ud_str,htk,hb,hbl,mk_bs]|simp (disch:=first|exact oa|fail) only[AX,i0,i5,i4,i3,iO,bs_size,ud_bytes,ud_str,htk,hb,hbl,mk_bs]|refine wki ?_|refine wqn ?_)
 ·obtain⟨b,hb⟩ : ∃b,l[i]?=some b:=⟨_,List.getElem?_eq_getElem (by omega)⟩
  rw[drop_get hb]at hpl
  have hbl:=bytC_len o
  have hsn:=bytC_snoc o b
  have e35:((b.toNat:Int)==35)=(b==35):=u8_eq b 35 (by omega)
  have e10:((b.toNat:Int)==10)=(b==10):=u8_eq b 10 (by omega)
  rw[plain_cons]at hpl
  by_cases c10:b=10
  ·have x10:(b==10)=true:=by rw[c10];rfl
   have x35:(b==35)=false:=by rw[c10];rfl
   rw[x10]at hpl e10
   rw[x35]at e35
   rw[if_pos rfl]at hpl
   have hpl':plainL false l=(o++[b])++plainL false (l.drop (i+1)):=by rw[hpl,List.append_assoc,c10];rfl
   rcases hc with⟨rfl,i3⟩|⟨g,h0,i3,iO⟩
   ·repeat (first|simp only[go_sem,i0,i5,i4,i3,bs_size,hb,vo_ix,idxB_bs,Option.map_some,e35,e10,Bool.not_true,Bool.not_false,N0]|simp (disch:=first|exact oa|fail) only[AX,i0,i5,i4,i3,bs_size,hb,vo_ix,idxB_bs,Option.map_some,e35,e10,Bool.not_true,Bool.not_false,N0]|refine wki ?_|refine wqn ?_)
    exact⟨⟨i+1,false,[b],rfl,by omega,rfl,by simp,hpl',.inr ⟨s.gen 27,by simp,rfl,by rw[if_pos rfl];rfl⟩⟩,by omega⟩
   ·repeat (first|simp only[go_sem,i0,i5,i4,i3,iO,bs_size,hb,vo_ix,idxB_bs,Option.map_some,e35,e10,Bool.not_true,Bool.not_false,N0,hbl,hsn]|simp (disch:=first|exact oa|fail) only[AX,i0,i5,i4,i3,iO,bs_size,hb,vo_ix,idxB_bs,Option.map_some,e35,e10,Bool.not_true,Bool.not_false,N0,hbl,hsn]|refine wki ?_|refine wqn ?_)
    exact⟨⟨i+1,false,o++[b],rfl,by omega,rfl,by simp;omega,hpl',.inr ⟨g,by simp,by simp,by rw[if_pos rfl]⟩⟩,by omega⟩
  ·have x10:(b==10)=false:=by simpa using c10
   rw[x10]at hpl e10
   rw[if_neg (by simp)]at hpl
   by_cases c35:b=35
   ·have x35:(b==35)=true:=by rw[c35];rfl
    rw[x35]at e35 hpl
    rw[Bool.or_true,if_pos rfl]at hpl
    repeat (first|simp only[go_sem,i0,i5,i4,bs_size,hb,vo_ix,idxB_bs,Option.map_some,e35,e10,Bool.not_true,Bool.not_false,N0]|simp (disch:=first|exact oa|fail) only[AX,i0,i5,i4,bs_size,hb,vo_ix,idxB_bs,Option.map_some,e35,e10,Bool.not_true,Bool.not_false,N0]|refine wki ?_|refine wqn ?_)
    exact⟨⟨i+1,true,o,rfl,by omega,rfl,by omega,hpl,hc⟩,by omega⟩
   ·have x35:(b==35)=false:=by simpa using c35
    rw[x35]at e35 hpl
    rw[Bool.or_false]at hpl
    cases off with
    |true=>
     rw[if_pos rfl]at hpl
     repeat (first|simp only[go_sem,i0,i5,i4,bs_size,hb,vo_ix,idxB_bs,Option.map_some,e35,e10,Bool.not_true,Bool.not_false,N0]|simp (disch:=first|exact oa|fail) only[AX,i0,i5,i4,bs_size,hb,vo_ix,idxB_bs,Option.map_some,e35,e10,Bool.not_true,Bool.not_false,N0]|refine wki ?_|refine wqn ?_)
     exact⟨⟨i+1,true,o,rfl,by omega,rfl,by omega,hpl,hc⟩,by omega⟩
    |false=>
     rw[if_neg (by simp)]at hpl
     have hpl':plainL false l=(o++[b])++plainL false (l.drop (i+1)):=by rw[hpl,List.append_assoc];rfl
     rcases hc with⟨rfl,i3⟩|⟨g,h0,i3,iO⟩
     ·repeat (first|simp only[go_sem,i0,i5,i4,i3,bs_size,hb,vo_ix,idxB_bs,Option.map_some,e35,e10,Bool.not_true,Bool.not_false,N0]|simp (disch:=first|exact oa|fail) only[AX,i0,i5,i4,i3,bs_size,hb,vo_ix,idxB_bs,Option.map_some,e35,e10,Bool.not_true,Bool.not_false,N0]|refine wki ?_|refine wqn ?_)
      exact⟨⟨i+1,false,[b],rfl,by omega,rfl,by simp,hpl',.inr ⟨s.gen 27,by simp,rfl,by rw[if_pos rfl];rfl⟩⟩,by omega⟩
     ·repeat (first|simp only[go_sem,i0,i5,i4,i3,iO,bs_size,hb,vo_ix,idxB_bs,Option.map_some,e35,e10,Bool.not_true,Bool.not_false,N0,hbl,hsn]|simp (disch:=first|exact oa|fail) only[AX,i0,i5,i4,i3,iO,bs_size,hb,vo_ix,idxB_bs,Option.map_some,e35,e10,Bool.not_true,Bool.not_false,N0,hbl,hsn]|refine wki ?_|refine wqn ?_)
      exact⟨⟨i+1,false,o++[b],rfl,by omega,rfl,by simp;omega,hpl',.inr ⟨g,by simp,by simp,by rw[if_pos rfl]⟩⟩,by omega⟩
end Go.Proofs.YtjphnjffglapgaaGreatDoor
set_option maxHeartbeats 4000000
namespace Go.Proofs.YtjphnjffglapgaaGreatDoor
open Go.Ev
theorem natD_two {s:List UInt8} (hd:digs s=true) (hl:s.length<=2) (i:Nat):natD (s.take i)<100:=by
 have hdt:digs (s.take i)=true:=by unfold digs;exact List.all_eq_true.2 fun x hx=>List.all_eq_true.1 hd x (List.mem_of_mem_take hx)
 have h1:=natD_lt hdt
 have h2:(s.take i).length<=2:=by rw[List.length_take];omega
 have h3:10^(s.take i).length<=10^2:=Nat.pow_le_pow_right (by omega) h2
 omega
theorem expo_body (l s:List UInt8) (ng:Bool) (hl:l.length<=60)
  (hsg:((ng=true/\l[0]?=some 45)\/(ng=false/\l[0]?=some 43))/\(l==[])=false/\(l.drop 1).take (l.length-1)=s/\l.length=s.length+1\/(ng=false/\l=s/\(s==[])=false /\ ∃b,s[0]?=some b/\((b.toNat:Int)==45)=false/\((b.toNat:Int)==43)=false)) :
  ∃k:Int,Go.Ev.Fn CX 73 [.str (bs l)] (.tup [.int .i64 k,.bool (decide (1<=s.length)&&(decide (s.length<=2)&&(digs s&&decide (natD s<=30))))]) /\
   (1<=s.length->s.length<=2->digs s=true->k=if ng=true then - (natD s:Int) else (natD s:Int)):=by
 have pre : ∃b,l[0]?=some b/\(l==[])=false /\ ∃x y,((b.toNat:Int)==45)=x/\((b.toNat:Int)==43)=y/\(((x=true/\ng=true)\/(x=false/\y=true/\ng=false))/\(l.drop 1).take (l.length-1)=s/\l.length=s.length+1\/(x=false/\y=false/\ng=false/\l=s)):=by
  rcases hsg with⟨h1|h1,h2,h3,h4⟩|⟨h1,rfl,h2,b,h3,h4,h5⟩
  ·exact⟨45,h1.2,h2,_,_,rfl,rfl,.inl ⟨.inl ⟨rfl,h1.1⟩,h3,h4⟩⟩
  ·exact⟨43,h1.2,h2,_,_,rfl,rfl,.inl ⟨.inr ⟨rfl,rfl,h1.1⟩,h3,h4⟩⟩
  ·exact⟨b,h3,h2,_,_,rfl,rfl,.inr ⟨h4,h5,h1,rfl⟩⟩
 clear hsg
 obtain⟨b,hx0,hne,x,y,hbq,hbp,hcase⟩:=pre
 have hsl:(x=false/\y=false)\/(l.drop 1).take (l.length-1)=s:=by
  rcases hcase with⟨_,h,_⟩|⟨h1,h2,_⟩
  ·exact .inr h
  ·exact .inl ⟨h1,h2⟩
 have hls:s.length<=60:=by
  rcases hcase with⟨_,_,h⟩|⟨_,_,_,h⟩
  ·omega
  ·rw[<- h];exact hl
 by_cases c1:s.length<1
 ·refine⟨0,?_,fun h=>by omega⟩
  rw[decide_eq_false (by omega),Bool.false_and]
  rcases hcase with⟨⟨rfl,rfl⟩|⟨rfl,rfl,rfl⟩,hsl,hll⟩|⟨rfl,rfl,rfl,rfl⟩
  ·refine fni Tryz.f73 ?_;unfold Tryz.f73;simp only[Option.get!_some]
   repeat (first|simp only[go_sem,mk_bs,bs_list,bs_size,vo_ix,idxB_bs,Option.map_some,hne,Bool.not_false,hx0,hbq,hbp,bs_extract,hsl]|simp (disch:=first|exact oa|fail) only[AX,mk_bs,bs_list,bs_size,vo_ix,idxB_bs,Option.map_some,hne,Bool.not_false,hx0,hbq,hbp,bs_extract,hsl]|refine wki ?_|refine wqn ?_)
  ·refine fni Tryz.f73 ?_;unfold Tryz.f73;simp only[Option.get!_some]
   repeat (first|simp only[go_sem,mk_bs,bs_list,bs_size,vo_ix,idxB_bs,Option.map_some,hne,Bool.not_false,hx0,hbq,hbp,bs_extract,hsl]|simp (disch:=first|exact oa|fail) only[AX,mk_bs,bs_list,bs_size,vo_ix,idxB_bs,Option.map_some,hne,Bool.not_false,hx0,hbq,hbp,bs_extract,hsl]|refine wki ?_|refine wqn ?_)
  ·refine fni Tryz.f73 ?_;unfold Tryz.f73;simp only[Option.get!_some]
   repeat (first|simp only[go_sem,mk_bs,bs_list,bs_size,vo_ix,idxB_bs,Option.map_some,hne,Bool.not_false,hx0,hbq,hbp,bs_extract]|simp (disch:=first|exact oa|fail) only[AX,mk_bs,bs_list,bs_size,vo_ix,idxB_bs,Option.map_some,hne,Bool.not_false,hx0,hbq,hbp,bs_extract]|refine wki ?_|refine wqn ?_)
 by_cases c2:2<s.length
 ·refine⟨0,?_,fun _ h=>by omega⟩
  rw[decide_eq_true (by omega:1<=s.length),decide_eq_false (by omega : ¬s.length<=2),Bool.false_and,Bool.and_false]
  rcases hcase with⟨⟨rfl,rfl⟩|⟨rfl,rfl,rfl⟩,hsl,hll⟩|⟨rfl,rfl,rfl,rfl⟩
  ·refine fni Tryz.f73 ?_;unfold Tryz.f73;simp only[Option.get!_some]
   repeat (first|simp only[go_sem,mk_bs,bs_list,bs_size,vo_ix,idxB_bs,Option.map_some,hne,Bool.not_false,hx0,hbq,hbp,bs_extract,hsl]|simp (disch:=first|exact oa|fail) only[AX,mk_bs,bs_list,bs_size,vo_ix,idxB_bs,Option.map_some,hne,Bool.not_false,hx0,hbq,hbp,bs_extract,hsl]|refine wki ?_|refine wqn ?_)
  ·refine fni Tryz.f73 ?_;unfold Tryz.f73;simp only[Option.get!_some]
   repeat (first|simp only[go_sem,mk_bs,bs_list,bs_size,vo_ix,idxB_bs,Option.map_some,hne,Bool.not_false,hx0,hbq,hbp,bs_extract,hsl]|simp (disch:=first|exact oa|fail) only[AX,mk_bs,bs_list,bs_size,vo_ix,idxB_bs,Option.map_some,hne,Bool.not_false,hx0,hbq,hbp,bs_extract,hsl]|refine wki ?_|refine wqn ?_)
  ·refine fni Tryz.f73 ?_;unfold Tryz.f73;simp only[Option.get!_some]
   repeat (first|simp only[go_sem,mk_bs,bs_list,bs_size,vo_ix,idxB_bs,Option.map_some,hne,Bool.not_false,hx0,hbq,hbp,bs_extract]|simp (disch:=first|exact oa|fail) only[AX,mk_bs,bs_list,bs_size,vo_ix,idxB_bs,Option.map_some,hne,Bool.not_false,hx0,hbq,hbp,bs_extract]|refine wki ?_|refine wqn ?_)
 rw[decide_eq_true (by omega:1<=s.length),decide_eq_true (by omega:s.length<=2),Bool.true_and,Bool.true_and]
 cases hd:digs s with
 |false=>
  refine⟨0,?_,fun _ _ h=>by cases h⟩
  rw[Bool.false_and]
  have hsh:=tw_short hd
  have hle:=tw_le (p:=dig) (l:=s)
  have hbad:=(tw_end (p:=dig) (l:=s)).resolve_left hsh
  rcases hcase with⟨⟨rfl,rfl⟩|⟨rfl,rfl,rfl⟩,hsl,hll⟩|⟨rfl,rfl,rfl,rfl⟩
  ·refine fni Tryz.f73 ?_;unfold Tryz.f73;simp only[Option.get!_some]
   repeat (first|simp only[go_sem,mk_bs,bs_list,bs_size,vo_ix,idxB_bs,Option.map_some,hne,Bool.not_false,hx0,hbq,hbp,bs_extract,hsl]|simp (disch:=first|exact oa|fail) only[AX,mk_bs,bs_list,bs_size,vo_ix,idxB_bs,Option.map_some,hne,Bool.not_false,hx0,hbq,hbp,bs_extract,hsl]|refine wki ?_|refine wqn ?_)
   refine vp_loop_inv (fun st=>st.tmp 0 = .sv (.str (bs s))/\st.tmp 4 = .sv (.bool true) /\ ∃ (i:Nat) (z:Int),st.tmp 6 = .sv (.int .i64 (i:Int))/\i<=(s.takeWhile dig).length/\st.tmp 5 = .sv (.int .i64 z))
    (fun st=>match st.tmp 6 with | .sv (.int _ i)=>(s.takeWhile dig).length-i.toNat|_=>0) ⟨rfl,rfl,0,0,rfl,by omega,rfl⟩ ?_
   rintro st ⟨i0,i4,i,z,i6,hi,i5⟩
   by_cases hend:i=(s.takeWhile dig).length
   ·obtain⟨c,hc,hdc⟩:=hbad
    rw[<- hend]at hc
    have hlt:i<s.length:=by omega
    have dg:=ref16_digit c
    rw[hdc]at dg
    clear hend
    repeat (first|simp only[go_sem,i0,i4,i6,i5,bs_size,hc,vo_ix,idxB_bs,Option.map_some,Bool.not_false]|simp (disch:=first|exact oa|fail) only[AX,i0,i4,i6,i5,bs_size,hc,vo_ix,idxB_bs,Option.map_some,Bool.not_false]|refine wki ?_|refine wqn ?_|refine vf_of (by first|exact dg) ?_)
   ·obtain⟨c,hc,hdc⟩:=tw_lt (p:=dig) (l:=s) (i:=i) (by omega)
    have dg:=ref16_digit c
    rw[hdc]at dg
    repeat (first|simp only[go_sem,i0,i4,i6,i5,bs_size,hc,vo_ix,idxB_bs,Option.map_some,Bool.not_true]|simp (disch:=first|exact oa|fail) only[AX,i0,i4,i6,i5,bs_size,hc,vo_ix,idxB_bs,Option.map_some,Bool.not_true]|refine wki ?_|refine wqn ?_|refine vf_of (by first|exact dg) ?_)
    exact⟨⟨i+1,_,rfl,by omega,rfl⟩,by omega⟩
  ·refine fni Tryz.f73 ?_;unfold Tryz.f73;simp only[Option.get!_some]
   repeat (first|simp only[go_sem,mk_bs,bs_list,bs_size,vo_ix,idxB_bs,Option.map_some,hne,Bool.not_false,hx0,hbq,hbp,bs_extract,hsl]|simp (disch:=first|exact oa|fail) only[AX,mk_bs,bs_list,bs_size,vo_ix,idxB_bs,Option.map_some,hne,Bool.not_false,hx0,hbq,hbp,bs_extract,hsl]|refine wki ?_|refine wqn ?_)
   refine vp_loop_inv (fun st=>st.tmp 0 = .sv (.str (bs s))/\st.tmp 4 = .sv (.bool false) /\ ∃ (i:Nat) (z:Int),st.tmp 6 = .sv (.int .i64 (i:Int))/\i<=(s.takeWhile dig).length/\st.tmp 5 = .sv (.int .i64 z))
    (fun st=>match st.tmp 6 with | .sv (.int _ i)=>(s.takeWhile dig).length-i.toNat|_=>0) ⟨rfl,rfl,0,0,rfl,by omega,rfl⟩ ?_
   rintro st ⟨i0,i4,i,z,i6,hi,i5⟩
   by_cases hend:i=(s.takeWhile dig).length
   ·obtain⟨c,hc,hdc⟩:=hbad
    rw[<- hend]at hc
    have hlt:i<s.length:=by omega
    have dg:=ref16_digit c
    rw[hdc]at dg
    clear hend
    repeat (first|simp only[go_sem,i0,i4,i6,i5,bs_size,hc,vo_ix,idxB_bs,Option.map_some,Bool.not_false]|simp (disch:=first|exact oa|fail) only[AX,i0,i4,i6,i5,bs_size,hc,vo_ix,idxB_bs,Option.map_some,Bool.not_false]|refine wki ?_|refine wqn ?_|refine vf_of (by first|exact dg) ?_)
   ·obtain⟨c,hc,hdc⟩:=tw_lt (p:=dig) (l:=s) (i:=i) (by omega)
    have dg:=ref16_digit c
    rw[hdc]at dg
    repeat (first|simp only[go_sem,i0,i4,i6,i5,bs_size,hc,vo_ix,idxB_bs,Option.map_some,Bool.not_true]|simp (disch:=first|exact oa|fail) only[AX,i0,i4,i6,i5,bs_size,hc,vo_ix,idxB_bs,Option.map_some,Bool.not_true]|refine wki ?_|refine wqn ?_|refine vf_of (by first|exact dg) ?_)
    exact⟨⟨i+1,_,rfl,by omega,rfl⟩,by omega⟩
  ·refine fni Tryz.f73 ?_;unfold Tryz.f73;simp only[Option.get!_some]
   repeat (first|simp only[go_sem,mk_bs,bs_list,bs_size,vo_ix,idxB_bs,Option.map_some,hne,Bool.not_false,hx0,hbq,hbp,bs_extract]|simp (disch:=first|exact oa|fail) only[AX,mk_bs,bs_list,bs_size,vo_ix,idxB_bs,Option.map_some,hne,Bool.not_false,hx0,hbq,hbp,bs_extract]|refine wki ?_|refine wqn ?_)
   refine vp_loop_inv (fun st=>st.tmp 0 = .sv (.str (bs l))/\st.tmp 4 = .sv (.bool false) /\ ∃ (i:Nat) (z:Int),st.tmp 6 = .sv (.int .i64 (i:Int))/\i<=(l.takeWhile dig).length/\st.tmp 5 = .sv (.int .i64 z))
    (fun st=>match st.tmp 6 with | .sv (.int _ i)=>(l.takeWhile dig).length-i.toNat|_=>0) ⟨rfl,rfl,0,0,rfl,by omega,rfl⟩ ?_
   rintro st ⟨i0,i4,i,z,i6,hi,i5⟩
   by_cases hend:i=(l.takeWhile dig).length
   ·obtain⟨c,hc,hdc⟩:=hbad
    rw[<- hend]at hc
    have hlt:i<l.length:=by omega
    have dg:=ref16_digit c
    rw[hdc]at dg
    clear hend
    repeat (first|simp only[go_sem,i0,i4,i6,i5,bs_size,hc,vo_ix,idxB_bs,Option.map_some,Bool.not_false]|simp (disch:=first|exact oa|fail) only[AX,i0,i4,i6,i5,bs_size,hc,vo_ix,idxB_bs,Option.map_some,Bool.not_false]|refine wki ?_|refine wqn ?_|refine vf_of (by first|exact dg) ?_)
   ·obtain⟨c,hc,hdc⟩:=tw_lt (p:=dig) (l:=l) (i:=i) (by omega)
    have dg:=ref16_digit c
    rw[hdc]at dg
    repeat (first|simp only[go_sem,i0,i4,i6,i5,bs_size,hc,vo_ix,idxB_bs,Option.map_some,Bool.not_true]|simp (disch:=first|exact oa|fail) only[AX,i0,i4,i6,i5,bs_size,hc,vo_ix,idxB_bs,Option.map_some,Bool.not_true]|refine wki ?_|refine wqn ?_|refine vf_of (by first|exact dg) ?_)
    exact⟨⟨i+1,_,rfl,by omega,rfl⟩,by omega⟩
 |true=>
  refine⟨if ng=true then - (natD s:Int) else (natD s:Int),?_,fun _ _ _=>rfl⟩
  rw[Bool.true_and]
  rcases hcase with⟨⟨rfl,rfl⟩|⟨rfl,rfl,rfl⟩,hsl,hll⟩|⟨rfl,rfl,rfl,rfl⟩
  ·refine fni Tryz.f73 ?_;unfold Tryz.f73;simp only[Option.get!_some]
   repeat (first|simp only[go_sem,mk_bs,bs_list,bs_size,vo_ix,idxB_bs,Option.map_some,hne,Bool.not_false,hx0,hbq,hbp,bs_extract,hsl]|simp (disch:=first|exact oa|fail) only[AX,mk_bs,bs_list,bs_size,vo_ix,idxB_bs,Option.map_some,hne,Bool.not_false,hx0,hbq,hbp,bs_extract,hsl]|refine wki ?_|refine wqn ?_)
   refine vp_loop_inv (fun st=>st.tmp 0 = .sv (.str (bs s))/\st.tmp 4 = .sv (.bool true) /\ ∃i:Nat,st.tmp 6 = .sv (.int .i64 (i:Int))/\i<=s.length/\st.tmp 5 = .sv (.int .i64 (natD (s.take i):Int)))
    (fun st=>match st.tmp 6 with | .sv (.int _ i)=>s.length-i.toNat|_=>0) ⟨rfl,rfl,0,rfl,by omega,rfl⟩ ?_
   rintro st ⟨i0,i4,i,i6,hi,i5⟩
   have hN:=natD_two hd (by omega) i
   by_cases hend:i=s.length
   ·subst hend
    rw[List.take_length]at i5 hN
    generalize natD s=N at *
    have hDec:decide ((N:Int)<=30)=decide (N<=30):=by rw[decide_eq_decide];omega
    repeat (first|simp only[go_sem,i0,i4,i6,i5,bs_size]|simp (disch:=first|exact oa|fail) only[AX,i0,i4,i6,i5,bs_size]|refine wki ?_|refine wqn ?_)
    exact⟨by rw[Int.zero_sub],by rw[hDec]⟩
   ·obtain⟨c,hc⟩ : ∃c,s[i]?=some c:=⟨_,List.getElem?_eq_getElem (by omega)⟩
    have hdc:dig c=true:=digs_mem hd (List.mem_of_getElem? hc)
    have dg:=ref16_digit c
    rw[hdc]at dg
    have hsn:=natD_take_succ hc
    unfold dig at hdc
    simp only[Bool.and_eq_true,decide_eq_true_eq]at hdc
    generalize natD (s.take i)=N at *
    generalize hMe:natD (s.take (i+1))=M at *
    have hM:(10*(N:Int)+(c.toNat:Int)-48)=(M:Int):=by omega
    repeat (first|simp only[go_sem,i0,i4,i6,i5,bs_size,hc,vo_ix,idxB_bs,Option.map_some,Bool.not_true,hM]|simp (disch:=first|exact oa|fail) only[AX,i0,i4,i6,i5,bs_size,hc,vo_ix,idxB_bs,Option.map_some,Bool.not_true,hM]|refine wki ?_|refine wqn ?_|refine vf_of (by first|exact dg) ?_)
    exact⟨⟨i+1,rfl,by omega,by rw[hMe]⟩,by omega⟩
  ·refine fni Tryz.f73 ?_;unfold Tryz.f73;simp only[Option.get!_some]
   repeat (first|simp only[go_sem,mk_bs,bs_list,bs_size,vo_ix,idxB_bs,Option.map_some,hne,Bool.not_false,hx0,hbq,hbp,bs_extract,hsl]|simp (disch:=first|exact oa|fail) only[AX,mk_bs,bs_list,bs_size,vo_ix,idxB_bs,Option.map_some,hne,Bool.not_false,hx0,hbq,hbp,bs_extract,hsl]|refine wki ?_|refine wqn ?_)
   refine vp_loop_inv (fun st=>st.tmp 0 = .sv (.str (bs s))/\st.tmp 4 = .sv (.bool false) /\ ∃i:Nat,st.tmp 6 = .sv (.int .i64 (i:Int))/\i<=s.length/\st.tmp 5 = .sv (.int .i64 (natD (s.take i):Int)))
    (fun st=>match st.tmp 6 with | .sv (.int _ i)=>s.length-i.toNat|_=>0) ⟨rfl,rfl,0,rfl,by omega,rfl⟩ ?_
   rintro st ⟨i0,i4,i,i6,hi,i5⟩
   have hN:=natD_two hd (by omega) i
   by_cases hend:i=s.length
   ·subst hend
    rw[List.take_length]at i5 hN
    generalize natD s=N at *
    have hDec:decide ((N:Int)<=30)=decide (N<=30):=by rw[decide_eq_decide];omega
    repeat (first|simp only[go_sem,i0,i4,i6,i5,bs_size]|simp (disch:=first|exact oa|fail) only[AX,i0,i4,i6,i5,bs_size]|refine wki ?_|refine wqn ?_)
    rw[hDec]
   ·obtain⟨c,hc⟩ : ∃c,s[i]?=some c:=⟨_,List.getElem?_eq_getElem (by omega)⟩
    have hdc:dig c=true:=digs_mem hd (List.mem_of_getElem? hc)
    have dg:=ref16_digit c
    rw[hdc]at dg
    have hsn:=natD_take_succ hc
    unfold dig at hdc
    simp only[Bool.and_eq_true,decide_eq_true_eq]at hdc
    generalize natD (s.take i)=N at *
    generalize hMe:natD (s.take (i+1))=M at *
    have hM:(10*(N:Int)+(c.toNat:Int)-48)=(M:Int):=by omega
    repeat (first|simp only[go_sem,i0,i4,i6,i5,bs_size,hc,vo_ix,idxB_bs,Option.map_some,Bool.not_true,hM]|simp (disch:=first|exact oa|fail) only[AX,i0,i4,i6,i5,bs_size,hc,vo_ix,idxB_bs,Option.map_some,Bool.not_true,hM]|refine wki ?_|refine wqn ?_|refine vf_of (by first|exact dg) ?_)
    exact⟨⟨i+1,rfl,by omega,by rw[hMe]⟩,by omega⟩
  ·refine fni Tryz.f73 ?_;unfold Tryz.f73;simp only[Option.get!_some]
   repeat (first|simp only[go_sem,mk_bs,bs_list,bs_size,vo_ix,idxB_bs,Option.map_some,hne,Bool.not_false,hx0,hbq,hbp,bs_extract]|simp (disch:=first|exact oa|fail) only[AX,mk_bs,bs_list,bs_size,vo_ix,idxB_bs,Option.map_some,hne,Bool.not_false,hx0,hbq,hbp,bs_extract]|refine wki ?_|refine wqn ?_)
   refine vp_loop_inv (fun st=>st.tmp 0 = .sv (.str (bs l))/\st.tmp 4 = .sv (.bool false) /\ ∃i:Nat,st.tmp 6 = .sv (.int .i64 (i:Int))/\i<=l.length/\st.tmp 5 = .sv (.int .i64 (natD (l.take i):Int)))
    (fun st=>match st.tmp 6 with | .sv (.int _ i)=>l.length-i.toNat|_=>0) ⟨rfl,rfl,0,rfl,by omega,rfl⟩ ?_
   rintro st ⟨i0,i4,i,i6,hi,i5⟩
   have hN:=natD_two hd (by omega) i
   by_cases hend:i=l.length
   ·subst hend
    rw[List.take_length]at i5 hN
    generalize natD l=N at *
    have hDec:decide ((N:Int)<=30)=decide (N<=30):=by rw[decide_eq_decide];omega
    repeat (first|simp only[go_sem,i0,i4,i6,i5,bs_size]|simp (disch:=first|exact oa|fail) only[AX,i0,i4,i6,i5,bs_size]|refine wki ?_|refine wqn ?_)
    rw[hDec]
   ·obtain⟨c,hc⟩ : ∃c,l[i]?=some c:=⟨_,List.getElem?_eq_getElem (by omega)⟩
    have hdc:dig c=true:=digs_mem hd (List.mem_of_getElem? hc)
    have dg:=ref16_digit c
    rw[hdc]at dg
    have hsn:=natD_take_succ hc
    unfold dig at hdc
    simp only[Bool.and_eq_true,decide_eq_true_eq]at hdc
    generalize natD (l.take i)=N at *
    generalize hMe:natD (l.take (i+1))=M at *
    have hM:(10*(N:Int)+(c.toNat:Int)-48)=(M:Int):=by omega
    repeat (first|simp only[go_sem,i0,i4,i6,i5,bs_size,hc,vo_ix,idxB_bs,Option.map_some,Bool.not_true,hM]|simp (disch:=first|exact oa|fail) only[AX,i0,i4,i6,i5,bs_size,hc,vo_ix,idxB_bs,Option.map_some,Bool.not_true,hM]|refine wki ?_|refine wqn ?_|refine vf_of (by first|exact dg) ?_)
    exact⟨⟨i+1,rfl,by omega,by rw[hMe]⟩,by omega⟩
theorem ref16_expo (l:List UInt8) (hl:l.length<=60) : ∃k:Int,Go.Ev.Fn CX 73 [.str (bs l)] (.tup [.int .i64 k,.bool (docE l).isSome]) /\ ∀v,docE l=some v->k=v:=by
 have fin : ∀s:List UInt8,tailPM l=s -> ∀ng:Bool,(decide (l.head?=some 45))=ng->(∃k:Int,Go.Ev.Fn CX 73 [.str (bs l)] (.tup [.int .i64 k,.bool (decide (1<=s.length)&&(decide (s.length<=2)&&(digs s&&decide (natD s<=30))))]) /\
   (1<=s.length->s.length<=2->digs s=true->k=if ng=true then - (natD s:Int) else (natD s:Int))) ->
   ∃k:Int,Go.Ev.Fn CX 73 [.str (bs l)] (.tup [.int .i64 k,.bool (docE l).isSome]) /\ ∀v,docE l=some v->k=v:=by
  intro s hs ng hng h
  obtain⟨k,h1,h2⟩:=h
  refine⟨k,?_,?_⟩
  ·have e:(docE l).isSome=(decide (1<=s.length)&&(decide (s.length<=2)&&(digs s&&decide (natD s<=30)))):=by
    unfold docE
    rw[hs]
    by_cases c1:s.length<1
    ·rw[if_pos (.inl c1),decide_eq_false (by omega : ¬1<=s.length)]
     rfl
    by_cases c2:s.length>2
    ·rw[if_pos (.inr (.inl c2)),decide_eq_false (by omega : ¬s.length<=2),Bool.false_and,Bool.and_false]
     rfl
    rw[decide_eq_true (by omega:1<=s.length),decide_eq_true (by omega:s.length<=2),Bool.true_and,Bool.true_and]
    cases hd:digs s with
    |false=>rw[if_pos (.inr (.inr rfl))];rfl
    |true=>
     rw[if_neg (by
      rintro(h|h|h)
      ·exact c1 h
      ·exact c2 h
      ·cases h),Bool.true_and]
     by_cases c3:natD s<=30
     ·rw[if_pos c3,decide_eq_true c3];rfl
     ·rw[if_neg c3,decide_eq_false c3];rfl
   rw[e]
   exact h1
  ·intro v hv
   unfold docE at hv
   rw[hs]at hv
   split at hv
   ·cases hv
   ·rename_i hc
    split at hv
    ·cases hv
     have hd:digs s=true:=by
      cases e:digs s with
      |true=>rfl
      |false=>exact absurd (.inr (.inr e)) hc
     rw[h2 (by
      rcases Nat.lt_or_ge s.length 1 with h|h
      ·exact absurd (.inl h) hc
      ·exact h) (by
      rcases Nat.lt_or_ge 2 s.length with h|h
      ·exact absurd (.inr (.inl h)) hc
      ·exact h) hd]
     by_cases e:l.head?=some 45
     ·rw[decide_eq_true e]at hng
      rw[<- hng,if_pos rfl,if_pos e]
     ·rw[decide_eq_false e]at hng
      rw[<- hng,if_neg (by simp),if_neg e]
    ·cases hv
 cases l with
 |nil=>
  refine⟨0,?_,fun v hv=>by cases hv⟩
  rw[show (docE []).isSome=false from rfl]
  refine fni Tryz.f73 ?_;unfold Tryz.f73;simp only[Option.get!_some]
  repeat (first|simp only[go_sem,mk_bs,bs_list,bs_size,nil_beq,Bool.not_true]|simp (disch:=first|exact oa|fail) only[AX,mk_bs,bs_list,bs_size,nil_beq,Bool.not_true]|refine wki ?_|refine wqn ?_)
 |cons c r=>
  by_cases h45:c=45
  ·subst h45
   exact fin r rfl true rfl (expo_body (45::r) r true hl (.inl ⟨.inl ⟨rfl,rfl⟩,rfl,List.take_of_length_le (Nat.le_refl _),rfl⟩))
  ·by_cases h43:c=43
   ·subst h43
    exact fin r rfl false rfl (expo_body (43::r) r false hl (.inl ⟨.inr ⟨rfl,rfl⟩,rfl,List.take_of_length_le (Nat.le_refl _),rfl⟩))
   ·have ht:tailPM (c::r)=c::r:=by
     unfold tailPM
     rw[if_neg]
     simp[h45,h43]
    refine fin (c::r) ht false (decide_eq_false (by simpa using h45)) (expo_body (c::r) (c::r) false hl (.inr ⟨rfl,rfl,rfl,c,rfl,?_,?_⟩))
    ·exact(u8_eq c 45 (by omega)).trans (beq_eq_false_iff_ne.2 h45)
    ·exact(u8_eq c 43 (by omega)).trans (beq_eq_false_iff_ne.2 h43)
end Go.Proofs.YtjphnjffglapgaaGreatDoor
set_option maxHeartbeats 4000000
namespace Go.Proofs.YtjphnjffglapgaaGreatDoor
open Go.Ev
theorem doc_exp_le {l:List UInt8} {v:Int} (h:docE l=some v):v.natAbs<=30:=by
 unfold docE at h
 split at h
 ·cases h
 ·split at h
  ·rename_i hn
   cases h
   split<;>omega
  ·cases h
theorem ref16_Number (l:List UInt8) (hl:l.length<=100000):Go.Ev.Fn CX 40 [.str (bs l)] (.tup [rv (numP l).2,.int .i64 ((numP l).1:Int)]):=by
 have z:=ref2_Int 0 (by omega)
 rw[show (((0:Int)):Rat)=0 by rfl]at z
 rw[doc_num]
 by_cases h60:60<l.length
 ·have e:docN l=(3,0):=by unfold docN;rw[if_pos h60]
  rw[e]
  unfold rv ratV at z ⊢
  refine fni Tryz.f40 ?_;unfold Tryz.f40;simp only[Option.get!_some]
  repeat (first|simp only[go_sem,bs_size]|simp (disch:=first|exact oa|fail) only[AX,bs_size]|refine wki ?_|refine wqn ?_|refine vpd 13 [] ?_|refine vpd 14 [] ?_|refine vf_of (by first|exact z) ?_)
  rfl
 have fd:=ref16_find l 101 (by omega)
 cases h101:l.contains 101 with
 |false=>
  rw[h101,if_neg (by simp)]at fd
  have p:=ref3_Parse l (by omega)
  cases hd:docP l with
  |some q=>
   have e:docN l=(0,q):=by unfold docN;rw[if_neg h60,h101,hd];rfl
   rw[e]
   rw[hd]at p
   unfold docV at p
   dsimp only at p
   unfold rv ratV at z p ⊢
   refine fni Tryz.f40 ?_;unfold Tryz.f40;simp only[Option.get!_some]
   repeat (first|simp only[go_sem,bs_size]|simp (disch:=first|exact oa|fail) only[AX,bs_size]|refine wki ?_|refine wqn ?_|refine vpd 13 [] ?_|refine vpd 14 [] ?_|refine vf_of (by first|exact z|exact fd|exact p) ?_)
   rfl
  |none=>
   have e:docN l=(2,0):=by unfold docN;rw[if_neg h60,h101,hd];rfl
   rw[e]
   rw[hd]at p
   unfold docV at p
   dsimp only at p
   unfold rv ratV at z p ⊢
   refine fni Tryz.f40 ?_;unfold Tryz.f40;simp only[Option.get!_some]
   repeat (first|simp only[go_sem,bs_size]|simp (disch:=first|exact oa|fail) only[AX,bs_size]|refine wki ?_|refine wqn ?_|refine vpd 13 [] ?_|refine vpd 14 [] ?_|refine vf_of (by first|exact z|exact fd|exact p) ?_)
   rfl
 |true=>
  rw[h101,if_pos rfl]at fd
  have hcut:=cutL_at h101
  have hll:l.length=(frontL 101 l).length+((backL 101 l).length+1):=by
   have:=congrArg List.length hcut
   rw[List.length_append,List.length_cons]at this
   exact this
  have hT:List.take (frontL 101 l).length l=frontL 101 l:=by
   have key : ∀F B:List UInt8,l=F++101::B->List.take F.length l=F:=fun F B e=>by rw[e,List.take_left]
   exact key _ _ hcut
  have hB:List.drop ((frontL 101 l).length+1) l=backL 101 l:=by
   have key : ∀F B:List UInt8,l=F++101::B->List.drop (F.length+1) l=B:=fun F B e=>by
    rw[e,<- List.drop_drop,List.drop_left]
    rfl
   exact key _ _ hcut
  have hB2:List.take (l.length-((frontL 101 l).length+1)) (backL 101 l)=backL 101 l:=List.take_of_length_le (by omega)
  have p:=ref3_Parse (frontL 101 l) (by omega)
  obtain⟨k,ex,hk⟩:=ref16_expo (backL 101 l) (by omega)
  have f47:=ref16_find l 47 (by omega)
  have hN:docN l=(match docP (frontL 101 l),docE (backL 101 l) with
   |some q,some k=>if l.contains 47 then (2,0) else (0,q*tenR k)
   |_,_=>(2,0)):=by unfold docN;rw[if_neg h60,h101];rfl
  rw[hN]
  clear hN hcut
  have hsz : ∀q,docP (frontL 101 l)=some q->szR q 401:=fun q h=>szR_decP (l:=frontL 101 l) (by rw[doc_dec (by omega)];exact h) (by omega)
  have hkl : ∀v,docE (backL 101 l)=some v->v.natAbs<=30:=fun v=>doc_exp_le
  generalize frontL 101 l=F at *
  generalize backL 101 l=B at *
  cases hd:docP F with
  |none=>
   rw[hd]at p
   unfold docV at p
   dsimp only at p ⊢
   generalize (docE B).isSome=bb at *
   generalize (if l.contains 47=true then ((frontL 47 l).length:Int) else -1)=f at *
   unfold rv ratV at z p ⊢
   refine fni Tryz.f40 ?_;unfold Tryz.f40;simp only[Option.get!_some]
   repeat (first|simp only[go_sem,bs_size,bs_extract,hT,hB,hB2]|simp (disch:=first|exact oa|fail) only[AX,bs_size,bs_extract,hT,hB,hB2]|refine wki ?_|refine wqn ?_|refine vpd 13 [] ?_|refine vpd 14 [] ?_|refine vf_of (by first|exact z|exact fd|exact p|exact ex) ?_)
   rfl
  |some q=>
   rw[hd]at p
   unfold docV at p
   dsimp only at p
   have hq:=RatA_rv (hsz q hd)
   cases hx:docE B with
   |none=>
    rw[hx]at ex
    dsimp only[Option.isSome_none]at ex ⊢
    generalize (if l.contains 47=true then ((frontL 47 l).length:Int) else -1)=f at *
    unfold rv ratV at z p ⊢
    refine fni Tryz.f40 ?_;unfold Tryz.f40;simp only[Option.get!_some]
    repeat (first|simp only[go_sem,bs_size,bs_extract,hT,hB,hB2,Bool.not_false]|simp (disch:=first|exact oa|fail) only[AX,bs_size,bs_extract,hT,hB,hB2,Bool.not_false]|refine wki ?_|refine wqn ?_|refine vpd 13 [] ?_|refine vpd 14 [] ?_|refine vf_of (by first|exact z|exact fd|exact p|exact ex) ?_)
    rfl
   |some v=>
    have hkv:=hk v hx
    subst hkv
    have h30:=hkl k hx
    rw[hx]at ex
    dsimp only[Option.isSome_some]at ex ⊢
    cases h47:l.contains 47 with
    |true=>
     rw[h47,if_pos rfl]at f47
     rw[if_pos rfl]
     unfold rv ratV at z p ⊢
     refine fni Tryz.f40 ?_;unfold Tryz.f40;simp only[Option.get!_some]
     repeat (first|simp only[go_sem,bs_size,bs_extract,hT,hB,hB2,Bool.not_true]|simp (disch:=first|exact oa|fail) only[AX,bs_size,bs_extract,hT,hB,hB2,Bool.not_true]|refine wki ?_|refine wqn ?_|refine vpd 13 [] ?_|refine vpd 14 [] ?_|refine vf_of (by first|exact z|exact fd|exact p|exact ex|exact f47) ?_)
     rfl
    |false=>
     rw[h47,if_neg (by simp)]at f47
     rw[if_neg (by simp)]
     have tn:=ref16_ten k.natAbs (by omega)
     have ht:=RatA_rv (sz_ten k.natAbs (by omega))
     by_cases hneg:k<0
     ·have e5:tenR k=1/(10:Rat)^k.natAbs:=by unfold tenR;rw[if_pos hneg]
      have e6:q/(10:Rat)^k.natAbs=q*tenR k:=by rw[e5,Rat.div_def,Rat.div_def,Rat.one_mul]
      have dv:=ref2_Div hq ht (by omega) (by omega) (by omega)
      rw[e6]at dv
      have e7:(k.natAbs:Int)=0-k:=by omega
      rw[e7]at tn
      generalize q*tenR k=r at *
      generalize (10:Rat)^k.natAbs=T at *
      unfold rv ratV at z p dv ⊢
      refine fni Tryz.f40 ?_;unfold Tryz.f40;simp only[Option.get!_some]
      repeat (first|simp only[go_sem,bs_size,bs_extract,hT,hB,hB2,Bool.not_true]|simp (disch:=first|exact oa|fail) only[AX,bs_size,bs_extract,hT,hB,hB2,Bool.not_true]|refine wki ?_|refine wqn ?_|refine vpd 13 [] ?_|refine vpd 14 [] ?_|refine vf_of (by first|exact z|exact fd|exact p|exact ex|exact f47) ?_)
      repeat (first|simp only[go_sem,rv,ratV]|simp (disch:=first|exact oa|fail) only[AX,rv,ratV]|refine wki ?_|refine wqn ?_|refine vpd 13 [] ?_|refine vpd 14 [] ?_|refine vf_of (by first|exact tn|exact dv) ?_)
      rfl
     ·have e5:tenR k=(10:Rat)^k.natAbs:=by unfold tenR;rw[if_neg hneg]
      have m:=ref2_Mul hq ht (by omega) (by omega) (by omega)
      rw[<- e5]at m tn
      have e7:(k.natAbs:Int)=k:=by omega
      rw[e7]at tn
      generalize hX:q*tenR k=r at *
      generalize tenR k=T at *
      unfold rv ratV at z p m ⊢
      refine fni Tryz.f40 ?_;unfold Tryz.f40;simp only[Option.get!_some]
      repeat (first|simp only[go_sem,bs_size,bs_extract,hT,hB,hB2,Bool.not_true]|simp (disch:=first|exact oa|fail) only[AX,bs_size,bs_extract,hT,hB,hB2,Bool.not_true]|refine wki ?_|refine wqn ?_|refine vpd 13 [] ?_|refine vpd 14 [] ?_|refine vf_of (by first|exact z|exact fd|exact p|exact ex|exact f47) ?_)
      repeat (first|simp only[go_sem,rv,ratV]|simp (disch:=first|exact oa|fail) only[AX,rv,ratV]|refine wki ?_|refine wqn ?_|refine vpd 13 [] ?_|refine vpd 14 [] ?_|refine vf_of (by first|exact tn|exact m) ?_)
      rfl
end Go.Proofs.YtjphnjffglapgaaGreatDoor
set_option maxHeartbeats 4000000
namespace Go.Proofs.YtjphnjffglapgaaGreatDoor
open Go.Ev
theorem plain_le : ∀ (l:List UInt8) (off:Bool),(plainL off l).length<=l.length
 | [],off=>by cases off<;>exact Nat.le_refl _
 |b::l,off=>by
  rw[plain_cons]
  split
  ·have:=plain_le l false
   simp only[List.length_cons];omega
  ·split
   ·have:=plain_le l true
    simp only[List.length_cons];omega
   ·have:=plain_le l false
    simp only[List.length_cons];omega
theorem rev_cur {T cur:List UInt8} {f i:Nat} {b:UInt8} (h:cur.reverse=(T.drop f).take (i-f)) (hf:f<i) (hb:T[i]?=some b):(b::cur).reverse=(T.drop f).take (i+1-f):=by
 rw[List.reverse_cons,h,show i+1-f=(i-f)+1 by omega,List.take_add_one,List.getElem?_drop,show f+(i-f)=i by omega,hb]
 rfl
theorem ref16_Parse (l:List UInt8) (hl:l.length<=100000):Go.Ev.Fn CX 21 [.str (bs l)] (.tup [.sl (parseP l).2.length (rvsC (parseP l).2),.int .i64 ((parseP l).1:Int)]):=by
 have pl:=ref16_plain l hl
 have hTl:=plain_le l false
 rw[parse_runA]
 generalize plainL false l=T at *
 generalize hA:runA [] (toks [] T)=A at *
 refine fni Tryz.f21 ?_;unfold Tryz.f21;simp only[Option.get!_some]
 repeat (first|simp only[go_sem]|simp (disch:=first|exact oa|fail) only[AX]|refine wki ?_|refine wqn ?_|refine vf_of (by first|exact pl) ?_)
 refine vp_loop_inv (fun s=>s.tmp 0 = .sv (.str (bs T)) /\ ∃ (i:Nat) (cur:List UInt8) (qs:List Rat),s.tmp 6 = .sv (.int .i64 (i:Int))/\i<=T.length+1 /\
   ((cur=[]/\s.tmp 5 = .sv (.int .i64 (-1))) \/ ∃f:Nat,s.tmp 5 = .sv (.int .i64 (f:Int))/\f<i/\i<=T.length/\cur≠[]/\cur.reverse=(T.drop f).take (i-f)) /\
   A=runA qs (if i<=T.length then toks cur (T.drop i) else [])/\qs.length<=i /\
   ((qs=[]/\s.tmp 4 = .nil) \/ ∃g,0<qs.length/\s.tmp 4 = .ref 47 g 3 0 qs.length/\s.obj 47 g=some (rvsC qs)))
  (fun s=>match s.tmp 6 with | .sv (.int _ i)=>T.length+1-i.toNat|_=>0) ⟨rfl,0,[],[],rfl,by omega,.inl ⟨rfl,rfl⟩,by rw[if_pos (Nat.zero_le _)];exact hA.symm,by simp,.inl ⟨rfl,rfl⟩⟩ ?_
 rintro s ⟨i0,i,cur,qs,i6,hi,hcur,hrun,hq,hrow⟩
 by_cases hend:i=T.length+1
 ·rw[if_neg (by omega),runA_nil]at hrun
  rw[hrun]
  have hfin:finP (0,qs)=if 256<qs.length then (3,[]) else (0,qs):=rfl
  rw[hfin]
  by_cases h256:256<qs.length
  ·rw[if_pos h256]
   rcases hrow with⟨rfl,i4⟩|⟨g,h0,i4,iO⟩
   ·simp at h256
   ·repeat (first|simp only[go_sem,i0,i6,i4,bs_size]|simp (disch:=first|exact oa|fail) only[AX,i0,i6,i4,bs_size]|refine wki ?_|refine wqn ?_)
    exact⟨rfl,rfl⟩
  ·rw[if_neg h256]
   rcases hrow with⟨rfl,i4⟩|⟨g,h0,i4,iO⟩
   ·repeat (first|simp only[go_sem,i0,i6,i4,bs_size]|simp (disch:=first|exact oa|fail) only[AX,i0,i6,i4,bs_size]|refine wki ?_|refine wqn ?_)
    exact⟨rfl,rfl⟩
   ·have hrl:=rvsC_len qs
    repeat (first|simp only[go_sem,i0,i6,i4,iO,bs_size]|simp (disch:=first|exact oa|fail) only[AX,i0,i6,i4,iO,bs_size]|refine wki ?_|refine wqn ?_)
    refine⟨ro_ref (cs:=rvsC qs) (by decide) ?_ ?_,rfl⟩
    ·simp only[go_sem,i4,iO]
    ·rw[List.drop_zero,List.take_of_length_le (by omega)]
 ·have hile:i<=T.length:=by omega
  rw[if_pos hile]at hrun
  by_cases hlt:i<T.length
  ·obtain⟨b,hb⟩ : ∃b,T[i]?=some b:=⟨_,List.getElem?_eq_getElem hlt⟩
   have hd:=drop_get hb
   have gp:=ref16_gap b
   cases hg:gapB b with
   |false=>
    rw[hg]at gp
    have htk:toks cur (T.drop i)=toks (b::cur) (T.drop (i+1)):=by
     rw[hd]
     show (if gapB b then (if cur=[] then toks [] (T.drop (i+1)) else cur.reverse::toks [] (T.drop (i+1))) else toks (b::cur) (T.drop (i+1)))=_
     rw[hg]
     rfl
    rw[htk]at hrun
    have hrun':A=runA qs (if i+1<=T.length then toks (b::cur) (T.drop (i+1)) else []):=by rw[if_pos (by omega)];exact hrun
    rcases hcur with⟨rfl,i5⟩|⟨f,i5,hf1,hf2,hne,hrev⟩
    ·repeat (first|simp only[go_sem,i0,i6,i5,bs_size,hb,vo_ix,idxB_bs,Option.map_some]|simp (disch:=first|exact oa|fail) only[AX,i0,i6,i5,bs_size,hb,vo_ix,idxB_bs,Option.map_some]|refine wki ?_|refine wqn ?_)
     refine vf_of (gp) ?_;repeat (first|simp only[go_sem,i0,i6,i5,bs_size,hb,vo_ix,idxB_bs,Option.map_some,Bool.not_false]|simp (disch:=first|exact oa|fail) only[AX,i0,i6,i5,bs_size,hb,vo_ix,idxB_bs,Option.map_some,Bool.not_false]|refine wki ?_|refine wqn ?_)
     exact⟨⟨i+1,[b],qs,rfl,by omega,.inr ⟨i,rfl,by omega,by omega,by simp,by rw[show i+1-i=1 by omega,hd];rfl⟩,hrun',by omega,hrow⟩,by omega⟩
    ·repeat (first|simp only[go_sem,i0,i6,i5,bs_size,hb,vo_ix,idxB_bs,Option.map_some]|simp (disch:=first|exact oa|fail) only[AX,i0,i6,i5,bs_size,hb,vo_ix,idxB_bs,Option.map_some]|refine wki ?_|refine wqn ?_)
     refine vf_of (gp) ?_;repeat (first|simp only[go_sem,i0,i6,i5,bs_size,hb,vo_ix,idxB_bs,Option.map_some,Bool.not_false]|simp (disch:=first|exact oa|fail) only[AX,i0,i6,i5,bs_size,hb,vo_ix,idxB_bs,Option.map_some,Bool.not_false]|refine wki ?_|refine wqn ?_)
     exact⟨⟨i+1,b::cur,qs,rfl,by omega,.inr ⟨f,rfl,by omega,by omega,by simp,rev_cur hrev hf1 hb⟩,hrun',by omega,hrow⟩,by omega⟩
   |true=>
    rw[hg]at gp
    have htk:toks cur (T.drop i)=if cur=[] then toks [] (T.drop (i+1)) else cur.reverse::toks [] (T.drop (i+1)):=by
     rw[hd]
     show (if gapB b then (if cur=[] then toks [] (T.drop (i+1)) else cur.reverse::toks [] (T.drop (i+1))) else toks (b::cur) (T.drop (i+1)))=_
     rw[hg]
     rfl
    rw[htk]at hrun
    rcases hcur with⟨rfl,i5⟩|⟨f,i5,hf1,hf2,hne,hrev⟩
    ·rw[if_pos rfl]at hrun
     repeat (first|simp only[go_sem,i0,i6,i5,bs_size,hb,vo_ix,idxB_bs,Option.map_some,Bool.not_true]|simp (disch:=first|exact oa|fail) only[AX,i0,i6,i5,bs_size,hb,vo_ix,idxB_bs,Option.map_some,Bool.not_true]|refine wki ?_|refine wqn ?_|refine vf_of (by first|exact gp) ?_)
     exact⟨⟨i+1,[],qs,rfl,by omega,.inl rfl,by rw[if_pos (by omega)];exact hrun,by omega,hrow⟩,by omega⟩
    ·rw[if_neg hne,hrev]at hrun
     have nm:=ref16_Number ((T.drop f).take (i-f)) (by rw[List.length_take,List.length_drop];omega)
     generalize hw:(T.drop f).take (i-f)=w at *
     by_cases he:(numP w).1=0
     ·rw[runA_cons_ok he]at hrun
      rw[he]at nm
      have e0:(((0:Nat):Int) != 0)=false:=rfl
      generalize (numP w).2=q at *
      unfold rv ratV at nm
      rcases hrow with⟨rfl,i4⟩|⟨g,h0,i4,iO⟩
      ·repeat (first|simp only[go_sem,i0,i6,i5,i4,bs_size,hb,vo_ix,idxB_bs,Option.map_some]|simp (disch:=first|exact oa|fail) only[AX,i0,i6,i5,i4,bs_size,hb,vo_ix,idxB_bs,Option.map_some]|refine wki ?_|refine wqn ?_)
       repeat (first|simp only[go_sem,i0,i6,i5,bs_size,hb,vo_ix,idxB_bs,Option.map_some,i4,Bool.not_true,bs_extract,hw,e0]|simp (disch:=first|exact oa|fail) only[AX,i0,i6,i5,bs_size,hb,vo_ix,idxB_bs,Option.map_some,i4,Bool.not_true,bs_extract,hw,e0]|refine wki ?_|refine wqn ?_|refine vf_of (by first|exact gp|exact nm) ?_)
       exact⟨⟨i+1,[],[q],rfl,by omega,.inl rfl,by rw[if_pos (by omega)];exact hrun,by simp,.inr ⟨s.gen 47,by simp,rfl,by rw[if_pos rfl];rfl⟩⟩,by omega⟩
      ·have hrl:=rvsC_len qs
       repeat (first|simp only[go_sem,i0,i6,i5,i4,iO,bs_size,hb,vo_ix,idxB_bs,Option.map_some,Bool.not_true,bs_extract,hw,e0,hrl,N0]|simp (disch:=first|exact oa|fail) only[AX,i0,i6,i5,i4,iO,bs_size,hb,vo_ix,idxB_bs,Option.map_some,Bool.not_true,bs_extract,hw,e0,hrl,N0]|refine wki ?_|refine wqn ?_|refine vf_of (by first|exact gp|exact nm) ?_)
       exact⟨⟨i+1,[],qs++[q],rfl,by omega,.inl rfl,by rw[if_pos (by omega)];exact hrun,by simp;omega,.inr ⟨g,by simp,by simp,by rw[if_pos rfl,rvsC_app];rfl⟩⟩,by omega⟩
     ·rw[runA_cons_bad he]at hrun
      rw[hrun]
      have hfin:finP ((numP w).1,[])=((numP w).1,[]):=by
       cases hx:(numP w).1 with
       |zero=>exact absurd hx he
       |succ n=>rfl
      rw[hfin]
      have e1:(((numP w).1:Int) != 0)=true:=by rw[bne_iff_ne];omega
      generalize (numP w).2=q at *
      generalize (numP w).1=e at *
      unfold rv ratV at nm
      repeat (first|simp only[go_sem,i0,i6,i5,bs_size,hb,vo_ix,idxB_bs,Option.map_some,Bool.not_true,bs_extract,hw,e1]|simp (disch:=first|exact oa|fail) only[AX,i0,i6,i5,bs_size,hb,vo_ix,idxB_bs,Option.map_some,Bool.not_true,bs_extract,hw,e1]|refine wki ?_|refine wqn ?_|refine vf_of (by first|exact gp|exact nm) ?_)
      rfl
  ·have hiT:i=T.length:=by omega
   have htk:toks cur (T.drop i)=if cur=[] then [] else [cur.reverse]:=by
    rw[hiT,List.drop_length]
    rfl
   rw[htk]at hrun
   rcases hcur with⟨rfl,i5⟩|⟨f,i5,hf1,hf2,hne,hrev⟩
   ·rw[if_pos rfl]at hrun
    repeat (first|simp only[go_sem,i0,i6,i5,bs_size]|simp (disch:=first|exact oa|fail) only[AX,i0,i6,i5,bs_size]|refine wki ?_|refine wqn ?_)
    exact⟨⟨i+1,[],qs,rfl,by omega,.inl rfl,by rw[if_neg (by omega)];exact hrun,by omega,hrow⟩,by omega⟩
   ·rw[if_neg hne,hrev]at hrun
    have nm:=ref16_Number ((T.drop f).take (i-f)) (by rw[List.length_take,List.length_drop];omega)
    generalize hw:(T.drop f).take (i-f)=w at *
    by_cases he:(numP w).1=0
    ·rw[runA_cons_ok he]at hrun
     rw[he]at nm
     have e0:(((0:Nat):Int) != 0)=false:=rfl
     generalize (numP w).2=q at *
     unfold rv ratV at nm
     rcases hrow with⟨rfl,i4⟩|⟨g,h0,i4,iO⟩
     ·repeat (first|simp only[go_sem,i0,i6,i5,i4,bs_size,bs_extract,hw]|simp (disch:=first|exact oa|fail) only[AX,i0,i6,i5,i4,bs_size,bs_extract,hw]|refine wki ?_|refine wqn ?_)
      refine vf_of (nm) ?_;repeat (first|simp only[go_sem,i0,i6,i5,bs_size,i4,Bool.not_true,bs_extract,hw,e0]|simp (disch:=first|exact oa|fail) only[AX,i0,i6,i5,bs_size,i4,Bool.not_true,bs_extract,hw,e0]|refine wki ?_|refine wqn ?_)
      exact⟨⟨i+1,[],[q],rfl,by omega,.inl rfl,by rw[if_neg (by omega)];exact hrun,by simp,.inr ⟨s.gen 47,by simp,rfl,by rw[if_pos rfl];rfl⟩⟩,by omega⟩
     ·have hrl:=rvsC_len qs
      repeat (first|simp only[go_sem,i0,i6,i5,i4,iO,bs_size,bs_extract,hw,Bool.not_true,e0,hrl,N0]|simp (disch:=first|exact oa|fail) only[AX,i0,i6,i5,i4,iO,bs_size,bs_extract,hw,Bool.not_true,e0,hrl,N0]|refine wki ?_|refine wqn ?_|refine vf_of (by first|exact nm) ?_)
      exact⟨⟨i+1,[],qs++[q],rfl,by omega,.inl rfl,by rw[if_neg (by omega)];exact hrun,by simp;omega,.inr ⟨g,by simp,by simp,by rw[if_pos rfl,rvsC_app];rfl⟩⟩,by omega⟩
    ·rw[runA_cons_bad he]at hrun
     rw[hrun]
     have hfin:finP ((numP w).1,[])=((numP w).1,[]):=by
      cases hx:(numP w).1 with
      |zero=>exact absurd hx he
      |succ n=>rfl
     rw[hfin]
     have e1:(((numP w).1:Int) != 0)=true:=by rw[bne_iff_ne];omega
     generalize (numP w).2=q at *
     generalize (numP w).1=e at *
     unfold rv ratV at nm
     repeat (first|simp only[go_sem,i0,i6,i5,bs_size,bs_extract,hw,Bool.not_true,e1]|simp (disch:=first|exact oa|fail) only[AX,i0,i6,i5,bs_size,bs_extract,hw,Bool.not_true,e1]|refine wki ?_|refine wqn ?_|refine vf_of (by first|exact nm) ?_)
     rfl
end Go.Proofs.YtjphnjffglapgaaGreatDoor
set_option maxHeartbeats 4000000
namespace Go.Proofs.YtjphnjffglapgaaGreatDoor
open Go.Ev
def letP (es:List Ent) (t x:List UInt8) (p:Nat):Int×List Ent:=
 if nameP t=false then (6,es) else if (parseP x).1=0 then setP es t p (parseP x).2.length (rvsC (parseP x).2) else ((parseP x).1,es)
theorem letP_ok {es:List Ent} {t x:List UInt8} {p:Nat} (hs:Srt es) (hl:es.length<=16) (hp:PosAt es t p):Srt (letP es t x p).2/\(letP es t x p).2.length<=16:=by
 unfold letP
 split
 ·exact⟨hs,hl⟩
 ·split
  ·exact setP_ok hs hl hp
  ·exact⟨hs,hl⟩
section
variable {ops:Array Oper} {l:List Oper} {dst:Option Nat} {st:St} {Q:St->Prop} {d g p:Nat} {es:List Ent} {t:List UInt8} {D:Int}
theorem sess_Let_is {x:List UInt8} (ht:t.length<=1048576) (hx:x.length<=100000) (h16:es.length<=16) (hp:PosAt es t p) (h:SessR st d g es D)
  (k : ∀st',Keep d st st'->SessR st' d g (letP es t x p).2 D->WO CX false ops l (st'.putO dst (.sv (.int .i64 (letP es t x p).1))) Q) :
  WN CX ops l dst st Q 7 [.ptr d g 0,.sv (.str (bs t)),.sv (.str (bs x))]:=by
 unfold letP at k
 cases hn:nameP t with
 |false=>
  rw[hn,if_pos rfl]at k
  exact sess_Let_name ht hn h k
 |true=>
  rw[hn,if_neg (by simp)]at k
  have nm:=sess_Name t ht
  rw[hn]at nm
  have hP:=data_Parse x hx
  have hz : ∀q∈(parseP x).2,szR q 500:=parse_sz
  have hd':2000000<=d:=h.ob
  generalize parseP x=r at *
  obtain⟨e,qs⟩:=r
  have hc:qs.length<=256->Go.Ev.Fn CX 24 [.sl qs.length (rvsC qs)] (.sl qs.length (rvsC qs)):=fun hm=>sess_copied (rvsC_row (L:=500) qs hz) (by omega) (by omega) (by omega)
  dsimp only at k
  refine wni Tryz.f7 ?_;unfold Tryz.f7;simp only[Option.get!_some]
  by_cases he:e=0
  ·subst he
   rw[if_pos rfl]at k
   repeat (first|simp only[go_sem,hd',Bool.not_true]|simp (disch:=first|exact oa|fail) only[AX,hd',Bool.not_true]|refine wki ?_|refine wqn ?_|refine vf_of (by first|exact nm|exact hP) ?_)
   refine sess_Set_is ht h16 hp hc (h.of rfl (fun _=>rfl) (Nat.le_refl _)) ?_
   intro s1 hk hs1
   repeat (first|simp only[go_sem]|simp (disch:=first|exact oa|fail) only[AX]|refine wki ?_|refine wqn ?_)
   exact k _ (keep_of (by repeat (first|exact Kp.refl|exact hk.kp|refine Kp.trans ?_ hk.kp|refine Kp.put ?_|refine Kp.setH ?_|refine Kp.newset ?_|refine Kp.set rfl ?_|refine Kp.set (by assumption) ?_|refine Kp.new ?_|refine Kp.grow rfl ?_|refine Kp.frzd rfl ?_|refine Kp.ins rfl ?_))) (hs1.of rfl (fun _=>rfl) (Nat.le_refl _))
  ·rw[if_neg he]at k
   repeat (first|simp only[go_sem,hd',Bool.not_true]|simp (disch:=first|exact oa|fail) only[AX,hd',Bool.not_true]|refine wki ?_|refine wqn ?_|refine vf_of (by first|exact nm|exact hP) ?_)
   exact k _ (keep_of (by repeat (first|exact Kp.refl|refine Kp.put ?_|refine Kp.setH ?_|refine Kp.newset ?_|refine Kp.set rfl ?_|refine Kp.set (by assumption) ?_|refine Kp.new ?_|refine Kp.grow rfl ?_|refine Kp.frzd rfl ?_|refine Kp.ins rfl ?_))) (h.of rfl (fun _=>rfl) (Nat.le_refl _))
theorem doc_Let_is {x:List UInt8} (hx:x.length<=100000) (h16:es.length<=16) (hp:PosAt es t p) (h:SessD st d g es D)
  (k : ∀st',KeepT TD d st st'->SessD st' d g (letP es t x p).2 D->WO CX false ops l (st'.putO dst (.sv (.int .i64 (letP es t x p).1))) Q) :
  WN CX ops l dst st Q 8 [.ptr d g 0,.sv (.str (bs t)),.sv (.str (bs x))]:=by
 unfold letP at k
 have nm:=ref22_Name t
 have hP:=ref16_Parse x hx
 have hz : ∀q∈(parseP x).2,szR q 500:=parse_sz
 have hd':2000000<=d:=h.ob
 generalize parseP x=r at *
 obtain⟨e,qs⟩:=r
 have hc:=rvsC_row (L:=500) qs hz
 dsimp only at k
 refine wni Tryz.f8 ?_;unfold Tryz.f8;simp only[Option.get!_some]
 cases hn:nameP t with
 |false=>
  rw[hn,if_pos rfl]at k
  rw[hn]at nm
  repeat (first|simp only[go_sem,hd',Bool.not_false]|simp (disch:=first|exact oa|fail) only[AX,hd',Bool.not_false]|refine wki ?_|refine wqn ?_|refine vf_of (by first|exact nm) ?_)
  exact k _ (keep_of (by repeat (first|exact Kp.refl|refine Kp.put ?_|refine Kp.setH ?_|refine Kp.newset ?_|refine Kp.set rfl ?_|refine Kp.set (by assumption) ?_|refine Kp.new ?_|refine Kp.grow rfl ?_|refine Kp.frzd rfl ?_|refine Kp.ins rfl ?_))) (h.same rfl rfl rfl)
 |true=>
  rw[hn,if_neg (by simp)]at k
  rw[hn]at nm
  by_cases he:e=0
  ·subst he
   rw[if_pos rfl]at k
   have e0:(((0:Nat):Int) != 0)=false:=rfl
   repeat (first|simp only[go_sem,hd',Bool.not_true,e0]|simp (disch:=first|exact oa|fail) only[AX,hd',Bool.not_true,e0]|refine wki ?_|refine wqn ?_|refine vf_of (by first|exact nm|exact hP) ?_)
   refine doc_Set_is hc (by omega) (by omega) h16 hp (h.same rfl rfl rfl) ?_
   intro s1 hk hs1
   repeat (first|simp only[go_sem]|simp (disch:=first|exact oa|fail) only[AX]|refine wki ?_|refine wqn ?_)
   exact k _ (keep_of (by repeat (first|exact Kp.refl|exact hk.kp|refine Kp.trans ?_ hk.kp|refine Kp.put ?_|refine Kp.setH ?_|refine Kp.newset ?_|refine Kp.set rfl ?_|refine Kp.set (by assumption) ?_|refine Kp.new ?_|refine Kp.grow rfl ?_|refine Kp.frzd rfl ?_|refine Kp.ins rfl ?_))) (hs1.same rfl rfl rfl)
  ·rw[if_neg he]at k
   have e0:((e:Int) != 0)=true:=by rw[bne_iff_ne];omega
   repeat (first|simp only[go_sem,hd',Bool.not_true,e0]|simp (disch:=first|exact oa|fail) only[AX,hd',Bool.not_true,e0]|refine wki ?_|refine wqn ?_|refine vf_of (by first|exact nm|exact hP) ?_)
   exact k _ (keep_of (by repeat (first|exact Kp.refl|refine Kp.put ?_|refine Kp.setH ?_|refine Kp.newset ?_|refine Kp.set rfl ?_|refine Kp.set (by assumption) ?_|refine Kp.new ?_|refine Kp.grow rfl ?_|refine Kp.frzd rfl ?_|refine Kp.ins rfl ?_))) (h.same rfl rfl rfl)
end
end Go.Proofs.YtjphnjffglapgaaGreatDoor
set_option maxHeartbeats 4000000
namespace Go.Proofs.YtjphnjffglapgaaGreatDoor
open Go.Ev
theorem ref2_RatsU {l:List Rat} {cs ds:List SV} {L M:Nat} (h1:RowC cs l L) (h2:RowC ds l M) (hL:1<=L) (hM:1<=M) (hLM:L+M<=8388608) (hl:l.length<=100000) :
  Go.Ev.Fn CX 31 [.sl l.length cs,.sl l.length ds] (.bool true):=by
 have la:=row_len h1
 have lb:=row_len h2
 have at1:=fun {i:Nat} (hi:i<l.length)=>row_at (i:=i) h1 hi
 have at2:=fun {i:Nat} (hi:i<l.length)=>row_at (i:=i) h2 hi
 refine fni Tryz.f31 ?_;unfold Tryz.f31;simp only[Option.get!_some]
 repeat (first|simp only[go_sem]|simp (disch:=first|exact oa|fail) only[AX]|refine wki ?_|refine wqn ?_|refine vpd 6 [] ?_)
 refine vp_loop_inv (fun s=>s.tmp 0 = .sv (.sl l.length cs)/\s.tmp 1 = .sv (.sl l.length ds) /\ ∃i:Nat,s.tmp 5 = .sv (.int .i64 (i:Int))/\i<=l.length) (fun s=>match s.tmp 5 with | .sv (.int _ i)=>l.length-i.toNat|_=>0) ⟨rfl,rfl,0,rfl,by omega⟩ ?_
 rintro s ⟨i0,i1,i,i5,hi⟩
 by_cases hend:i=l.length
 ·subst hend
  repeat (first|simp only[go_sem,i0,i1,i5]|simp (disch:=first|exact oa|fail) only[AX,i0,i1,i5]|refine wki ?_|refine wqn ?_|refine vpd 6 [] ?_)
 ·obtain⟨sx,nx,dx,rx,g1,r1⟩:=at1 (i:=i) (by omega)
  obtain⟨sy,ny,dy,ry,g2,r2⟩:=at2 (i:=i) (by omega)
  have sm:=ref2_Same r1 r2 hL hM hLM
  rw[decide_eq_true rfl]at sm
  clear at1 at2 r1 r2
  repeat (first|simp only[go_sem,i0,i1,i5,g1,g2,la,lb,Bool.not_true]|simp (disch:=first|exact oa|fail) only[AX,i0,i1,i5,g1,g2,la,lb,Bool.not_true]|refine wki ?_|refine wqn ?_|refine vpd 6 [] ?_|refine vf_of (by first|exact sm) ?_)
  exact⟨⟨i+1,rfl,by omega⟩,by omega⟩
def Good (es:List Ent):Prop := ∀e∈es,∃ql:List Rat,e.2.1=ql.length/\e.2.2=rvsC ql/\ql.length<=256 /\ ∀q∈ql,szR q 500
theorem good_nil:Good []:=fun _ h=>by cases h
theorem good_at {es:List Ent} {i:Nat} (h:Good es) (hi:i<es.length) : ∃ql:List Rat,(es.getD i default).2.1=ql.length/\(es.getD i default).2.2=rvsC ql/\ql.length<=256 /\ ∀q∈ql,szR q 500:=by
 refine h _ ?_
 rw[List.getD_eq_getElem?_getD,List.getElem?_eq_getElem hi]
 exact List.getElem_mem _
theorem set_good {es:List Ent} {t:List UInt8} {p:Nat} {ql:List Rat} (h:Good es) (hz : ∀q∈ql,szR q 500):Good (setP es t p ql.length (rvsC ql)).2:=by
 unfold setP
 split
 ·exact h
 ·split
  ·exact h
  ·rename_i h7
   have hm:ql.length<=256:=by
    have : ¬256<ql.length:=fun e=>h7 (.inl e)
    omega
   split
   ·intro e he
    rcases List.mem_or_eq_of_mem_set he with he|rfl
    ·exact h e he
    ·exact⟨ql,rfl,rfl,hm,hz⟩
   ·intro e he
    rcases List.mem_append.1 he with he|he
    ·exact h e (List.mem_of_mem_take he)
    ·rcases List.mem_cons.1 he with rfl|he
     ·exact⟨ql,rfl,rfl,hm,hz⟩
     ·exact h e (List.mem_of_mem_drop he)
theorem let_good {es:List Ent} {t x:List UInt8} {p:Nat} (h:Good es):Good (letP es t x p).2:=by
 unfold letP
 split
 ·exact h
 ·split
  ·exact set_good h parse_sz
  ·exact h
theorem drop_good {es:List Ent} {t:List UInt8} {p:Nat} (h:Good es):Good (dropP es t p).2:=by
 unfold dropP
 split
 ·intro e he
  rcases List.mem_append.1 he with he|he
  ·exact h e (List.mem_of_mem_take he)
  ·exact h e (List.mem_of_mem_drop he)
 ·exact h
theorem at_pos {es:List Ent} {i:Nat} (hs:Srt es) (hi:i<es.length):PosAt es (es.getD i default).1 i/\isAt es (es.getD i default).1 i=true:=by
 have g : ∀a b:Nat,a<b->b<es.length->Lib.compareBytes (es.getD a default).1 (es.getD b default).1<0:=fun a b h1 h2=>by
  have:=List.pairwise_iff_getElem.1 hs a b (by omega) h2 h1
  rw[List.getD_eq_getElem?_getD,List.getElem?_eq_getElem (show a<es.length by omega),List.getD_eq_getElem?_getD,List.getElem?_eq_getElem h2]
  exact this
 refine⟨⟨by omega,fun k hk=>g k i hk hi,fun k h1 h2 => ?_⟩,?_⟩
 ·unfold cmpAt
  rcases Nat.eq_or_lt_of_le h1 with rfl|h
  ·rw[cb_self]
   omega
  ·have:=g i k h h2
   rw[cb_swap (es.getD i default).1 (es.getD k default).1]
   omega
 ·unfold isAt cmpAt
  rw[decide_eq_true hi,cb_self]
  rfl
section
variable {ops:Array Oper} {l:List Oper} {dst:Option Nat} {st:St} {Q:St->Prop} {d g dx gx p:Nat} {es:List Ent} {t:List UInt8} {D:Int}
end
end Go.Proofs.YtjphnjffglapgaaGreatDoor
set_option maxHeartbeats 4000000
namespace Go.Proofs.YtjphnjffglapgaaGreatDoor
open Go.Ev
theorem same_nat : ∀xs:List Nat,sameL (xs.map limb) (xs.map limb)=true
 | []=>rfl
 |x::xs=>by
  show (sameSV (limb x) (limb x)&&sameL (xs.map limb) (xs.map limb))=true
  rw[same_nat xs,Bool.and_true]
  simp[limb,sameSV]
theorem same_row {L:Nat} : ∀ {l:List Rat} {cs:List SV},RowC cs l L->sameL cs cs=true
 | [],cs,h=>by
  have h:cs=[]:=h
  subst h
  rfl
 |q::l,cs,h=>by
  obtain⟨s,n,d,rest,rfl,_,h2⟩:=h
  have:=same_row h2
  have hn:=same_nat n
  have hd:=same_nat d
  simp only[sameL,sameSV,decide_true,Bool.true_and,hn,hd,this]
section
variable {ops:Array Oper} {l:List Oper} {dst:Option Nat} {st:St} {Q:St->Prop} {d g dx gx p:Nat} {es:List Ent} {t:List UInt8} {D:Int}
end
end Go.Proofs.YtjphnjffglapgaaGreatDoor
set_option maxHeartbeats 4000000
namespace Go.Proofs.YtjphnjffglapgaaGreatDoor
open Go.Ev
theorem doc_NewE:FnH CX 6 [] [.nil,.nil,.sv (.int .i64 6)]:=⟨20,[],by kernel_rfl⟩
theorem err_set {es:List Ent} {t:List UInt8} {p m:Nat} {rs:List SV} (h:(setP es t p m rs).1≠0):(setP es t p m rs).2=es:=by
 unfold setP at *
 split
 ·rfl
 ·rename_i h1
  rw[if_neg h1]at h
  split
  ·rfl
  ·rename_i h2
   rw[if_neg h2]at h
   split at h<;>exact absurd rfl h
theorem err_drop {es:List Ent} {t:List UInt8} {p:Nat} (h:(dropP es t p).1≠0):(dropP es t p).2=es:=by
 unfold dropP at *
 split
 ·rename_i h1
  rw[if_pos h1]at h
  exact absurd rfl h
 ·rfl
theorem err_let {es:List Ent} {t x:List UInt8} {p:Nat} (h:(letP es t x p).1≠0):(letP es t x p).2=es:=by
 unfold letP at *
 split
 ·rfl
 ·rename_i h1
  rw[if_neg h1]at h
  split
  ·rename_i h2
   rw[if_pos h2]at h
   exact err_set h
  ·rfl
theorem SessD.off6 {st s:St} {d g:Nat} {es:List Ent} {D:Int} (h:SessD st d g es D) (h1:s.hob=st.hob) (h2 : ∀n g',n≠6->s.obj n g'=st.obj n g') (h3 : ∀n,n≠6->s.gen n=st.gen n):SessD s d g es D:=by
 obtain⟨a,hrow⟩:=h
 refine⟨a,?_⟩
 rw[h1]
 rcases hrow with h|⟨dn,gn,dl,gl,en,el,gn1,gl1,ho,hN,hL⟩
 ·exact .inl h
 ·exact .inr ⟨dn,gn,dl,gl,en,el,by rw[h3 dn (by omega)];exact gn1,by rw[h3 dl (by omega)];exact gl1,ho,(h2 dn gn (by omega)).trans hN,(h2 dl gl (by omega)).trans hL⟩
theorem namC_all (es:List Ent):(namC es).all SV.one=true:=one_nam es
theorem rowL_all (es:List Ent):(rowL es).all SV.one=true:=one_row es
theorem same_strE (b:ByteArray):sameSV (.str b) (.str b)=true:=by simp[sameSV]
theorem same_namC (es:List Ent):sameL (namC es) (namC es)=true:=by
 unfold namC
 induction es with
 |nil=>rfl
 |cons e es ih=>
  rw[List.map_cons]
  unfold sameL
  rw[ih,same_strE]
  rfl
theorem same_rowL {es:List Ent} (hG:Good es):sameL (rowL es) (rowL es)=true:=by
 unfold rowL
 induction es with
 |nil=>rfl
 |cons e es ih=>
  rw[List.map_cons]
  have hg:=hG e List.mem_cons_self
  obtain⟨ql,e1,e2,hm,hz⟩:=hg
  unfold sameL
  rw[ih (fun x hx=>hG x (List.mem_cons_of_mem _ hx))]
  have:=same_row (rvsC_row (L:=500) ql hz)
  rw[e2]
  simp[sameSV,this]
abbrev wasC (es:List Ent) (D:Int):List SV:=[.sl es.length (namC es),.sl es.length (rowL es),.int .i64 D]
section
variable {ops:Array Oper} {l:List Oper} {dst:Option Nat} {st:St} {Q:St->Prop} {d g p g6:Nat} {es:List Ent} {t:List UInt8} {D:Int}
theorem alike_was (hG:Good es) (h16:es.length<=16) (hs:Srt es) (hS:SessR st d g es D) (ho6:st.obj 6 g6=some (wasC es D)) (hg6:g6<st.gen 6)
  (k : ∀st',Keep d st st'->SessR st' d g es D->WO CX false ops l (st'.putO dst (.sv (.bool true))) Q) :
  WN CX ops l dst st Q 15 [.ptr d g 0,.ptr 6 g6 0]:=by
 have hd':2000000<=d:=hS.ob
 have hpl:plV (.ptr d g 0)=true:=pl_ob hS.ob
 have hp6:plV (.ptr 6 g6 0)=true:=rfl
 refine wni Tryz.f15 ?_;unfold Tryz.f15;simp only[Option.get!_some]
 repeat (first|simp only[go_sem,hd']|simp (disch:=first|exact oa|fail) only[AX,hd']|refine wki ?_|refine wqn ?_|refine vpd 2 [] ?_|refine vpd 8 [7,67] ?_)
 refine sess_Names (by omega) (hS.of rfl (fun _=>rfl) (Nat.le_refl _)) ?_
 intro s2 tv hk hs2 htv
 have j0:s2.tmp 0 = .ptr d g 0:=(hk.tmp 0 (by simp only[tmp_put,reduceIte,Nat.reduceEqDiff];exact hpl)).trans rfl
 have j1:s2.tmp 1 = .ptr 6 g6 0:=(hk.tmp 1 (by simp only[tmp_put,reduceIte,Nat.reduceEqDiff];exact hp6)).trans rfl
 have j67:s2.tmp 67 = .undef:=(hk.tmp 67 rfl).trans rfl
 have o6:s2.obj 6 g6=some (wasC es D):=(hk.obj 6 g6 rfl hg6).trans ho6
 have w6:g6<s2.gen 6:=Nat.lt_of_lt_of_le hg6 (hk.gen 6)
 have hup:Kp TP d (st.enter [.ptr d g 0,.ptr 6 g6 0]) s2:=(by repeat (first|exact Kp.refl|exact hk.kp|refine Kp.trans ?_ hk.kp|refine Kp.put ?_|refine Kp.setH ?_|refine Kp.newset ?_|refine Kp.set rfl ?_|refine Kp.set (by assumption) ?_|refine Kp.new ?_|refine Kp.grow rfl ?_|refine Kp.frzd rfl ?_|refine Kp.ins rfl ?_))
 have hob : ∃te,s2.hob d g=some [te,.sv (.int .i64 D)]:=by
  rcases hs2.row with⟨_,h⟩|⟨g1,_,h,_⟩
  ·exact⟨_,h⟩
  ·exact⟨_,h⟩
 obtain⟨te,hob⟩:=hob
 have hS0:=hs2
 clear hS hk
 rcases htv with⟨hE,rfl⟩|⟨g',hg0,rfl,hN⟩
 ·subst hE
  repeat (first|simp only[go_sem,hd',j0,j1,o6,List.length_nil]|simp (disch:=first|exact oa|fail) only[AX,hd',j0,j1,o6,List.length_nil]|refine wki ?_|refine wqn ?_|refine vpd 2 [] ?_|refine vpd 8 [7,67] ?_)
  refine wli Tryz.f29 (.int .i64 D) ?_ ?_
  ·unfold Tryz.f29
   simp only[Option.get!_some]
   simp only[go_sem,hob,hd']
  repeat (first|simp only[go_sem,hd',j0,j1,o6,List.length_nil]|simp (disch:=first|exact oa|fail) only[AX,hd',j0,j1,o6,List.length_nil]|refine wki ?_|refine wqn ?_|refine vpd 2 [] ?_|refine vpd 8 [7,67] ?_)
  refine vp_loop_fam (fun n s=>n=0/\s.tmp 0 = .ptr d g 0/\s.tmp 1 = .ptr 6 g6 0/\s.tmp 5 = .nil/\s.tmp 6 = .sv (.int .i64 0)/\Kp TP d (st.enter [.ptr d g 0,.ptr 6 g6 0]) s/\SessR s d g [] D) 0 ⟨rfl,j0,j1,rfl,rfl,(by repeat (first|exact Kp.refl|exact hup|refine Kp.trans ?_ hup|refine Kp.put ?_|refine Kp.setH ?_|refine Kp.newset ?_|refine Kp.set rfl ?_|refine Kp.set (by assumption) ?_|refine Kp.new ?_|refine Kp.grow rfl ?_|refine Kp.frzd rfl ?_|refine Kp.ins rfl ?_)),hS0.of rfl (fun _=>rfl) (Nat.le_refl _)⟩ ?_
  rintro n s ⟨-,i0,i1,i5,i6,iU,iS⟩
  repeat (first|simp only[go_sem,i0,i1,i5,i6,hd']|simp (disch:=first|exact oa|fail) only[AX,i0,i1,i5,i6,hd']|refine wki ?_|refine wqn ?_|refine vpd 2 [] ?_|refine vpd 8 [7,67] ?_)
  exact k _ (keep_of (by repeat (first|exact Kp.refl|exact iU|refine Kp.trans ?_ iU|refine Kp.put ?_|refine Kp.setH ?_|refine Kp.newset ?_|refine Kp.set rfl ?_|refine Kp.set (by assumption) ?_|refine Kp.new ?_|refine Kp.grow rfl ?_|refine Kp.frzd rfl ?_|refine Kp.ins rfl ?_))) (iS.of rfl (fun _=>rfl) (Nat.le_refl _))
 ·have hnl:=namC_len es
  have hll:=rowL_len es
  repeat (first|simp only[go_sem,hd',j0,j1,o6,hN]|simp (disch:=first|exact oa|fail) only[AX,hd',j0,j1,o6,hN]|refine wki ?_|refine wqn ?_|refine vpd 2 [] ?_|refine vpd 8 [7,67] ?_)
  refine wli Tryz.f29 (.int .i64 D) ?_ ?_
  ·unfold Tryz.f29
   simp only[Option.get!_some]
   simp only[go_sem,hob,hd']
  repeat (first|simp only[go_sem,hd',j0,j1,o6]|simp (disch:=first|exact oa|fail) only[AX,hd',j0,j1,o6]|refine wki ?_|refine wqn ?_|refine vpd 2 [] ?_|refine vpd 8 [7,67] ?_)
  refine vp_loop_inv (fun s=>s.tmp 0 = .ptr d g 0/\s.tmp 1 = .ptr 6 g6 0/\s.tmp 5 = .ref 21 g' 1 0 es.length/\NR (s.tmp 67)/\s.obj 21 g'=some (namC es)/\Kp TP d (st.enter [.ptr d g 0,.ptr 6 g6 0]) s/\SessR s d g es D /\
    s.obj 6 g6=some (wasC es D)/\g6<s.gen 6 /\ ∃i:Nat,s.tmp 6 = .sv (.int .i64 (i:Int))/\i<=es.length)
   (fun s=>match s.tmp 6 with | .sv (.int _ i)=>es.length-i.toNat|_=>0) ?_ ?_
  ·exact⟨j0,j1,rfl,.inl j67,hN,(by repeat (first|exact Kp.refl|exact hup|refine Kp.trans ?_ hup|refine Kp.put ?_|refine Kp.setH ?_|refine Kp.newset ?_|refine Kp.set rfl ?_|refine Kp.set (by assumption) ?_|refine Kp.new ?_|refine Kp.grow rfl ?_|refine Kp.frzd rfl ?_|refine Kp.ins rfl ?_)),hS0.of rfl (fun _=>rfl) (Nat.le_refl _),o6,w6,0,rfl,by omega⟩
  clear hup hS0 j0 j1 hN hob hs2 j67 o6 w6
  rintro s ⟨i0,i1,i5,i67,iN,iU,iS,io,iw,i,i6,hi⟩
  by_cases hend:i=es.length
  ·subst hend
   repeat (first|simp only[go_sem,i0,i1,i5,i6,hd']|simp (disch:=first|exact oa|fail) only[AX,i0,i1,i5,i6,hd']|refine wki ?_|refine wqn ?_|refine vpd 2 [] ?_|refine vpd 8 [7,67] ?_)
   exact k _ (keep_of (by repeat (first|exact Kp.refl|exact iU|refine Kp.trans ?_ iU|refine Kp.put ?_|refine Kp.setH ?_|refine Kp.newset ?_|refine Kp.set rfl ?_|refine Kp.set (by assumption) ?_|refine Kp.new ?_|refine Kp.grow rfl ?_|refine Kp.frzd rfl ?_|refine Kp.ins rfl ?_))) (iS.of rfl (fun _=>rfl) (Nat.le_refl _))
  ·obtain⟨hp,hat⟩:=at_pos hs (i:=i) (by omega)
   obtain⟨ql,e1,e2,hm,hz⟩:=good_at hG (i:=i) (by omega)
   have x1:=nam_at (es:=es) (k:=i) (by omega)
   have x2:=rowL_at (es:=es) (k:=i) (by omega)
   have hrow:=rvsC_row (L:=500) ql hz
   have hc:Go.Ev.Fn CX 24 [.sl (es.getD i default).2.1 (es.getD i default).2.2] (.sl (es.getD i default).2.1 (rvsC ql)):=by
    rw[e1,e2]
    exact sess_copied hrow (by omega) (by omega) (by omega)
   have hR:=ref2_RatsU hrow hrow (by omega) (by omega) (by omega) (by omega)
   repeat (first|simp only[go_sem,i0,i1,i5,i6,hd',iN,hnl,x1,List.head?_cons]|simp (disch:=first|exact oa|fail) only[AX,i0,i1,i5,i6,hd',iN,hnl,x1,List.head?_cons]|refine wki ?_|refine wqn ?_|refine vpd 2 [] ?_|refine vpd 8 [7,67] ?_)
   refine sess_Get_atS hp (by omega) hat hc (iS.of rfl (fun _=>rfl) (Nat.le_refl _)) ?_
   intro s3 hk
   rw[e1]
   rw[e1,e2]at x2
   have hob3 : ∀a b,s3.obj a b=s.obj a b:=hk.obj
   have hhob3:s3.hob=s.hob:=hk.hob
   have hgen3:s3.gen=s.gen:=hk.gen
   have m0:s3.tmp 0 = .ptr d g 0:=(hk.tmp 0).trans i0
   have m1:s3.tmp 1 = .ptr 6 g6 0:=(hk.tmp 1).trans i1
   have m5:s3.tmp 5 = .ref 21 g' 1 0 es.length:=(hk.tmp 5).trans i5
   have m6:s3.tmp 6 = .sv (.int .i64 (i:Int)):=(hk.tmp 6).trans i6
   have m67:NR (s3.tmp 67):=by rw[hk.tmp 67];exact i67
   have iU3:Kp TP d (st.enter [.ptr d g 0,.ptr 6 g6 0]) s3:=by
    refine Kp.trans ?_ (Same.keep (T:=TP) (d:=d) hk).kp
    exact(by repeat (first|exact Kp.refl|exact iU|refine Kp.trans ?_ iU|refine Kp.put ?_|refine Kp.setH ?_|refine Kp.newset ?_|refine Kp.set rfl ?_|refine Kp.set (by assumption) ?_|refine Kp.new ?_|refine Kp.grow rfl ?_|refine Kp.frzd rfl ?_|refine Kp.ins rfl ?_))
   have iS3:SessR s3 d g es D:=iS.of (by rw[hhob3]) (fun _=>hob3 _ _) (by rw[hgen3];exact Nat.le_refl _)
   clear iS iU hk
   generalize (es.getD i default).1=tt at *
   rcases m67 with m67|⟨x67,m67⟩
   all_goals
    repeat (first|simp only[go_sem,m0,m1,m5,m6,m67,hob3,hhob3,iN,io,hd',hnl,hll,x1,x2,List.head?_cons,bs_list,beq_self_eq_true,Bool.not_true]|simp (disch:=first|exact oa|fail) only[AX,m0,m1,m5,m6,m67,hob3,hhob3,iN,io,hd',hnl,hll,x1,x2,List.head?_cons,bs_list,beq_self_eq_true,Bool.not_true]|refine wki ?_|refine wqn ?_|refine vpd 2 [] ?_|refine vpd 8 [7,67] ?_|refine vf_of (by first|exact hR) ?_)
    exact⟨⟨.inr ⟨_,rfl⟩,(by repeat (first|exact Kp.refl|exact iU3|refine Kp.trans ?_ iU3|refine Kp.put ?_|refine Kp.setH ?_|refine Kp.newset ?_|refine Kp.set rfl ?_|refine Kp.set (by assumption) ?_|refine Kp.new ?_|refine Kp.grow rfl ?_|refine Kp.frzd rfl ?_|refine Kp.ins rfl ?_)),iS3.of rfl (fun _=>rfl) (Nat.le_refl _),by rw[hgen3];exact iw,i+1,rfl,by omega⟩,by omega⟩
end
end Go.Proofs.YtjphnjffglapgaaGreatDoor
set_option maxHeartbeats 8000000
namespace Go.Proofs.YtjphnjffglapgaaGreatDoor
open Go.Ev
theorem nr_plT {T:Nat->Bool} {v:TV} (h:NR v):plT T v=true:=by rcases h with rfl|⟨x,rfl⟩<;>rfl
theorem errors_law (s0:SV) (sh0:ShpT Tryz.prog 7 22 [s0]):Go.Ev.Fn CX 3 [s0] (.bool true):=by
 obtain⟨acs,e0,hlen,hall⟩:=shp_acts (n:=1) sh0
 cases e0
 have hK:=law22_known
 have hN:=sess_New
 have hM:=doc_NewE
 have hL:=law22_long acs
 cases hlo:(acs.take 60).any longA with
 |true=>
  rw[hlo]at hL
  refine fni Tryz.f3 ?_;unfold Tryz.f3;simp only[Option.get!_some]
  repeat (first|simp only[go_sem]|simp (disch:=first|exact oa|fail) only[AX]|refine wki ?_|refine wqn ?_|(refine vp_looseD (id:=9) (l:=[]) (S:=[([0,1,2,3,4,5,6,7,8,9,10,11,12,13,14,15,16],some (17,[0,1,2,3,4,5,6,7,8,9,10,11,12,13,14,15,16])),([],some (18,[])),([],none)]) (by kernel_rfl) (by kernel_rfl) (by kernel_rfl) (by kernel_rfl) ?_)|refine vpl 13 [] [([0,1,2,3,4,5,6,7,8,9,10],some (11,[])),([12],none)] ?_|refine vpl 14 [] [([0,1,2,3,4,5,6,7,8,9,10],some (11,[])),([],none)] ?_|refine vpl 16 [84] [([0,1,2,3,4,5,6,7,8,9,10],some (11,[])),([12],none)] ?_|refine vpl 17 [96] [([0,1,2,3,4,5,6,7,8,9,10],some (11,[])),([],none)] ?_|refine vf_of (by first|exact hL) ?_)
 |false=>
  rw[hlo]at hL
  have hal:=actsC_len acs
  refine fni Tryz.f3 ?_;unfold Tryz.f3;simp only[Option.get!_some]
  repeat (first|simp only[go_sem]|simp (disch:=first|exact oa|fail) only[AX]|refine wki ?_|refine wqn ?_|(refine vp_looseD (id:=9) (l:=[]) (S:=[([0,1,2,3,4,5,6,7,8,9,10,11,12,13,14,15,16],some (17,[0,1,2,3,4,5,6,7,8,9,10,11,12,13,14,15,16])),([],some (18,[])),([],none)]) (by kernel_rfl) (by kernel_rfl) (by kernel_rfl) (by kernel_rfl) ?_)|refine vpl 13 [] [([0,1,2,3,4,5,6,7,8,9,10],some (11,[])),([12],none)] ?_|refine vpl 14 [] [([0,1,2,3,4,5,6,7,8,9,10],some (11,[])),([],none)] ?_|refine vpl 16 [84] [([0,1,2,3,4,5,6,7,8,9,10],some (11,[])),([12],none)] ?_|refine vpl 17 [96] [([0,1,2,3,4,5,6,7,8,9,10],some (11,[])),([],none)] ?_|refine vf_of (by first|exact hL) ?_)
  refine vf_heap hN ?_
  repeat (first|simp only[go_sem]|simp (disch:=first|exact oa|fail) only[AX]|refine wki ?_|refine wqn ?_|(refine vp_looseD (id:=9) (l:=[]) (S:=[([0,1,2,3,4,5,6,7,8,9,10,11,12,13,14,15,16],some (17,[0,1,2,3,4,5,6,7,8,9,10,11,12,13,14,15,16])),([],some (18,[])),([],none)]) (by kernel_rfl) (by kernel_rfl) (by kernel_rfl) (by kernel_rfl) ?_)|refine vpl 13 [] [([0,1,2,3,4,5,6,7,8,9,10],some (11,[])),([12],none)] ?_|refine vpl 14 [] [([0,1,2,3,4,5,6,7,8,9,10],some (11,[])),([],none)] ?_|refine vpl 16 [84] [([0,1,2,3,4,5,6,7,8,9,10],some (11,[])),([12],none)] ?_|refine vpl 17 [96] [([0,1,2,3,4,5,6,7,8,9,10],some (11,[])),([],none)] ?_)
  refine vf_heap hM ?_
  repeat (first|simp only[go_sem]|simp (disch:=first|exact oa|fail) only[AX]|refine wki ?_|refine wqn ?_|(refine vp_looseD (id:=9) (l:=[]) (S:=[([0,1,2,3,4,5,6,7,8,9,10,11,12,13,14,15,16],some (17,[0,1,2,3,4,5,6,7,8,9,10,11,12,13,14,15,16])),([],some (18,[])),([],none)]) (by kernel_rfl) (by kernel_rfl) (by kernel_rfl) (by kernel_rfl) ?_)|refine vpl 13 [] [([0,1,2,3,4,5,6,7,8,9,10],some (11,[])),([12],none)] ?_|refine vpl 14 [] [([0,1,2,3,4,5,6,7,8,9,10],some (11,[])),([],none)] ?_|refine vpl 16 [84] [([0,1,2,3,4,5,6,7,8,9,10],some (11,[])),([12],none)] ?_|refine vpl 17 [96] [([0,1,2,3,4,5,6,7,8,9,10],some (11,[])),([],none)] ?_)
  refine vp_loop_inv (fun s=>s.tmp 0 = .sv (.sl acs.length (actsC acs))/\s.tmp 3 = .ptr 2000010 1 0/\s.tmp 4 = .ptr 2000011 1 0/\NR (s.tmp 84)/\NR (s.tmp 96) /\ ∃i:Nat,s.tmp 5 = .sv (.int .i64 (i:Int))/\i<=acs.length/\i<=60 /\ ∃es D,SessR s 2000010 1 es D/\SessD s 2000011 1 es D/\Srt es/\es.length<=16/\Good es)
   (fun s=>match s.tmp 5 with | .sv (.int _ i)=>acs.length-i.toNat|_=>0) ?_ ?_
  ·exact⟨rfl,rfl,rfl,.inl rfl,.inl rfl,0,rfl,by omega,by omega,[],6,⟨by decide,.inl ⟨rfl,rfl⟩⟩,⟨by decide,.inl ⟨rfl,rfl⟩⟩,List.Pairwise.nil,by simp,good_nil⟩
  rintro s ⟨i0,i3,i4,h84,h96,i,i5,hi,hi60,es,D,hS,hX,hs,h16,hG⟩
  by_cases hend:i=acs.length
  ·subst hend
   repeat (first|simp only[go_sem,i0,i3,i4,i5]|simp (disch:=first|exact oa|fail) only[AX,i0,i3,i4,i5]|refine wki ?_|refine wqn ?_|(refine vp_looseD (id:=9) (l:=[]) (S:=[([0,1,2,3,4,5,6,7,8,9,10,11,12,13,14,15,16],some (17,[0,1,2,3,4,5,6,7,8,9,10,11,12,13,14,15,16])),([],some (18,[])),([],none)]) (by kernel_rfl) (by kernel_rfl) (by kernel_rfl) (by kernel_rfl) ?_)|refine vpl 13 [] [([0,1,2,3,4,5,6,7,8,9,10],some (11,[])),([12],none)] ?_|refine vpl 14 [] [([0,1,2,3,4,5,6,7,8,9,10],some (11,[])),([],none)] ?_|refine vpl 16 [84] [([0,1,2,3,4,5,6,7,8,9,10],some (11,[])),([12],none)] ?_|refine vpl 17 [96] [([0,1,2,3,4,5,6,7,8,9,10],some (11,[])),([],none)] ?_|refine vf_of (by first|exact hK) ?_)
  by_cases h60:i=60
  ·subst h60
   repeat (first|simp only[go_sem,i0,i3,i4,i5]|simp (disch:=first|exact oa|fail) only[AX,i0,i3,i4,i5]|refine wki ?_|refine wqn ?_|(refine vp_looseD (id:=9) (l:=[]) (S:=[([0,1,2,3,4,5,6,7,8,9,10,11,12,13,14,15,16],some (17,[0,1,2,3,4,5,6,7,8,9,10,11,12,13,14,15,16])),([],some (18,[])),([],none)]) (by kernel_rfl) (by kernel_rfl) (by kernel_rfl) (by kernel_rfl) ?_)|refine vpl 13 [] [([0,1,2,3,4,5,6,7,8,9,10],some (11,[])),([12],none)] ?_|refine vpl 14 [] [([0,1,2,3,4,5,6,7,8,9,10],some (11,[])),([],none)] ?_|refine vpl 16 [84] [([0,1,2,3,4,5,6,7,8,9,10],some (11,[])),([12],none)] ?_|refine vpl 17 [96] [([0,1,2,3,4,5,6,7,8,9,10],some (11,[])),([],none)] ?_|refine vf_of (by first|exact hK) ?_)
  obtain⟨rest,g1⟩:=act_at (acs:=acs) (i:=i) (by omega)
  obtain⟨q1,q2,q3,q4⟩:=longA_parts (long_ex hlo (i:=i) (by omega) (by omega))
  have hok : ∀p∈(acs.getD i default).ps,p.ok:=by
   refine(hall _ ?_).2
   rw[List.getD_eq_getElem?_getD,List.getElem?_eq_getElem (by omega)]
   exact List.getElem_mem _
  have hrow:=big3_row q4 hok
  generalize acs.getD i default=a at *
  have hc:(a.ps.map InR.q).length<=256->Go.Ev.Fn CX 24 [.sl (a.ps.map InR.q).length (ratsC a.ps)] (.sl (a.ps.map InR.q).length (rvsC (a.ps.map InR.q))):=fun hm=>sess_copied hrow (by omega) (by omega) (by omega)
  have hz : ∀q∈a.ps.map InR.q,szR q 500:=fun q hq=>szR_mono (row_sz (by omega) hrow q hq) (by omega)
  obtain⟨p,hp⟩:=pos_ex hs a.t
  have hrv:rowV a.ps = .sl (a.ps.map InR.q).length (ratsC a.ps):=by unfold rowV;rw[List.length_map]
  rw[hrv]at g1
  repeat (first|simp only[go_sem,i0,i3,i4,i5]|simp (disch:=first|exact oa|fail) only[AX,i0,i3,i4,i5]|refine wki ?_|refine wqn ?_)
  refine vp_cut (Mid:=fun s9 => ∃g6,s9.tmp 0 = .sv (.sl acs.length (actsC acs))/\s9.tmp 3 = .ptr 2000010 1 0/\s9.tmp 4 = .ptr 2000011 1 0/\s9.tmp 5 = .sv (.int .i64 (i:Int))/\s9.tmp 6 = .ptr 6 g6 0/\NR (s9.tmp 84)/\NR (s9.tmp 96)/\s9.obj 6 g6=some (wasC es D)/\g6<s9.gen 6/\SessR s9 2000010 1 es D/\SessD s9 2000011 1 es D) ?_ ?_
  ·have hX0:=hX
   obtain⟨hdx,hrow9⟩:=hX
   have hnl:=namC_len es
   have hll:=rowL_len es
   have oN:=namC_all es
   have oR:=rowL_all es
   have sN:=same_namC es
   have sR:=same_rowL hG
   rcases hrow9 with⟨hE,ho⟩|⟨dn,gn,dl,gl,en,el,gn1,gl1,ho,hNx,hLx⟩
   ·subst hE
    have w0:sameL [.sl 0 [],.sl 0 [],.int .i64 D] [.sl 0 [],.sl 0 [],.int .i64 D]=true:=by simp[sameL,sameSV]
    have nn:sameL [] []=true:=rfl
    repeat (first|simp only[go_sem,i0,i3,i4,i5,ho,List.length_nil,st_sl nn,st_agg w0]|simp (disch:=first|exact oa|fail) only[AX,i0,i3,i4,i5,ho,List.length_nil,st_sl nn,st_agg w0]|refine wki ?_|refine wqn ?_|(refine vp_looseD (id:=9) (l:=[]) (S:=[([0,1,2,3,4,5,6,7,8,9,10,11,12,13,14,15,16],some (17,[0,1,2,3,4,5,6,7,8,9,10,11,12,13,14,15,16])),([],some (18,[])),([],none)]) (by kernel_rfl) (by kernel_rfl) (by kernel_rfl) (by kernel_rfl) ?_)|refine vpl 13 [] [([0,1,2,3,4,5,6,7,8,9,10],some (11,[])),([12],none)] ?_|refine vpl 14 [] [([0,1,2,3,4,5,6,7,8,9,10],some (11,[])),([],none)] ?_|refine vpl 16 [84] [([0,1,2,3,4,5,6,7,8,9,10],some (11,[])),([12],none)] ?_|refine vpl 17 [96] [([0,1,2,3,4,5,6,7,8,9,10],some (11,[])),([],none)] ?_)
    exact⟨s.gen 6,rfl,h84,h96,if_pos rfl,Nat.lt_succ_self _,hS.of rfl (fun _=>rfl) (Nat.le_refl _),hX0.off6 rfl (fun n g' hn=>by simp only[obj_put,obj_set,obj_new,hn,false_and,if_false]) (fun n hn=>by simp only[gen_put,gen_set,gen_new,hn,if_false])⟩
   ·have tN:List.take es.length (namC es)=namC es:=List.take_of_length_le (by omega)
    have tR:List.take es.length (rowL es)=rowL es:=List.take_of_length_le (by omega)
    have hb:(es.length<=274877906944)=True:=eq_true (by omega)
    have w0:sameL (wasC es D) (wasC es D)=true:=by simp[sameL,sameSV,sN,sR]
    unfold wasC at w0
    repeat (first|simp only[go_sem,i0,i3,i4,i5,ho,hNx,hLx,hnl,hll,tN,tR,hb,oN,oR,st_sl sN,st_sl sR,st_agg w0]|simp (disch:=first|exact oa|fail) only[AX,i0,i3,i4,i5,ho,hNx,hLx,hnl,hll,tN,tR,hb,oN,oR,st_sl sN,st_sl sR,st_agg w0]|refine wki ?_|refine wqn ?_|(refine vp_looseD (id:=9) (l:=[]) (S:=[([0,1,2,3,4,5,6,7,8,9,10,11,12,13,14,15,16],some (17,[0,1,2,3,4,5,6,7,8,9,10,11,12,13,14,15,16])),([],some (18,[])),([],none)]) (by kernel_rfl) (by kernel_rfl) (by kernel_rfl) (by kernel_rfl) ?_)|refine vpl 13 [] [([0,1,2,3,4,5,6,7,8,9,10],some (11,[])),([12],none)] ?_|refine vpl 14 [] [([0,1,2,3,4,5,6,7,8,9,10],some (11,[])),([],none)] ?_|refine vpl 16 [84] [([0,1,2,3,4,5,6,7,8,9,10],some (11,[])),([12],none)] ?_|refine vpl 17 [96] [([0,1,2,3,4,5,6,7,8,9,10],some (11,[])),([],none)] ?_)
    exact⟨s.gen 6,rfl,h84,h96,if_pos rfl,Nat.lt_succ_self _,hS.of rfl (fun _=>rfl) (Nat.le_refl _),hX0.off6 rfl (fun n g' hn=>by simp only[obj_put,obj_set,obj_new,hn,false_and,if_false]) (fun n hn=>by simp only[gen_put,gen_set,gen_new,hn,if_false])⟩
  ·clear hS hX i0 i3 i4 i5 h84 h96
   rintro s9 ⟨g6,i0,i3,i4,i5,i6,h84,h96,io,iw,hS,hX⟩
   repeat (first|simp only[go_sem,i0,i3,i4,i5,i6,g1,hal,List.drop_succ_cons,List.drop_zero,List.head?_cons]|simp (disch:=first|exact oa|fail) only[AX,i0,i3,i4,i5,i6,g1,hal,List.drop_succ_cons,List.drop_zero,List.head?_cons]|refine wki ?_|refine wqn ?_|(refine vp_looseD (id:=9) (l:=[]) (S:=[([0,1,2,3,4,5,6,7,8,9,10,11,12,13,14,15,16],some (17,[0,1,2,3,4,5,6,7,8,9,10,11,12,13,14,15,16])),([],some (18,[])),([],none)]) (by kernel_rfl) (by kernel_rfl) (by kernel_rfl) (by kernel_rfl) ?_)|refine vpl 13 [] [([0,1,2,3,4,5,6,7,8,9,10],some (11,[])),([12],none)] ?_|refine vpl 14 [] [([0,1,2,3,4,5,6,7,8,9,10],some (11,[])),([],none)] ?_|refine vpl 16 [84] [([0,1,2,3,4,5,6,7,8,9,10],some (11,[])),([12],none)] ?_|refine vpl 17 [96] [([0,1,2,3,4,5,6,7,8,9,10],some (11,[])),([],none)] ?_)
   refine vc_cut (Mid:=fun s=>s.tmp 0 = .sv (.sl acs.length (actsC acs))/\s.tmp 3 = .ptr 2000010 1 0/\s.tmp 4 = .ptr 2000011 1 0/\s.tmp 5 = .sv (.int .i64 (i:Int))/\s.tmp 6 = .ptr 6 g6 0/\NR (s.tmp 84)/\NR (s.tmp 96)/\s.obj 6 g6=some (wasC es D)/\g6<s.gen 6 /\
     ∃ (e:Int) (es':List Ent) (D':Int),s.tmp 7 = .sv (.int .i64 e)/\(e≠0->es'=es/\D'=D)/\SessR s 2000010 1 es' D'/\SessD s 2000011 1 es' D'/\(Srt es'/\es'.length<=16)/\Good es') ?_ ?_
   ·by_cases k1:a.k=1
    ·have e1:(a.k==1)=true:=by rw[k1];rfl
     repeat (first|simp only[go_sem,e1,i0,i3,i4,i5,i6,g1,hal,List.drop_succ_cons,List.drop_zero,List.head?_cons]|simp (disch:=first|exact oa|fail) only[AX,e1,i0,i3,i4,i5,i6,g1,hal,List.drop_succ_cons,List.drop_zero,List.head?_cons]|refine wki ?_|refine wqn ?_|(refine vp_looseD (id:=9) (l:=[]) (S:=[([0,1,2,3,4,5,6,7,8,9,10,11,12,13,14,15,16],some (17,[0,1,2,3,4,5,6,7,8,9,10,11,12,13,14,15,16])),([],some (18,[])),([],none)]) (by kernel_rfl) (by kernel_rfl) (by kernel_rfl) (by kernel_rfl) ?_)|refine vpl 13 [] [([0,1,2,3,4,5,6,7,8,9,10],some (11,[])),([12],none)] ?_|refine vpl 14 [] [([0,1,2,3,4,5,6,7,8,9,10],some (11,[])),([],none)] ?_|refine vpl 16 [84] [([0,1,2,3,4,5,6,7,8,9,10],some (11,[])),([12],none)] ?_|refine vpl 17 [96] [([0,1,2,3,4,5,6,7,8,9,10],some (11,[])),([],none)] ?_)
     refine sess_Let_is (by omega) (by omega) h16 hp (hS.of rfl (fun _=>rfl) (Nat.le_refl _)) ?_
     intro s1 hk hs1
     have j0:s1.tmp 0 = .sv (.sl acs.length (actsC acs)):=(hk.tmp 0 (by simp only[tmp_put,reduceIte,Nat.reduceEqDiff,i0];rfl)).trans (by simp only[tmp_put,reduceIte,Nat.reduceEqDiff,i0])
     have j3:s1.tmp 3 = .ptr 2000010 1 0:=(hk.tmp 3 (by simp only[tmp_put,reduceIte,Nat.reduceEqDiff,i3];rfl)).trans (by simp only[tmp_put,reduceIte,Nat.reduceEqDiff,i3])
     have j4:s1.tmp 4 = .ptr 2000011 1 0:=(hk.tmp 4 (by simp only[tmp_put,reduceIte,Nat.reduceEqDiff,i4];rfl)).trans (by simp only[tmp_put,reduceIte,Nat.reduceEqDiff,i4])
     have j5:s1.tmp 5 = .sv (.int .i64 (i:Int)):=(hk.tmp 5 (by simp only[tmp_put,reduceIte,Nat.reduceEqDiff,i5];rfl)).trans (by simp only[tmp_put,reduceIte,Nat.reduceEqDiff,i5])
     have j6:s1.tmp 6 = .ptr 6 g6 0:=(hk.tmp 6 (by simp only[tmp_put,reduceIte,Nat.reduceEqDiff,i6];rfl)).trans (by simp only[tmp_put,reduceIte,Nat.reduceEqDiff,i6])
     have j84:NR (s1.tmp 84):=by rw[hk.tmp 84 (by simp only[tmp_put,reduceIte,Nat.reduceEqDiff];exact nr_plT h84)];simp only[tmp_put,reduceIte,Nat.reduceEqDiff];exact h84
     have j96:NR (s1.tmp 96):=by rw[hk.tmp 96 (by simp only[tmp_put,reduceIte,Nat.reduceEqDiff];exact nr_plT h96)];simp only[tmp_put,reduceIte,Nat.reduceEqDiff];exact h96
     have jo:s1.obj 6 g6=some (wasC es D):=(hk.obj 6 g6 rfl iw).trans io
     have jw:g6<s1.gen 6:=Nat.lt_of_lt_of_le iw (hk.gen 6)
     have hx1:SessD s1 2000011 1 es D:=by
      refine SessD.keep ?_ hk.kp (by decide)
      exact hX.same rfl rfl rfl
     clear hk hS hX
     repeat (first|simp only[go_sem,j0,j3,j4,j5,j6,g1,hal,List.drop_succ_cons,List.drop_zero,List.head?_cons]|simp (disch:=first|exact oa|fail) only[AX,j0,j3,j4,j5,j6,g1,hal,List.drop_succ_cons,List.drop_zero,List.head?_cons]|refine wki ?_|refine wqn ?_|(refine vp_looseD (id:=9) (l:=[]) (S:=[([0,1,2,3,4,5,6,7,8,9,10,11,12,13,14,15,16],some (17,[0,1,2,3,4,5,6,7,8,9,10,11,12,13,14,15,16])),([],some (18,[])),([],none)]) (by kernel_rfl) (by kernel_rfl) (by kernel_rfl) (by kernel_rfl) ?_)|refine vpl 13 [] [([0,1,2,3,4,5,6,7,8,9,10],some (11,[])),([12],none)] ?_|refine vpl 14 [] [([0,1,2,3,4,5,6,7,8,9,10],some (11,[])),([],none)] ?_|refine vpl 16 [84] [([0,1,2,3,4,5,6,7,8,9,10],some (11,[])),([12],none)] ?_|refine vpl 17 [96] [([0,1,2,3,4,5,6,7,8,9,10],some (11,[])),([],none)] ?_)
     refine doc_Let_is (by omega) h16 hp (hx1.same rfl rfl rfl) ?_
     intro s2 hk2 hx2
     have m0:s2.tmp 0 = .sv (.sl acs.length (actsC acs)):=(hk2.tmp 0 (by simp only[tmp_put,reduceIte,Nat.reduceEqDiff,j0];rfl)).trans (by simp only[tmp_put,reduceIte,Nat.reduceEqDiff,j0])
     have m3:s2.tmp 3 = .ptr 2000010 1 0:=(hk2.tmp 3 (by simp only[tmp_put,reduceIte,Nat.reduceEqDiff,j3];rfl)).trans (by simp only[tmp_put,reduceIte,Nat.reduceEqDiff,j3])
     have m4:s2.tmp 4 = .ptr 2000011 1 0:=(hk2.tmp 4 (by simp only[tmp_put,reduceIte,Nat.reduceEqDiff,j4];rfl)).trans (by simp only[tmp_put,reduceIte,Nat.reduceEqDiff,j4])
     have m5:s2.tmp 5 = .sv (.int .i64 (i:Int)):=(hk2.tmp 5 (by simp only[tmp_put,reduceIte,Nat.reduceEqDiff,j5];rfl)).trans (by simp only[tmp_put,reduceIte,Nat.reduceEqDiff,j5])
     have m6:s2.tmp 6 = .ptr 6 g6 0:=(hk2.tmp 6 (by simp only[tmp_put,reduceIte,Nat.reduceEqDiff,j6];rfl)).trans (by simp only[tmp_put,reduceIte,Nat.reduceEqDiff,j6])
     have m84:NR (s2.tmp 84):=by rw[hk2.tmp 84 (by simp only[tmp_put,reduceIte,Nat.reduceEqDiff];exact nr_plT j84)];simp only[tmp_put,reduceIte,Nat.reduceEqDiff];exact j84
     have m96:NR (s2.tmp 96):=by rw[hk2.tmp 96 (by simp only[tmp_put,reduceIte,Nat.reduceEqDiff];exact nr_plT j96)];simp only[tmp_put,reduceIte,Nat.reduceEqDiff];exact j96
     have mo:s2.obj 6 g6=some (wasC es D):=(hk2.obj 6 g6 rfl jw).trans jo
     have mw:g6<s2.gen 6:=Nat.lt_of_lt_of_le jw (hk2.gen 6)
     have m7:s2.tmp 7 = .sv (.int .i64 (letP es a.t a.x p).1):=(hk2.tmp 7 rfl).trans rfl
     have hs2:SessR s2 2000010 1 (letP es a.t a.x p).2 D:=by
      refine SessR.keep ?_ hk2.kp (by decide)
      exact hs1.of rfl (fun _=>rfl) (Nat.le_refl _)
     clear hk2
     repeat (first|simp only[go_sem,m0,m3,m4,m5,m6,m7]|simp (disch:=first|exact oa|fail) only[AX,m0,m3,m4,m5,m6,m7]|refine wki ?_|refine wqn ?_|(refine vp_looseD (id:=9) (l:=[]) (S:=[([0,1,2,3,4,5,6,7,8,9,10,11,12,13,14,15,16],some (17,[0,1,2,3,4,5,6,7,8,9,10,11,12,13,14,15,16])),([],some (18,[])),([],none)]) (by kernel_rfl) (by kernel_rfl) (by kernel_rfl) (by kernel_rfl) ?_)|refine vpl 13 [] [([0,1,2,3,4,5,6,7,8,9,10],some (11,[])),([12],none)] ?_|refine vpl 14 [] [([0,1,2,3,4,5,6,7,8,9,10],some (11,[])),([],none)] ?_|refine vpl 16 [84] [([0,1,2,3,4,5,6,7,8,9,10],some (11,[])),([12],none)] ?_|refine vpl 17 [96] [([0,1,2,3,4,5,6,7,8,9,10],some (11,[])),([],none)] ?_)
     exact⟨m84,m96,mo,mw,_,_,_,rfl,(fun h=>⟨err_let h,rfl⟩),hs2.of rfl (fun _=>rfl) (Nat.le_refl _),hx2.same rfl rfl rfl,(letP_ok hs h16 hp),(let_good hG)⟩
    by_cases k2:a.k=2
    ·have e1:(a.k==1)=false:=beq_eq_false_iff_ne.2 k1
     have e2:(a.k==2)=true:=by rw[k2];rfl
     rcases h84 with h84|⟨x84,h84⟩<;>rcases h96 with h96|⟨x96,h96⟩
     all_goals
      repeat (first|simp only[go_sem,e1,e2,i0,i3,i4,i5,i6,g1,hal,List.drop_succ_cons,List.drop_zero,List.head?_cons,h84,h96]|simp (disch:=first|exact oa|fail) only[AX,e1,e2,i0,i3,i4,i5,i6,g1,hal,List.drop_succ_cons,List.drop_zero,List.head?_cons,h84,h96]|refine wki ?_|refine wqn ?_|(refine vp_looseD (id:=9) (l:=[]) (S:=[([0,1,2,3,4,5,6,7,8,9,10,11,12,13,14,15,16],some (17,[0,1,2,3,4,5,6,7,8,9,10,11,12,13,14,15,16])),([],some (18,[])),([],none)]) (by kernel_rfl) (by kernel_rfl) (by kernel_rfl) (by kernel_rfl) ?_)|refine vpl 13 [] [([0,1,2,3,4,5,6,7,8,9,10],some (11,[])),([12],none)] ?_|refine vpl 14 [] [([0,1,2,3,4,5,6,7,8,9,10],some (11,[])),([],none)] ?_|refine vpl 16 [84] [([0,1,2,3,4,5,6,7,8,9,10],some (11,[])),([12],none)] ?_|refine vpl 17 [96] [([0,1,2,3,4,5,6,7,8,9,10],some (11,[])),([],none)] ?_)
      refine sess_Set_is (by omega) h16 hp hc (hS.of rfl (fun _=>rfl) (Nat.le_refl _)) ?_
      intro s1 hk hs1
      have j0:s1.tmp 0 = .sv (.sl acs.length (actsC acs)):=(hk.tmp 0 (by simp only[tmp_put,reduceIte,Nat.reduceEqDiff,i0];rfl)).trans (by simp only[tmp_put,reduceIte,Nat.reduceEqDiff,i0])
      have j3:s1.tmp 3 = .ptr 2000010 1 0:=(hk.tmp 3 (by simp only[tmp_put,reduceIte,Nat.reduceEqDiff,i3];rfl)).trans (by simp only[tmp_put,reduceIte,Nat.reduceEqDiff,i3])
      have j4:s1.tmp 4 = .ptr 2000011 1 0:=(hk.tmp 4 (by simp only[tmp_put,reduceIte,Nat.reduceEqDiff,i4];rfl)).trans (by simp only[tmp_put,reduceIte,Nat.reduceEqDiff,i4])
      have j5:s1.tmp 5 = .sv (.int .i64 (i:Int)):=(hk.tmp 5 (by simp only[tmp_put,reduceIte,Nat.reduceEqDiff,i5];rfl)).trans (by simp only[tmp_put,reduceIte,Nat.reduceEqDiff,i5])
      have j6:s1.tmp 6 = .ptr 6 g6 0:=(hk.tmp 6 (by simp only[tmp_put,reduceIte,Nat.reduceEqDiff,i6];rfl)).trans (by simp only[tmp_put,reduceIte,Nat.reduceEqDiff,i6])
      have j84:s1.tmp 84 = .sv (.sl (a.ps.map InR.q).length (ratsC a.ps)):=(hk.tmp 84 (by simp only[tmp_put,reduceIte,Nat.reduceEqDiff];rfl)).trans (by simp only[tmp_put,reduceIte,Nat.reduceEqDiff])
      have j96:s1.tmp 96=s9.tmp 96:=(hk.tmp 96 (by simp only[tmp_put,reduceIte,Nat.reduceEqDiff,h96];rfl)).trans (by simp only[tmp_put,reduceIte,Nat.reduceEqDiff])
      have jo:s1.obj 6 g6=some (wasC es D):=(hk.obj 6 g6 rfl iw).trans io
      have jw:g6<s1.gen 6:=Nat.lt_of_lt_of_le iw (hk.gen 6)
      have hx1:SessD s1 2000011 1 es D:=by
       refine SessD.keep ?_ hk.kp (by decide)
       exact hX.same rfl rfl rfl
      clear hk hS hX
      repeat (first|simp only[go_sem,j0,j3,j4,j5,j6,g1,hal,List.drop_succ_cons,List.drop_zero,List.head?_cons,j96,h96]|simp (disch:=first|exact oa|fail) only[AX,j0,j3,j4,j5,j6,g1,hal,List.drop_succ_cons,List.drop_zero,List.head?_cons,j96,h96]|refine wki ?_|refine wqn ?_|(refine vp_looseD (id:=9) (l:=[]) (S:=[([0,1,2,3,4,5,6,7,8,9,10,11,12,13,14,15,16],some (17,[0,1,2,3,4,5,6,7,8,9,10,11,12,13,14,15,16])),([],some (18,[])),([],none)]) (by kernel_rfl) (by kernel_rfl) (by kernel_rfl) (by kernel_rfl) ?_)|refine vpl 13 [] [([0,1,2,3,4,5,6,7,8,9,10],some (11,[])),([12],none)] ?_|refine vpl 14 [] [([0,1,2,3,4,5,6,7,8,9,10],some (11,[])),([],none)] ?_|refine vpl 16 [84] [([0,1,2,3,4,5,6,7,8,9,10],some (11,[])),([12],none)] ?_|refine vpl 17 [96] [([0,1,2,3,4,5,6,7,8,9,10],some (11,[])),([],none)] ?_)
      refine doc_Set_is hrow (by omega) (by omega) h16 hp (hx1.same rfl rfl rfl) ?_
      intro s2 hk2 hx2
      have m0:s2.tmp 0 = .sv (.sl acs.length (actsC acs)):=(hk2.tmp 0 (by simp only[tmp_put,reduceIte,Nat.reduceEqDiff,j0];rfl)).trans (by simp only[tmp_put,reduceIte,Nat.reduceEqDiff,j0])
      have m3:s2.tmp 3 = .ptr 2000010 1 0:=(hk2.tmp 3 (by simp only[tmp_put,reduceIte,Nat.reduceEqDiff,j3];rfl)).trans (by simp only[tmp_put,reduceIte,Nat.reduceEqDiff,j3])
      have m4:s2.tmp 4 = .ptr 2000011 1 0:=(hk2.tmp 4 (by simp only[tmp_put,reduceIte,Nat.reduceEqDiff,j4];rfl)).trans (by simp only[tmp_put,reduceIte,Nat.reduceEqDiff,j4])
      have m5:s2.tmp 5 = .sv (.int .i64 (i:Int)):=(hk2.tmp 5 (by simp only[tmp_put,reduceIte,Nat.reduceEqDiff,j5];rfl)).trans (by simp only[tmp_put,reduceIte,Nat.reduceEqDiff,j5])
      have m6:s2.tmp 6 = .ptr 6 g6 0:=(hk2.tmp 6 (by simp only[tmp_put,reduceIte,Nat.reduceEqDiff,j6];rfl)).trans (by simp only[tmp_put,reduceIte,Nat.reduceEqDiff,j6])
      have m84:s2.tmp 84 = .sv (.sl (a.ps.map InR.q).length (ratsC a.ps)):=(hk2.tmp 84 (by simp only[tmp_put,reduceIte,Nat.reduceEqDiff,j84];rfl)).trans (by simp only[tmp_put,reduceIte,Nat.reduceEqDiff,j84])
      have m96:s2.tmp 96 = .sv (.sl (a.ps.map InR.q).length (ratsC a.ps)):=(hk2.tmp 96 (by simp only[tmp_put,reduceIte,Nat.reduceEqDiff];rfl)).trans (by simp only[tmp_put,reduceIte,Nat.reduceEqDiff])
      have mo:s2.obj 6 g6=some (wasC es D):=(hk2.obj 6 g6 rfl jw).trans jo
      have mw:g6<s2.gen 6:=Nat.lt_of_lt_of_le jw (hk2.gen 6)
      have m7:s2.tmp 7 = .sv (.int .i64 (setP es a.t p (a.ps.map InR.q).length (rvsC (a.ps.map InR.q))).1):=(hk2.tmp 7 rfl).trans rfl
      have hs2:SessR s2 2000010 1 (setP es a.t p (a.ps.map InR.q).length (rvsC (a.ps.map InR.q))).2 D:=by
       refine SessR.keep ?_ hk2.kp (by decide)
       exact hs1.of rfl (fun _=>rfl) (Nat.le_refl _)
      clear hk2
      repeat (first|simp only[go_sem,m0,m3,m4,m5,m6,m7]|simp (disch:=first|exact oa|fail) only[AX,m0,m3,m4,m5,m6,m7]|refine wki ?_|refine wqn ?_|(refine vp_looseD (id:=9) (l:=[]) (S:=[([0,1,2,3,4,5,6,7,8,9,10,11,12,13,14,15,16],some (17,[0,1,2,3,4,5,6,7,8,9,10,11,12,13,14,15,16])),([],some (18,[])),([],none)]) (by kernel_rfl) (by kernel_rfl) (by kernel_rfl) (by kernel_rfl) ?_)|refine vpl 13 [] [([0,1,2,3,4,5,6,7,8,9,10],some (11,[])),([12],none)] ?_|refine vpl 14 [] [([0,1,2,3,4,5,6,7,8,9,10],some (11,[])),([],none)] ?_|refine vpl 16 [84] [([0,1,2,3,4,5,6,7,8,9,10],some (11,[])),([12],none)] ?_|refine vpl 17 [96] [([0,1,2,3,4,5,6,7,8,9,10],some (11,[])),([],none)] ?_)
      exact⟨(.inr ⟨_,m84⟩),(.inr ⟨_,m96⟩),mo,mw,_,_,_,rfl,(fun h=>⟨err_set h,rfl⟩),hs2.of rfl (fun _=>rfl) (Nat.le_refl _),hx2.same rfl rfl rfl,(setP_ok hs h16 hp),(set_good hG hz)⟩
    by_cases k3:a.k=3
    ·have e1:(a.k==1)=false:=beq_eq_false_iff_ne.2 k1
     have e2:(a.k==2)=false:=beq_eq_false_iff_ne.2 k2
     have e3:(a.k==3)=true:=by rw[k3];rfl
     repeat (first|simp only[go_sem,e1,e2,e3,i0,i3,i4,i5,i6,g1,hal,List.drop_succ_cons,List.drop_zero,List.head?_cons]|simp (disch:=first|exact oa|fail) only[AX,e1,e2,e3,i0,i3,i4,i5,i6,g1,hal,List.drop_succ_cons,List.drop_zero,List.head?_cons]|refine wki ?_|refine wqn ?_|(refine vp_looseD (id:=9) (l:=[]) (S:=[([0,1,2,3,4,5,6,7,8,9,10,11,12,13,14,15,16],some (17,[0,1,2,3,4,5,6,7,8,9,10,11,12,13,14,15,16])),([],some (18,[])),([],none)]) (by kernel_rfl) (by kernel_rfl) (by kernel_rfl) (by kernel_rfl) ?_)|refine vpl 13 [] [([0,1,2,3,4,5,6,7,8,9,10],some (11,[])),([12],none)] ?_|refine vpl 14 [] [([0,1,2,3,4,5,6,7,8,9,10],some (11,[])),([],none)] ?_|refine vpl 16 [84] [([0,1,2,3,4,5,6,7,8,9,10],some (11,[])),([12],none)] ?_|refine vpl 17 [96] [([0,1,2,3,4,5,6,7,8,9,10],some (11,[])),([],none)] ?_)
     refine sess_Drop_is h16 hp (hS.of rfl (fun _=>rfl) (Nat.le_refl _)) ?_
     intro s1 hk hs1
     have j0:s1.tmp 0 = .sv (.sl acs.length (actsC acs)):=(hk.tmp 0 (by simp only[tmp_put,reduceIte,Nat.reduceEqDiff,i0];rfl)).trans (by simp only[tmp_put,reduceIte,Nat.reduceEqDiff,i0])
     have j3:s1.tmp 3 = .ptr 2000010 1 0:=(hk.tmp 3 (by simp only[tmp_put,reduceIte,Nat.reduceEqDiff,i3];rfl)).trans (by simp only[tmp_put,reduceIte,Nat.reduceEqDiff,i3])
     have j4:s1.tmp 4 = .ptr 2000011 1 0:=(hk.tmp 4 (by simp only[tmp_put,reduceIte,Nat.reduceEqDiff,i4];rfl)).trans (by simp only[tmp_put,reduceIte,Nat.reduceEqDiff,i4])
     have j5:s1.tmp 5 = .sv (.int .i64 (i:Int)):=(hk.tmp 5 (by simp only[tmp_put,reduceIte,Nat.reduceEqDiff,i5];rfl)).trans (by simp only[tmp_put,reduceIte,Nat.reduceEqDiff,i5])
     have j6:s1.tmp 6 = .ptr 6 g6 0:=(hk.tmp 6 (by simp only[tmp_put,reduceIte,Nat.reduceEqDiff,i6];rfl)).trans (by simp only[tmp_put,reduceIte,Nat.reduceEqDiff,i6])
     have j84:NR (s1.tmp 84):=by rw[hk.tmp 84 (by simp only[tmp_put,reduceIte,Nat.reduceEqDiff];exact nr_plT h84)];simp only[tmp_put,reduceIte,Nat.reduceEqDiff];exact h84
     have j96:NR (s1.tmp 96):=by rw[hk.tmp 96 (by simp only[tmp_put,reduceIte,Nat.reduceEqDiff];exact nr_plT h96)];simp only[tmp_put,reduceIte,Nat.reduceEqDiff];exact h96
     have jo:s1.obj 6 g6=some (wasC es D):=(hk.obj 6 g6 rfl iw).trans io
     have jw:g6<s1.gen 6:=Nat.lt_of_lt_of_le iw (hk.gen 6)
     have hx1:SessD s1 2000011 1 es D:=by
      refine SessD.keep ?_ hk.kp (by decide)
      exact hX.same rfl rfl rfl
     clear hk hS hX
     repeat (first|simp only[go_sem,j0,j3,j4,j5,j6,g1,hal,List.drop_succ_cons,List.drop_zero,List.head?_cons]|simp (disch:=first|exact oa|fail) only[AX,j0,j3,j4,j5,j6,g1,hal,List.drop_succ_cons,List.drop_zero,List.head?_cons]|refine wki ?_|refine wqn ?_|(refine vp_looseD (id:=9) (l:=[]) (S:=[([0,1,2,3,4,5,6,7,8,9,10,11,12,13,14,15,16],some (17,[0,1,2,3,4,5,6,7,8,9,10,11,12,13,14,15,16])),([],some (18,[])),([],none)]) (by kernel_rfl) (by kernel_rfl) (by kernel_rfl) (by kernel_rfl) ?_)|refine vpl 13 [] [([0,1,2,3,4,5,6,7,8,9,10],some (11,[])),([12],none)] ?_|refine vpl 14 [] [([0,1,2,3,4,5,6,7,8,9,10],some (11,[])),([],none)] ?_|refine vpl 16 [84] [([0,1,2,3,4,5,6,7,8,9,10],some (11,[])),([12],none)] ?_|refine vpl 17 [96] [([0,1,2,3,4,5,6,7,8,9,10],some (11,[])),([],none)] ?_)
     refine doc_Drop_is h16 hp (hx1.same rfl rfl rfl) ?_
     intro s2 hk2 hx2
     have m0:s2.tmp 0 = .sv (.sl acs.length (actsC acs)):=(hk2.tmp 0 (by simp only[tmp_put,reduceIte,Nat.reduceEqDiff,j0];rfl)).trans (by simp only[tmp_put,reduceIte,Nat.reduceEqDiff,j0])
     have m3:s2.tmp 3 = .ptr 2000010 1 0:=(hk2.tmp 3 (by simp only[tmp_put,reduceIte,Nat.reduceEqDiff,j3];rfl)).trans (by simp only[tmp_put,reduceIte,Nat.reduceEqDiff,j3])
     have m4:s2.tmp 4 = .ptr 2000011 1 0:=(hk2.tmp 4 (by simp only[tmp_put,reduceIte,Nat.reduceEqDiff,j4];rfl)).trans (by simp only[tmp_put,reduceIte,Nat.reduceEqDiff,j4])
     have m5:s2.tmp 5 = .sv (.int .i64 (i:Int)):=(hk2.tmp 5 (by simp only[tmp_put,reduceIte,Nat.reduceEqDiff,j5];rfl)).trans (by simp only[tmp_put,reduceIte,Nat.reduceEqDiff,j5])
     have m6:s2.tmp 6 = .ptr 6 g6 0:=(hk2.tmp 6 (by simp only[tmp_put,reduceIte,Nat.reduceEqDiff,j6];rfl)).trans (by simp only[tmp_put,reduceIte,Nat.reduceEqDiff,j6])
     have m84:NR (s2.tmp 84):=by rw[hk2.tmp 84 (by simp only[tmp_put,reduceIte,Nat.reduceEqDiff];exact nr_plT j84)];simp only[tmp_put,reduceIte,Nat.reduceEqDiff];exact j84
     have m96:NR (s2.tmp 96):=by rw[hk2.tmp 96 (by simp only[tmp_put,reduceIte,Nat.reduceEqDiff];exact nr_plT j96)];simp only[tmp_put,reduceIte,Nat.reduceEqDiff];exact j96
     have mo:s2.obj 6 g6=some (wasC es D):=(hk2.obj 6 g6 rfl jw).trans jo
     have mw:g6<s2.gen 6:=Nat.lt_of_lt_of_le jw (hk2.gen 6)
     have m7:s2.tmp 7 = .sv (.int .i64 (dropP es a.t p).1):=(hk2.tmp 7 rfl).trans rfl
     have hs2:SessR s2 2000010 1 (dropP es a.t p).2 D:=by
      refine SessR.keep ?_ hk2.kp (by decide)
      exact hs1.of rfl (fun _=>rfl) (Nat.le_refl _)
     clear hk2
     repeat (first|simp only[go_sem,m0,m3,m4,m5,m6,m7]|simp (disch:=first|exact oa|fail) only[AX,m0,m3,m4,m5,m6,m7]|refine wki ?_|refine wqn ?_|(refine vp_looseD (id:=9) (l:=[]) (S:=[([0,1,2,3,4,5,6,7,8,9,10,11,12,13,14,15,16],some (17,[0,1,2,3,4,5,6,7,8,9,10,11,12,13,14,15,16])),([],some (18,[])),([],none)]) (by kernel_rfl) (by kernel_rfl) (by kernel_rfl) (by kernel_rfl) ?_)|refine vpl 13 [] [([0,1,2,3,4,5,6,7,8,9,10],some (11,[])),([12],none)] ?_|refine vpl 14 [] [([0,1,2,3,4,5,6,7,8,9,10],some (11,[])),([],none)] ?_|refine vpl 16 [84] [([0,1,2,3,4,5,6,7,8,9,10],some (11,[])),([12],none)] ?_|refine vpl 17 [96] [([0,1,2,3,4,5,6,7,8,9,10],some (11,[])),([],none)] ?_)
     exact⟨m84,m96,mo,mw,_,_,_,rfl,(fun h=>⟨err_drop h,rfl⟩),hs2.of rfl (fun _=>rfl) (Nat.le_refl _),hx2.same rfl rfl rfl,(dropP_ok hs h16),(drop_good hG)⟩
    by_cases k5:a.k=5
    ·have e1:(a.k==1)=false:=beq_eq_false_iff_ne.2 k1
     have e2:(a.k==2)=false:=beq_eq_false_iff_ne.2 k2
     have e3:(a.k==3)=false:=beq_eq_false_iff_ne.2 k3
     have e5:(a.k==5)=true:=by rw[k5];rfl
     repeat (first|simp only[go_sem,e1,e2,e3,e5,i0,i3,i4,i5,i6,g1,hal,List.drop_succ_cons,List.drop_zero,List.head?_cons]|simp (disch:=first|exact oa|fail) only[AX,e1,e2,e3,e5,i0,i3,i4,i5,i6,g1,hal,List.drop_succ_cons,List.drop_zero,List.head?_cons]|refine wki ?_|refine wqn ?_|(refine vp_looseD (id:=9) (l:=[]) (S:=[([0,1,2,3,4,5,6,7,8,9,10,11,12,13,14,15,16],some (17,[0,1,2,3,4,5,6,7,8,9,10,11,12,13,14,15,16])),([],some (18,[])),([],none)]) (by kernel_rfl) (by kernel_rfl) (by kernel_rfl) (by kernel_rfl) ?_)|refine vpl 13 [] [([0,1,2,3,4,5,6,7,8,9,10],some (11,[])),([12],none)] ?_|refine vpl 14 [] [([0,1,2,3,4,5,6,7,8,9,10],some (11,[])),([],none)] ?_|refine vpl 16 [84] [([0,1,2,3,4,5,6,7,8,9,10],some (11,[])),([12],none)] ?_|refine vpl 17 [96] [([0,1,2,3,4,5,6,7,8,9,10],some (11,[])),([],none)] ?_)
     refine sess_SetDigits a.n (hS.of rfl (fun _=>rfl) (Nat.le_refl _)) ?_
     intro s1 hk hs1
     have j0:s1.tmp 0 = .sv (.sl acs.length (actsC acs)):=(hk.tmp 0 (by simp only[tmp_put,reduceIte,Nat.reduceEqDiff,i0];rfl)).trans (by simp only[tmp_put,reduceIte,Nat.reduceEqDiff,i0])
     have j3:s1.tmp 3 = .ptr 2000010 1 0:=(hk.tmp 3 (by simp only[tmp_put,reduceIte,Nat.reduceEqDiff,i3];rfl)).trans (by simp only[tmp_put,reduceIte,Nat.reduceEqDiff,i3])
     have j4:s1.tmp 4 = .ptr 2000011 1 0:=(hk.tmp 4 (by simp only[tmp_put,reduceIte,Nat.reduceEqDiff,i4];rfl)).trans (by simp only[tmp_put,reduceIte,Nat.reduceEqDiff,i4])
     have j5:s1.tmp 5 = .sv (.int .i64 (i:Int)):=(hk.tmp 5 (by simp only[tmp_put,reduceIte,Nat.reduceEqDiff,i5];rfl)).trans (by simp only[tmp_put,reduceIte,Nat.reduceEqDiff,i5])
     have j6:s1.tmp 6 = .ptr 6 g6 0:=(hk.tmp 6 (by simp only[tmp_put,reduceIte,Nat.reduceEqDiff,i6];rfl)).trans (by simp only[tmp_put,reduceIte,Nat.reduceEqDiff,i6])
     have j84:NR (s1.tmp 84):=by rw[hk.tmp 84 (by simp only[tmp_put,reduceIte,Nat.reduceEqDiff];exact nr_plT h84)];simp only[tmp_put,reduceIte,Nat.reduceEqDiff];exact h84
     have j96:NR (s1.tmp 96):=by rw[hk.tmp 96 (by simp only[tmp_put,reduceIte,Nat.reduceEqDiff];exact nr_plT h96)];simp only[tmp_put,reduceIte,Nat.reduceEqDiff];exact h96
     have jo:s1.obj 6 g6=some (wasC es D):=(hk.obj 6 g6 rfl iw).trans io
     have jw:g6<s1.gen 6:=Nat.lt_of_lt_of_le iw (hk.gen 6)
     have hx1:SessD s1 2000011 1 es D:=by
      refine SessD.keep ?_ hk.kp (by decide)
      exact hX.same rfl rfl rfl
     clear hk hS hX
     repeat (first|simp only[go_sem,j0,j3,j4,j5,j6,g1,hal,List.drop_succ_cons,List.drop_zero,List.head?_cons]|simp (disch:=first|exact oa|fail) only[AX,j0,j3,j4,j5,j6,g1,hal,List.drop_succ_cons,List.drop_zero,List.head?_cons]|refine wki ?_|refine wqn ?_|(refine vp_looseD (id:=9) (l:=[]) (S:=[([0,1,2,3,4,5,6,7,8,9,10,11,12,13,14,15,16],some (17,[0,1,2,3,4,5,6,7,8,9,10,11,12,13,14,15,16])),([],some (18,[])),([],none)]) (by kernel_rfl) (by kernel_rfl) (by kernel_rfl) (by kernel_rfl) ?_)|refine vpl 13 [] [([0,1,2,3,4,5,6,7,8,9,10],some (11,[])),([12],none)] ?_|refine vpl 14 [] [([0,1,2,3,4,5,6,7,8,9,10],some (11,[])),([],none)] ?_|refine vpl 16 [84] [([0,1,2,3,4,5,6,7,8,9,10],some (11,[])),([12],none)] ?_|refine vpl 17 [96] [([0,1,2,3,4,5,6,7,8,9,10],some (11,[])),([],none)] ?_)
     refine doc_SetDigits a.n (hx1.same rfl rfl rfl) ?_
     intro s2 hk2 hx2
     have m0:s2.tmp 0 = .sv (.sl acs.length (actsC acs)):=(hk2.tmp 0 (by simp only[tmp_put,reduceIte,Nat.reduceEqDiff,j0];rfl)).trans (by simp only[tmp_put,reduceIte,Nat.reduceEqDiff,j0])
     have m3:s2.tmp 3 = .ptr 2000010 1 0:=(hk2.tmp 3 (by simp only[tmp_put,reduceIte,Nat.reduceEqDiff,j3];rfl)).trans (by simp only[tmp_put,reduceIte,Nat.reduceEqDiff,j3])
     have m4:s2.tmp 4 = .ptr 2000011 1 0:=(hk2.tmp 4 (by simp only[tmp_put,reduceIte,Nat.reduceEqDiff,j4];rfl)).trans (by simp only[tmp_put,reduceIte,Nat.reduceEqDiff,j4])
     have m5:s2.tmp 5 = .sv (.int .i64 (i:Int)):=(hk2.tmp 5 (by simp only[tmp_put,reduceIte,Nat.reduceEqDiff,j5];rfl)).trans (by simp only[tmp_put,reduceIte,Nat.reduceEqDiff,j5])
     have m6:s2.tmp 6 = .ptr 6 g6 0:=(hk2.tmp 6 (by simp only[tmp_put,reduceIte,Nat.reduceEqDiff,j6];rfl)).trans (by simp only[tmp_put,reduceIte,Nat.reduceEqDiff,j6])
     have m84:NR (s2.tmp 84):=by rw[hk2.tmp 84 (by simp only[tmp_put,reduceIte,Nat.reduceEqDiff];exact nr_plT j84)];simp only[tmp_put,reduceIte,Nat.reduceEqDiff];exact j84
     have m96:NR (s2.tmp 96):=by rw[hk2.tmp 96 (by simp only[tmp_put,reduceIte,Nat.reduceEqDiff];exact nr_plT j96)];simp only[tmp_put,reduceIte,Nat.reduceEqDiff];exact j96
     have mo:s2.obj 6 g6=some (wasC es D):=(hk2.obj 6 g6 rfl jw).trans jo
     have mw:g6<s2.gen 6:=Nat.lt_of_lt_of_le jw (hk2.gen 6)
     have m7:s2.tmp 7 = .sv (.int .i64 (if digOk a.n=true then 0 else 1)):=(hk2.tmp 7 rfl).trans rfl
     have hs2:SessR s2 2000010 1 es (if digOk a.n=true then a.n else D):=by
      refine SessR.keep ?_ hk2.kp (by decide)
      exact hs1.of rfl (fun _=>rfl) (Nat.le_refl _)
     clear hk2
     repeat (first|simp only[go_sem,m0,m3,m4,m5,m6,m7]|simp (disch:=first|exact oa|fail) only[AX,m0,m3,m4,m5,m6,m7]|refine wki ?_|refine wqn ?_|(refine vp_looseD (id:=9) (l:=[]) (S:=[([0,1,2,3,4,5,6,7,8,9,10,11,12,13,14,15,16],some (17,[0,1,2,3,4,5,6,7,8,9,10,11,12,13,14,15,16])),([],some (18,[])),([],none)]) (by kernel_rfl) (by kernel_rfl) (by kernel_rfl) (by kernel_rfl) ?_)|refine vpl 13 [] [([0,1,2,3,4,5,6,7,8,9,10],some (11,[])),([12],none)] ?_|refine vpl 14 [] [([0,1,2,3,4,5,6,7,8,9,10],some (11,[])),([],none)] ?_|refine vpl 16 [84] [([0,1,2,3,4,5,6,7,8,9,10],some (11,[])),([12],none)] ?_|refine vpl 17 [96] [([0,1,2,3,4,5,6,7,8,9,10],some (11,[])),([],none)] ?_)
     exact⟨m84,m96,mo,mw,_,_,_,rfl,(fun h=>⟨rfl,by cases hd:digOk a.n with|true=>rw[hd]at h;exact absurd rfl h|false=>rfl⟩),hs2.of rfl (fun _=>rfl) (Nat.le_refl _),hx2.same rfl rfl rfl,⟨hs,h16⟩,hG⟩
    ·have e1:(a.k==1)=false:=beq_eq_false_iff_ne.2 k1
     have e2:(a.k==2)=false:=beq_eq_false_iff_ne.2 k2
     have e3:(a.k==3)=false:=beq_eq_false_iff_ne.2 k3
     have e5:(a.k==5)=false:=beq_eq_false_iff_ne.2 k5
     repeat (first|simp only[go_sem,e1,e2,e3,e5,i0,i3,i4,i5,i6]|simp (disch:=first|exact oa|fail) only[AX,e1,e2,e3,e5,i0,i3,i4,i5,i6]|refine wki ?_|refine wqn ?_|(refine vp_looseD (id:=9) (l:=[]) (S:=[([0,1,2,3,4,5,6,7,8,9,10,11,12,13,14,15,16],some (17,[0,1,2,3,4,5,6,7,8,9,10,11,12,13,14,15,16])),([],some (18,[])),([],none)]) (by kernel_rfl) (by kernel_rfl) (by kernel_rfl) (by kernel_rfl) ?_)|refine vpl 13 [] [([0,1,2,3,4,5,6,7,8,9,10],some (11,[])),([12],none)] ?_|refine vpl 14 [] [([0,1,2,3,4,5,6,7,8,9,10],some (11,[])),([],none)] ?_|refine vpl 16 [84] [([0,1,2,3,4,5,6,7,8,9,10],some (11,[])),([12],none)] ?_|refine vpl 17 [96] [([0,1,2,3,4,5,6,7,8,9,10],some (11,[])),([],none)] ?_)
     exact⟨h84,h96,io,iw,0,es,D,rfl,fun h=>absurd rfl h,hS.of rfl (fun _=>rfl) (Nat.le_refl _),hX.same rfl rfl rfl,⟨hs,h16⟩,hG⟩
   ·clear hS hX i0 i3 i4 i5 i6 h84 h96 io iw
    rintro s1 ⟨i0,i3,i4,i5,i6,h84,h96,io,iw,e,es1,D1,i7,hE,hS,hX,⟨hs1,h161⟩,hG1⟩
    by_cases he:e=0
    ·subst he
     repeat (first|simp only[go_sem,i0,i3,i4,i5,i6,i7]|simp (disch:=first|exact oa|fail) only[AX,i0,i3,i4,i5,i6,i7]|refine wki ?_|refine wqn ?_|(refine vp_looseD (id:=9) (l:=[]) (S:=[([0,1,2,3,4,5,6,7,8,9,10,11,12,13,14,15,16],some (17,[0,1,2,3,4,5,6,7,8,9,10,11,12,13,14,15,16])),([],some (18,[])),([],none)]) (by kernel_rfl) (by kernel_rfl) (by kernel_rfl) (by kernel_rfl) ?_)|refine vpl 13 [] [([0,1,2,3,4,5,6,7,8,9,10],some (11,[])),([12],none)] ?_|refine vpl 14 [] [([0,1,2,3,4,5,6,7,8,9,10],some (11,[])),([],none)] ?_|refine vpl 16 [84] [([0,1,2,3,4,5,6,7,8,9,10],some (11,[])),([12],none)] ?_|refine vpl 17 [96] [([0,1,2,3,4,5,6,7,8,9,10],some (11,[])),([],none)] ?_)
     exact⟨⟨h84,h96,i+1,rfl,by omega,by omega,es1,D1,hS.of rfl (fun _=>rfl) (Nat.le_refl _),hX.same rfl rfl rfl,hs1,h161,hG1⟩,by omega⟩
    ·obtain⟨w1,w2⟩:=hE he
     rw[w1,w2]at hS hX
     have eb:(e==0)=false:=beq_eq_false_iff_ne.2 he
     repeat (first|simp only[go_sem,i0,i3,i4,i5,i6,i7,eb,Bool.not_false]|simp (disch:=first|exact oa|fail) only[AX,i0,i3,i4,i5,i6,i7,eb,Bool.not_false]|refine wki ?_|refine wqn ?_|(refine vp_looseD (id:=9) (l:=[]) (S:=[([0,1,2,3,4,5,6,7,8,9,10,11,12,13,14,15,16],some (17,[0,1,2,3,4,5,6,7,8,9,10,11,12,13,14,15,16])),([],some (18,[])),([],none)]) (by kernel_rfl) (by kernel_rfl) (by kernel_rfl) (by kernel_rfl) ?_)|refine vpl 13 [] [([0,1,2,3,4,5,6,7,8,9,10],some (11,[])),([12],none)] ?_|refine vpl 14 [] [([0,1,2,3,4,5,6,7,8,9,10],some (11,[])),([],none)] ?_|refine vpl 16 [84] [([0,1,2,3,4,5,6,7,8,9,10],some (11,[])),([12],none)] ?_|refine vpl 17 [96] [([0,1,2,3,4,5,6,7,8,9,10],some (11,[])),([],none)] ?_)
     refine alike_was hG h16 hs (hS.of rfl (fun _=>rfl) (Nat.le_refl _)) io iw ?_
     intro s2 hk hS2
     have hX2:SessD s2 2000011 1 es D:=by
      refine SessD.keep ?_ hk.kp (by decide)
      exact hX.same rfl rfl rfl
     have m0:s2.tmp 0 = .sv (.sl acs.length (actsC acs)):=(hk.tmp 0 (by simp only[tmp_put,reduceIte,Nat.reduceEqDiff,i0];rfl)).trans (by simp only[tmp_put,reduceIte,Nat.reduceEqDiff,i0])
     have m3:s2.tmp 3 = .ptr 2000010 1 0:=(hk.tmp 3 (by simp only[tmp_put,reduceIte,Nat.reduceEqDiff,i3];rfl)).trans (by simp only[tmp_put,reduceIte,Nat.reduceEqDiff,i3])
     have m4:s2.tmp 4 = .ptr 2000011 1 0:=(hk.tmp 4 (by simp only[tmp_put,reduceIte,Nat.reduceEqDiff,i4];rfl)).trans (by simp only[tmp_put,reduceIte,Nat.reduceEqDiff,i4])
     have m5:s2.tmp 5 = .sv (.int .i64 (i:Int)):=(hk.tmp 5 (by simp only[tmp_put,reduceIte,Nat.reduceEqDiff,i5];rfl)).trans (by simp only[tmp_put,reduceIte,Nat.reduceEqDiff,i5])
     have m84:NR (s2.tmp 84):=by rw[hk.tmp 84 (by simp only[tmp_put,reduceIte,Nat.reduceEqDiff];exact nr_plT h84)];simp only[tmp_put,reduceIte,Nat.reduceEqDiff];exact h84
     have m96:NR (s2.tmp 96):=by rw[hk.tmp 96 (by simp only[tmp_put,reduceIte,Nat.reduceEqDiff];exact nr_plT h96)];simp only[tmp_put,reduceIte,Nat.reduceEqDiff];exact h96
     have m132:s2.tmp 132 = .sv (.bool true):=(hk.tmp 132 rfl).trans rfl
     clear hk hS hX
     repeat (first|simp only[go_sem,m0,m3,m4,m5,m132,Bool.not_true]|simp (disch:=first|exact oa|fail) only[AX,m0,m3,m4,m5,m132,Bool.not_true]|refine wki ?_|refine wqn ?_|(refine vp_looseD (id:=9) (l:=[]) (S:=[([0,1,2,3,4,5,6,7,8,9,10,11,12,13,14,15,16],some (17,[0,1,2,3,4,5,6,7,8,9,10,11,12,13,14,15,16])),([],some (18,[])),([],none)]) (by kernel_rfl) (by kernel_rfl) (by kernel_rfl) (by kernel_rfl) ?_)|refine vpl 13 [] [([0,1,2,3,4,5,6,7,8,9,10],some (11,[])),([12],none)] ?_|refine vpl 14 [] [([0,1,2,3,4,5,6,7,8,9,10],some (11,[])),([],none)] ?_|refine vpl 16 [84] [([0,1,2,3,4,5,6,7,8,9,10],some (11,[])),([12],none)] ?_|refine vpl 17 [96] [([0,1,2,3,4,5,6,7,8,9,10],some (11,[])),([],none)] ?_)
     exact⟨⟨m84,m96,i+1,rfl,by omega,by omega,es,D,hS2.of rfl (fun _=>rfl) (Nat.le_refl _),hX2.same rfl rfl rfl,hs,h16,hG⟩,by omega⟩
end Go.Proofs.YtjphnjffglapgaaGreatDoor
