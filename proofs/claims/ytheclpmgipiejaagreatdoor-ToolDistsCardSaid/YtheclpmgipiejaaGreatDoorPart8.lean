/- Part 8 of the proof: the evaluator, contracts of functions and their plain laws (joined by program). No condition. -/
import Derived.Test.YtheclpmgipiejaaGreatDoorPart7
set_option linter.unusedVariables false
set_option linter.unusedSimpArgs false
set_option maxRecDepth 100000
namespace Go.Proofs.YtheclpmgipiejaaGreatDoor
open Go.Ev
def ngB (b:UInt8):Bool := !gapB b
theorem toks_skip (r:List UInt8):toks [] r=toks [] (r.dropWhile gapB):=by
 induction r with
 |nil=>rfl
 |cons b r ih=>
  rw[List.dropWhile_cons]
  cases h:gapB b with
  |true=>
   rw[toks,h]
   simpa using ih
  |false=>rfl
theorem toks_cut {b:UInt8} {r:List UInt8} (hb:gapB b=false):toks [] (b::r)=(b::r).takeWhile ngB::toks [] ((b::r).dropWhile ngB):=by
 have key : ∀ (r cur:List UInt8),cur≠[]->toks cur r=(cur.reverse++r.takeWhile ngB)::toks [] (r.dropWhile ngB):=by
  intro r
  induction r with
  |nil=>intro cur hc;simp[toks,hc]
  |cons x r ih=>
   intro cur hc
   rw[toks,List.takeWhile_cons,List.dropWhile_cons]
   unfold ngB
   cases hx:gapB x with
   |true=>
    simp only[if_true,Bool.not_true,Bool.false_eq_true,if_false,List.append_nil]
    rw[if_neg hc,toks,hx]
    simp
   |false=>
    simp only[Bool.false_eq_true,if_false,Bool.not_false,if_true]
    rw[ih (x::cur) (by simp)]
    unfold ngB
    simp
 rw[toks,hb]
 simp only[Bool.false_eq_true,if_false]
 rw[key r [b] (by simp),List.takeWhile_cons,List.dropWhile_cons]
 unfold ngB
 simp[hb]
def runA (qs:List Rat) (ts:List (List UInt8)):Nat×List Rat:=match runP ts with
 |(0,l)=>(0,qs++l)
 |(e,_)=>(e,[])
theorem runA_nil (qs:List Rat):runA qs []=(0,qs):=by simp[runA,runP]
theorem runA_cons_ok {qs:List Rat} {t:List UInt8} {r:List (List UInt8)} (h:(numP t).1=0):runA qs (t::r)=runA (qs++[(numP t).2]) r:=by
 unfold runA
 rw[runP]
 cases hq:numP t with
 |mk e q=>
  rw[hq]at h
  cases h
  dsimp only
  cases runP r with
  |mk e2 l=>
   cases e2 with
   |zero=>simp
   |succ n=>rfl
theorem runA_cons_bad {qs:List Rat} {t:List UInt8} {r:List (List UInt8)} (h:(numP t).1≠0):runA qs (t::r)=((numP t).1,[]):=by
 unfold runA
 rw[runP]
 cases hq:numP t with
 |mk e q=>
  rw[hq]at h
  cases e with
  |zero=>exact absurd rfl h
  |succ n=>rfl
def finP (r:Nat×List Rat):Nat×List Rat:=match r with
 |(0,x)=>if 256<x.length then (3,[]) else (0,x)
 |(e,_)=>(e,[])
theorem parse_runA (l:List UInt8):parseP l=finP (runA [] (toks [] (plainL false l))):=by
 unfold parseP runA finP
 cases runP (toks [] (plainL false l)) with
 |mk e x=>cases e<;>rfl
theorem runP_sz : ∀ {ts:List (List UInt8)},∀q∈(runP ts).2,szR q 500:=by
 intro ts
 induction ts with
 |nil=>intro q hq;simp[runP]at hq
 |cons t r ih=>
  intro q hq
  unfold runP at hq
  split at hq
  ·rename_i q0 hq0
   split at hq
   ·rename_i l0 hl0
    rcases List.mem_cons.1 hq with h|h
    ·subst h
     have ht : ¬60<t.length:=fun h60=>by
      have:numP t=(3,0):=by unfold numP;rw[if_pos h60]
      rw[this]at hq0
      cases hq0
     obtain⟨v,_,_,h⟩:=data_Number t (by omega)
     rw[hq0]at h
     exact(h rfl).2
    ·rw[hl0]at ih
     exact ih q h
   ·simp at hq
  ·simp at hq
theorem parse_sz {l:List UInt8} : ∀q∈(parseP l).2,szR q 500:=by
 intro q hq
 unfold parseP at hq
 split at hq
 ·rename_i x hx
  split at hq
  ·simp at hq
  ·have:=runP_sz (ts:=toks [] (plainL false l)) q
   rw[hx]at this
   exact this hq
 ·simp at hq
theorem gap_index (b:UInt8) : ∃z:Int,Lib.indexByte [32,44,10] b=z /\ -1<=z/\z<3/\(gapB b=true->0<=z)/\(gapB b=false->z<0):=by
 refine⟨_,rfl,?_⟩
 have key : ∀n:Nat,n<256->(-1<=Lib.indexByte [32,44,10] (UInt8.ofNat n)/\Lib.indexByte [32,44,10] (UInt8.ofNat n)<3/\(gapB (UInt8.ofNat n)=true->0<=Lib.indexByte [32,44,10] (UInt8.ofNat n))/\(gapB (UInt8.ofNat n)=false->Lib.indexByte [32,44,10] (UInt8.ofNat n)<0)):=by decide
 have:=key b.toNat b.toNat_lt
 rwa [UInt8.ofNat_toNat]at this
theorem str_IndexByte (s:List UInt8) (b:UInt8):Go.Ev.Fn CX 203 [.str (bs s),.int .u8 (b.toNat:Int)] (.int .i64 (Lib.indexByte s b)):=by
 have h:=lite_IndexByte CX_str (bs s) b
 rw[bs_toList]at h
 refine fni Tryz.f203 ?_;unfold Tryz.f203;simp only[Option.get!_some]
 simp only[go_sem]
 refine vf_of (h) ?_;simp only[go_sem]
theorem rvsC_app (l:List Rat) (q:Rat):rvsC (l++[q])=rvsC l++rvC q:=by unfold rvsC;simp
set_option maxHeartbeats 4000000 in
theorem data_Parse (l:List UInt8) (hl:l.length<=100000):Go.Ev.Fn CX 144 [.str (bs l)] (.tup [.sl (parseP l).2.length (rvsC (parseP l).2),.int .i64 ((parseP l).1:Int)]):=by
 have hp:=data_plain l (by omega)
 have hPl:=plain_len l false
 rw[parse_runA]
 generalize plainL false l=P at *
 generalize hres:runA [] (toks [] P)=res at *
 refine fni Tryz.f144 ?_;unfold Tryz.f144;simp only[Option.get!_some]
 repeat (first|simp only[go_sem,mk_bs]|simp (disch:=first|exact oa|fail) only[AX,mk_bs]|refine wki ?_|refine wqn ?_|refine vf_of (by first|exact hp) ?_)
 refine vp_ind (fun s=>s.tmp 0 = .sv (.str (bs P)) /\ ∃ (i:Nat) (qs:List Rat),s.tmp 5 = .sv (.int .i64 (i:Int))/\i<=P.length/\qs.length<=i/\runA qs (toks [] (P.drop i))=res /\
   ((qs=[]/\s.tmp 4 = .nil/\s.gen 56=0)\/(qs≠[]/\s.tmp 4 = .ref 56 0 3 0 qs.length/\s.obj 56 0=some (rvsC qs))))
  (fun s=>match s.tmp 5 with | .sv (.int _ i)=>P.length-i.toNat|_=>0) ?_ ?_
 ·exact⟨rfl,0,[],rfl,by omega,by simp,hres,.inl ⟨rfl,rfl,rfl⟩⟩
 rintro s2 ⟨i0,i,qs,i5,hi,hq,hr,hc⟩ ih
 have hμ:(match s2.tmp 5 with | .sv (.int _ i)=>P.length-i.toNat|_=>0)=P.length-i:=by rw[i5];simp
 rw[hμ]at ih
 refine vp_loop_inv (fun s=>s.tmp 0 = .sv (.str (bs P))/\s.tmp 4=s2.tmp 4/\s.gen 56=s2.gen 56/\s.obj 56 0=s2.obj 56 0 /\
   ∃j:Nat,s.tmp 5 = .sv (.int .i64 (j:Int))/\i<=j/\j<=P.length/\(P.drop j).dropWhile gapB=(P.drop i).dropWhile gapB)
  (fun s=>match s.tmp 5 with | .sv (.int _ j)=>P.length-j.toNat|_=>0) ?_ ?_
 ·exact⟨i0,rfl,rfl,rfl,i,i5,by omega,hi,rfl⟩
 rintro s3 ⟨j0,j4,jg,jo,j,j5,hij,hj,hdw⟩
 by_cases hend:j=P.length
 ·have hnil:(P.drop i).dropWhile gapB=[]:=by rw[<- hdw,hend,List.drop_length];rfl
  rw[toks_skip,hnil,show toks [] ([]:List UInt8)=[] from rfl,runA_nil]at hr
  subst hend
  by_cases hbig:256<qs.length
  ·have e:finP res=(3,[]):=by rw[<- hr];unfold finP;simp only;rw[if_pos hbig]
   rw[e]
   rcases hc with⟨rfl,_⟩|⟨_,i4,iO⟩
   ·simp at hbig
   ·rw[i4]at j4
    repeat (first|simp only[go_sem,j0,j4,j5,bs_size]|simp (disch:=first|exact oa|fail) only[AX,j0,j4,j5,bs_size]|refine wki ?_|refine wqn ?_)
    exact⟨rfl,rfl⟩
  ·have e:finP res=(0,qs):=by rw[<- hr];unfold finP;simp only;rw[if_neg hbig]
   rw[e]
   rcases hc with⟨rfl,i4,_⟩|⟨_,i4,iO⟩
   ·rw[i4]at j4
    repeat (first|simp only[go_sem,j0,j4,j5,bs_size]|simp (disch:=first|exact oa|fail) only[AX,j0,j4,j5,bs_size]|refine wki ?_|refine wqn ?_)
    exact⟨rfl,rfl⟩
   ·rw[i4]at j4
    rw[iO]at jo
    have hrl:=rvsC_len qs
    have ht:(rvsC qs).take (qs.length*3)=rvsC qs:=List.take_of_length_le (by omega)
    repeat (first|simp only[go_sem,j0,j4,j5,bs_size]|simp (disch:=first|exact oa|fail) only[AX,j0,j4,j5,bs_size]|refine wki ?_|refine wqn ?_)
    refine⟨ro_ref (cs:=rvsC qs) (by decide) ?_ ?_,rfl⟩
    ·simp only[go_sem,jo]
    ·rw[List.drop_zero,ht]
 ·have hlt:j<P.length:=by omega
  have hg:P[j]?=some P[j]:=List.getElem?_eq_getElem hlt
  have hdr:P.drop j=P[j]::P.drop (j+1):=List.drop_eq_getElem_cons hlt
  obtain⟨z,hz0,hz1,hz2,hz3,hz4⟩:=gap_index P[j]
  have hx:=str_IndexByte [32,44,10] P[j]
  rw[hz0]at hx
  cases hgap:gapB P[j]with
  |true=>
   have hz5:=hz3 hgap
   have hdw2:(P.drop (j+1)).dropWhile gapB=(P.drop i).dropWhile gapB:=by
    rw[<- hdw,hdr,List.dropWhile_cons,hgap]
    rfl
   clear hdr
   generalize P[j]=b at *
   repeat (first|simp only[go_sem,j0,j4,j5,bs_size,vo_ix,idxB_bs,hg,mk_bs,jg,jo]|simp (disch:=first|exact oa|fail) only[AX,j0,j4,j5,bs_size,vo_ix,idxB_bs,hg,mk_bs,jg,jo]|refine wki ?_|refine wqn ?_|refine vf_of (by first|exact hx) ?_)
   exact⟨⟨j+1,rfl,by omega,by omega,hdw2⟩,by omega⟩
  |false=>
   have hz5:=hz4 hgap
   have hself:(P.drop j).dropWhile gapB=P.drop j:=by rw[hdr,List.dropWhile_cons,hgap];rfl
   rw[hself]at hdw
   rw[toks_skip,<- hdw]at hr
   have hcut:=toks_cut (r:=P.drop (j+1)) hgap
   rw[<- hdr]at hcut
   rw[hcut]at hr
   clear hdr hcut hself hdw
   have hng:ngB P[j]=true:=by unfold ngB;rw[hgap];rfl
   repeat (first|simp only[go_sem,j0,j4,j5,bs_size,vo_ix,idxB_bs,hg,mk_bs,jg,jo]|simp (disch:=first|exact oa|fail) only[AX,j0,j4,j5,bs_size,vo_ix,idxB_bs,hg,mk_bs,jg,jo]|refine wki ?_|refine wqn ?_|refine vf_of (by first|exact hx) ?_)
   refine vp_loop_inv (fun s=>s.tmp 0 = .sv (.str (bs P))/\s.tmp 4=s3.tmp 4/\s.gen 56=s3.gen 56/\s.obj 56 0=s3.obj 56 0/\s.tmp 5 = .sv (.int .i64 (j:Int)) /\
     ∃k:Nat,s.tmp 6 = .sv (.int .i64 (k:Int))/\j<=k/\k<=P.length/\(P.drop j).takeWhile ngB=(P.drop j).take (k-j)++(P.drop k).takeWhile ngB/\(P.drop j).dropWhile ngB=(P.drop k).dropWhile ngB)
    (fun s=>match s.tmp 6 with | .sv (.int _ k)=>P.length-k.toNat|_=>0) ?_ ?_
   ·exact⟨j0,rfl,rfl,rfl,j5,j,rfl,by omega,hj,by simp,rfl⟩
   rintro s4 ⟨k0,k4,kg,ko,k5,k,k6,hjk,hk,htw,hdw⟩
   have kk:s4.tmp 4=s2.tmp 4:=k4.trans j4
   have kkg:s4.gen 56=s2.gen 56:=kg.trans jg
   have kko:s4.obj 56 0=s2.obj 56 0:=ko.trans jo
   have stop:(k=P.length \/ ∃hkl:k<P.length,gapB P[k]=true)->(P.drop k).takeWhile ngB=[]/\(P.drop k).dropWhile ngB=P.drop k/\j<k:=by
    rintro(h|⟨hkl,h⟩)
    ·rw[h,List.drop_length]
     exact⟨rfl,rfl,by omega⟩
    ·rw[List.drop_eq_getElem_cons hkl,List.takeWhile_cons,List.dropWhile_cons]
     have e:ngB P[k]=false:=by unfold ngB;rw[h];rfl
     rw[e]
     refine⟨rfl,rfl,?_⟩
     rcases Nat.lt_or_ge j k with h1|h1
     ·exact h1
     ·have:k=j:=by omega
      subst this
      rw[hgap]at h
      cases h
   have done:(k=P.length \/ ∃hkl:k<P.length,gapB P[k]=true)->j<k /\ ∃w,w=(P.drop j).take (k-j)/\w.length<=100000/\runA qs (w::toks [] (P.drop k))=res:=by
    intro h
    obtain⟨h1,h2,h3⟩:=stop h
    refine⟨h3,_,rfl,by rw[List.length_take];omega,?_⟩
    rw[h1,List.append_nil]at htw
    rw[htw,hdw,h2]at hr
    exact hr
   have fin : ∀w:List UInt8,runA qs (w::toks [] (P.drop k))=res->((numP w).1≠0->finP res=((numP w).1,[]))/\((numP w).1=0->runA (qs++[(numP w).2]) (toks [] (P.drop k))=res):=by
    intro w hw
    refine⟨fun h => ?_,fun h => ?_⟩
    ·rw[runA_cons_bad h]at hw
     rw[<- hw]
     cases hn:(numP w).1 with
     |zero=>exact absurd hn h
     |succ n=>rfl
    ·rw[runA_cons_ok h]at hw
     exact hw
   have go : ∀ (w:List UInt8),j<k->w=(P.drop j).take (k-j)->w.length<=100000->runA qs (w::toks [] (P.drop k))=res ->
     (∃v,ratS v/\Go.Ev.Fn CX 17 [.str (bs w)] (.tup [v,.int .i64 ((numP w).1:Int)])/\((numP w).1=0->v=rv (numP w).2)):=by
    intro w _ _ hw _
    obtain⟨v,h1,h2,h3⟩:=data_Number w (by omega)
    exact⟨v,h1,h2,fun h=>(h3 h).1⟩
   by_cases hke:k=P.length
   ·obtain⟨hjk',w,hw,hwl,hrw⟩:=done (.inl hke)
    have hw':(P.drop j).take (k-j)=w:=hw.symm
    obtain⟨v,⟨sg,n1,c1,n2,c2,rfl⟩,hN,hv⟩:=go w hjk' hw hwl hrw
    obtain⟨f1,f2⟩:=fin w hrw
    by_cases hm:(numP w).1=0
    ·have f3:=f2 hm
     rw[hv hm,hm]at hN
     generalize (numP w).2=q at *
     have hap:=rvsC_app qs q
     have hrl:=rvsC_len qs
     clear go fin done stop hx hv f1 f2
     unfold rv ratV at hN
     rcases hc with⟨rfl,i4,ig⟩|⟨hq0,i4,iO⟩
     ·rw[i4]at kk
      rw[ig]at kkg
      repeat (first|simp only[go_sem,k0,k5,k6,bs_size,mk_bs,bs_extract,hw',kk,kkg]|simp (disch:=first|exact oa|fail) only[AX,k0,k5,k6,bs_size,mk_bs,bs_extract,hw',kk,kkg]|refine wki ?_|refine wqn ?_|refine vf_of (by first|exact hN) ?_)
      refine sc_goto (by exact rfl) ?_
      simp only[go_sem]
      refine ih _ ⟨?_,k,[q],?_,by omega,by simp;omega,f3,.inr ⟨by simp,?_,?_⟩⟩ ?_
      ·simp only[go_sem,k0,kk,kkg]
      ·simp only[go_sem,k6]
      ·simp only[go_sem,kk,kkg]
       first|rfl|skip
      ·simp only[go_sem,kk,kkg]
       first|rfl|skip
      ·simp only[go_sem,k6]
       simp
       omega
     ·rw[i4]at kk
      rw[iO]at kko
      unfold rvC at hap
      repeat (first|simp only[go_sem,k0,k5,k6,bs_size,mk_bs,bs_extract,hw',kk,kko,N0,hrl]|simp (disch:=first|exact oa|fail) only[AX,k0,k5,k6,bs_size,mk_bs,bs_extract,hw',kk,kko,N0,hrl]|refine wki ?_|refine wqn ?_|refine vf_of (by first|exact hN) ?_)
      refine sc_goto (by exact rfl) ?_
      simp only[go_sem]
      refine ih _ ⟨?_,k,qs++[q],?_,by omega,by simp;omega,f3,.inr ⟨by simp,?_,?_⟩⟩ ?_
      ·simp only[go_sem,k0,kk,kko,hrl]
      ·simp only[go_sem,k6]
      ·simp only[go_sem,kk,kko,List.length_append]
       first|rfl|skip
      ·simp only[go_sem,kk,kko,hap]
       first|rfl|skip
      ·simp only[go_sem,k6]
       simp
       omega
    ·rw[f1 hm]
     generalize (numP w).1=m at *
     clear go fin done stop hx hv f1 f2
     repeat (first|simp only[go_sem,k0,k5,k6,bs_size,mk_bs,bs_extract,hw']|simp (disch:=first|exact oa|fail) only[AX,k0,k5,k6,bs_size,mk_bs,bs_extract,hw']|refine wki ?_|refine wqn ?_|refine vf_of (by first|exact hN) ?_)
     first|exact⟨rfl,rfl⟩|rfl|skip
   ·have hkl:k<P.length:=by omega
    have hgk:P[k]?=some P[k]:=List.getElem?_eq_getElem hkl
    obtain⟨y,hy0,hy1,hy2,hy3,hy4⟩:=gap_index P[k]
    have hyx:=str_IndexByte [32,44,10] P[k]
    rw[hy0]at hyx
    cases hgapk:gapB P[k]with
    |true=>
     have hy5:=hy3 hgapk
     obtain⟨hjk',w,hw,hwl,hrw⟩:=done (.inr ⟨hkl,hgapk⟩)
     have hw':(P.drop j).take (k-j)=w:=hw.symm
     clear hy3 hy4
     generalize P[k]=b at *
     obtain⟨v,⟨sg,n1,c1,n2,c2,rfl⟩,hN,hv⟩:=go w hjk' hw hwl hrw
     obtain⟨f1,f2⟩:=fin w hrw
     by_cases hm:(numP w).1=0
     ·have f3:=f2 hm
      rw[hv hm,hm]at hN
      generalize (numP w).2=q at *
      have hap:=rvsC_app qs q
      have hrl:=rvsC_len qs
      clear go fin done stop hx hv f1 f2
      unfold rv ratV at hN
      rcases hc with⟨rfl,i4,ig⟩|⟨hq0,i4,iO⟩
      ·rw[i4]at kk
       rw[ig]at kkg
       repeat (first|simp only[go_sem,k0,k5,k6,bs_size,mk_bs,bs_extract,vo_ix,idxB_bs,hgk,hw',kk,kkg]|simp (disch:=first|exact oa|fail) only[AX,k0,k5,k6,bs_size,mk_bs,bs_extract,vo_ix,idxB_bs,hgk,hw',kk,kkg]|refine wki ?_|refine wqn ?_|refine vf_of (by first|exact hyx|exact hN) ?_)
       refine sc_goto (by exact rfl) ?_
       simp only[go_sem]
       refine ih _ ⟨?_,k,[q],?_,by omega,by simp;omega,f3,.inr ⟨by simp,?_,?_⟩⟩ ?_
       ·simp only[go_sem,k0,kk,kkg]
       ·simp only[go_sem,k6]
       ·simp only[go_sem,kk,kkg]
        first|rfl|skip
       ·simp only[go_sem,kk,kkg]
        first|rfl|skip
       ·simp only[go_sem,k6]
        simp
        omega
      ·rw[i4]at kk
       rw[iO]at kko
       unfold rvC at hap
       repeat (first|simp only[go_sem,k0,k5,k6,bs_size,mk_bs,bs_extract,vo_ix,idxB_bs,hgk,hw',kk,kko,N0,hrl]|simp (disch:=first|exact oa|fail) only[AX,k0,k5,k6,bs_size,mk_bs,bs_extract,vo_ix,idxB_bs,hgk,hw',kk,kko,N0,hrl]|refine wki ?_|refine wqn ?_|refine vf_of (by first|exact hyx|exact hN) ?_)
       refine sc_goto (by exact rfl) ?_
       simp only[go_sem]
       refine ih _ ⟨?_,k,qs++[q],?_,by omega,by simp;omega,f3,.inr ⟨by simp,?_,?_⟩⟩ ?_
       ·simp only[go_sem,k0,kk,kko,hrl]
       ·simp only[go_sem,k6]
       ·simp only[go_sem,kk,kko,List.length_append]
        first|rfl|skip
       ·simp only[go_sem,kk,kko,hap]
        first|rfl|skip
       ·simp only[go_sem,k6]
        simp
        omega
     ·rw[f1 hm]
      generalize (numP w).1=m at *
      clear go fin done stop hx hv f1 f2
      repeat (first|simp only[go_sem,k0,k5,k6,bs_size,mk_bs,bs_extract,vo_ix,idxB_bs,hgk,hw']|simp (disch:=first|exact oa|fail) only[AX,k0,k5,k6,bs_size,mk_bs,bs_extract,vo_ix,idxB_bs,hgk,hw']|refine wki ?_|refine wqn ?_|refine vf_of (by first|exact hyx|exact hN) ?_)
      first|exact⟨rfl,rfl⟩|rfl|skip
    |false=>
     have hy5:=hy4 hgapk
     have hngk:ngB P[k]=true:=by unfold ngB;rw[hgapk];rfl
     have h2:(P.drop j).dropWhile ngB=(P.drop (k+1)).dropWhile ngB:=by
      rw[hdw,List.drop_eq_getElem_cons hkl,List.dropWhile_cons,hngk]
      rfl
     have h3:(P.drop j).takeWhile ngB=(P.drop j).take (k+1-j)++(P.drop (k+1)).takeWhile ngB:=by
      rw[htw,List.drop_eq_getElem_cons hkl,List.takeWhile_cons,hngk,show k+1-j=(k-j)+1 by omega,List.take_add_one,List.getElem?_drop,show j+(k-j)=k by omega,hgk]
      simp
     clear go fin done stop hx hy3 hy4
     generalize P[k]=b at *
     repeat (first|simp only[go_sem,k0,k4,k5,k6,bs_size,mk_bs,vo_ix,idxB_bs,hgk,kg,ko]|simp (disch:=first|exact oa|fail) only[AX,k0,k4,k5,k6,bs_size,mk_bs,vo_ix,idxB_bs,hgk,kg,ko]|refine wki ?_|refine wqn ?_|refine vf_of (by first|exact hyx) ?_)
     exact⟨⟨k+1,rfl,by omega,by omega,h3,h2⟩,by omega⟩
end Go.Proofs.YtheclpmgipiejaaGreatDoor
namespace Go.Ev
theorem natD_append (a b:List UInt8):natD (a++b)=natD a*10^b.length+natD b:=by
 have key : ∀ (b:List UInt8) (x:Nat),b.foldl (fun a b=>a*10+(b.toNat-48)) x=x*10^b.length+b.foldl (fun a b=>a*10+(b.toNat-48)) 0:=by
  intro b
  induction b with
  |nil=>intro x;simp
  |cons c b ih=>
   intro x
   rw[List.foldl_cons,List.foldl_cons,ih,ih (0*10+(c.toNat-48)),List.length_cons,Nat.pow_succ,Nat.add_mul,Nat.mul_assoc,Nat.mul_comm 10,Nat.zero_mul,Nat.zero_add,Nat.add_assoc]
 unfold natD
 rw[List.foldl_append,key]
theorem natP_good {l:List UInt8} (h0:l≠[]) (h1:l.length<=400) (h2:digs l=true):natP l=some (natD l):=by
 unfold natP
 rw[if_neg]
 rintro(h|h|h)
 ·exact h0 h
 ·omega
 ·rw[h2]at h;cases h
theorem natP_bad {l:List UInt8} (h2:digs l=false):natP l=none:=by
 unfold natP
 rw[if_pos (.inr (.inr h2))]
theorem natP_nil:natP []=none:=rfl
theorem digs_false {l:List UInt8} {x:UInt8} (h:x∈l) (hx:dig x=false):digs l=false:=by
 cases e:digs l with
 |false=>rfl
 |true=>
  have:=List.all_eq_true.1 e x h
  rw[hx]at this
  cases this
theorem digs_mem {l:List UInt8} {x:UInt8} (h:digs l=true) (hx:x∈l):dig x=true:=List.all_eq_true.1 h x hx
theorem digs_appD (a b:List UInt8):digs (a++b)=(digs a&&digs b):=by unfold digs;rw[List.all_append]
theorem digs_tw (l:List UInt8):digs (l.takeWhile dig)=true:=List.all_eq_true.2 fun x hx=>by
 induction l with
 |nil=>cases hx
 |cons y l ih=>
  rw[List.takeWhile_cons]at hx
  split at hx
  ·rename_i hy
   rcases List.mem_cons.1 hx with rfl|hx
   ·exact hy
   ·exact ih hx
  ·cases hx
theorem dw_head {l:List UInt8} {c:UInt8} {y:List UInt8} (h:l.dropWhile dig=c::y):dig c=false:=by
 have h2:=List.head_dropWhile_not dig (l:=l) (w:=by rw[h];simp)
 simp only[h,List.head_cons]at h2
 simpa using h2
theorem dig_ne {x c:UInt8} (h:dig x=true) (hc:dig c=false):x≠c:=fun e=>by rw[e,hc]at h;cases h
theorem d46:dig 46=false:=rfl
theorem d47:dig 47=false:=rfl
theorem cutL_at {u:List UInt8} {c:UInt8} (h:u.contains c=true):u=frontL c u++c::backL c u:=by
 unfold frontL backL
 induction u with
 |nil=>cases h
 |cons x u ih=>
  rw[List.takeWhile_cons,List.dropWhile_cons]
  by_cases hx:x=c
  ·subst hx
   simp
  ·have hx':(x != c)=true:=by simpa using hx
   rw[hx']
   simp only[if_true]
   have hu:u.contains c=true:=by
    have:=List.contains_iff_mem.1 h
    rcases List.mem_cons.1 this with e|e
    ·exact absurd e.symm hx
    ·exact List.contains_iff_mem.2 e
   rw[List.cons_append,<- ih hu]
theorem front_sub {u:List UInt8} {c x:UInt8} (h:u.contains c=true) (hx:x∈u) (hxc:x≠c):x∈frontL c u++backL c u:=by
 rw[cutL_at h]at hx
 rcases List.mem_append.1 hx with h|h
 ·exact List.mem_append_left _ h
 ·rcases List.mem_cons.1 h with e|h
  ·exact absurd e hxc
  ·exact List.mem_append_right _ h
def docP (l:List UInt8):Option Rat:=
 if (absP l).takeWhile dig=[] then none else
 match (absP l).dropWhile dig with
 | []=>some (mkRat (sgn (negP l) (natD ((absP l).takeWhile dig))) 1)
 |c::y=>if y=[]\/digs y=false\/(c≠46/\c≠47) then none else
  if c=47 then (if natD y=0 then none else some (mkRat (sgn (negP l) (natD ((absP l).takeWhile dig))) (natD y)))
  else some (mkRat (sgn (negP l) (natD ((absP l).takeWhile dig)*10^y.length+natD y)) (10^y.length))
theorem doc_dec {l:List UInt8} (hl:l.length<=400):decP l=docP l:=by
 unfold decP docP
 have hu:(absP l).length<=400:=by
  unfold absP
  split
  ·rw[List.length_tail];omega
  ·exact hl
 generalize absP l=u at *
 generalize negP l=ng
 have hw:=digs_tw u
 have hsplit:u=u.takeWhile dig++u.dropWhile dig:=(List.takeWhile_append_dropWhile).symm
 have hwl:(u.takeWhile dig).length<=u.length:=(List.takeWhile_sublist dig).length_le
 have bad46 : ∀x∈u,dig x=false->x≠46->u.contains 46=true->(match natP (backL 46 u),natP (frontL 46 u++backL 46 u) with
  |some _,some n=>some (mkRat (sgn ng n) (10^(backL 46 u).length))
  |_,_=>none)=none:=by
  intro x hx hd h46 hc
  rw[natP_bad (digs_false (front_sub hc hx h46) hd)]
  split
  ·rename_i h;cases h
  ·rfl
 by_cases hw0:u.takeWhile dig=[]
 ·rw[if_pos hw0]
  cases u with
  |nil=>rfl
  |cons x u' =>
   have hx:dig x=false:=by
    cases e:dig x with
    |false=>rfl
    |true=>rw[List.takeWhile_cons,e]at hw0;simp at hw0
   split
   ·rename_i hc
    split
    ·rfl
    ·rename_i hf
     by_cases hx46:x=46
     ·exfalso
      subst hx46
      exact hf rfl
     ·exact bad46 x List.mem_cons_self hx hx46 hc
   ·have:natP (frontL 47 (x::u'))=none:=by
     by_cases hx47:x=47
     ·subst hx47;rfl
     ·refine natP_bad (digs_false (x:=x) ?_ hx)
      unfold frontL
      rw[List.takeWhile_cons,show (x != 47)=true by simpa using hx47]
      exact List.mem_cons_self
    rw[this]
 ·rw[if_neg hw0]
  cases hr:u.dropWhile dig with
  |nil=>
   rw[hr,List.append_nil]at hsplit
   have hud:digs u=true:=by rw[hsplit];exact hw
   have h46:u.contains 46=false:=contains_false fun b hb=>dig_ne (digs_mem hud hb) d46
   have h47:u.contains 47=false:=contains_false fun b hb=>dig_ne (digs_mem hud hb) d47
   have hf:=(front_all (c:=47) (a:=u) fun b hb=>dig_ne (digs_mem hud hb) d47).1
   rw[h46,h47,hf,if_neg (by simp),if_neg (by simp),<- hsplit,natP_good (by rw[hsplit];exact hw0) hu hud]
   rfl
  |cons c y=>
   have hc:=dw_head hr
   rw[hr]at hsplit
   generalize hW:u.takeWhile dig=w at *
   have hyl:w.length+(y.length+1)<=400:=by
    have:=congrArg List.length hsplit
    rw[List.length_append,List.length_cons]at this
    omega
   have hcu:c∈u:=by rw[hsplit];exact List.mem_append_right _ List.mem_cons_self
   dsimp only
   by_cases c46:c=46
   ·subst c46
    have hcon:u.contains 46=true:=List.contains_iff_mem.2 hcu
    obtain⟨hf,hb⟩:=front_back (c:=46) (a:=w) (b:=y) fun x hx=>dig_ne (digs_mem hw hx) d46
    rw[<- hsplit]at hf hb
    rw[if_pos hcon,hf,hb,if_neg hw0]
    by_cases hy0:y=[]
    ·rw[if_pos (.inl hy0),hy0,natP_nil]
    ·cases hyd:digs y with
     |false=>rw[if_pos (.inr (.inl rfl)),natP_bad hyd]
     |true=>
      rw[natP_good hy0 (by omega) hyd,natP_good (by simp[hw0]) (by rw[List.length_append];omega) (by rw[digs_appD,hw,hyd];rfl),if_neg (by
       rintro(h|h|h)
       ·exact hy0 h
       ·cases h
       ·exact h.1 rfl),if_neg (by decide),natD_append]
   ·by_cases c47:c=47
    ·subst c47
     cases hcon:u.contains 46 with
     |true=>
      have hy46:digs y=false:=by
       have:=List.contains_iff_mem.1 hcon
       rw[hsplit]at this
       rcases List.mem_append.1 this with h|h
       ·exact absurd rfl (dig_ne (digs_mem hw h) d46)
       ·rcases List.mem_cons.1 h with e|h
        ·cases e
        ·exact digs_false h d46
      rw[if_pos (show y=[]\/digs y=false\/((47:UInt8)≠46/\(47:UInt8)≠47) from .inr (.inl hy46))]
      have hb:=bad46 47 hcu d47 (by decide) hcon
      simp only[if_true]
      split
      ·rfl
      ·exact hb
     |false=>
      obtain⟨hf,hb⟩:=front_back (c:=47) (a:=w) (b:=y) fun x hx=>dig_ne (digs_mem hw hx) d47
      rw[<- hsplit]at hf hb
      have h47:u.contains 47=true:=List.contains_iff_mem.2 hcu
      rw[if_neg (by simp),hf,if_pos h47,hb,natP_good hw0 (by omega) hw]
      by_cases hy0:y=[]
      ·rw[if_pos (.inl hy0),hy0,natP_nil]
      ·cases hyd:digs y with
       |false=>rw[if_pos (.inr (.inl rfl)),natP_bad hyd]
       |true=>
        rw[natP_good hy0 (by omega) hyd,if_neg (by
         rintro(h|h|h)
         ·exact hy0 h
         ·cases h
         ·exact h.2 rfl),if_pos rfl]
    ·rw[if_pos (show y=[]\/digs y=false\/(c≠46/\c≠47) from .inr (.inr ⟨c46,c47⟩))]
     cases hcon:u.contains 46 with
     |true=>
      have hb:=bad46 c hcu hc c46 hcon
      simp only[if_true]
      split
      ·rfl
      ·exact hb
     |false=>
      rw[if_neg (by simp)]
      have:natP (frontL 47 u)=none:=by
       refine natP_bad (digs_false (x:=c) ?_ hc)
       rw[hsplit]
       unfold frontL
       have key : ∀w:List UInt8,digs w=true->c∈(w++c::y).takeWhile (· != 47):=by
        intro w
        induction w with
        |nil=>
         intro _
         rw[List.nil_append,List.takeWhile_cons,show (c != 47)=true by simpa using c47]
         exact List.mem_cons_self
        |cons x w ih=>
         intro hxw
         have hx:dig x=true:=digs_mem hxw List.mem_cons_self
         rw[List.cons_append,List.takeWhile_cons,show (x != 47)=true by simpa using dig_ne hx d47]
         simp only[if_true]
         exact List.mem_cons_of_mem _ (ih (List.all_eq_true.2 fun z hz=>digs_mem hxw (List.mem_cons_of_mem _ hz)))
       exact key w hw
      rw[this]
def tailPM (l:List UInt8):List UInt8:=if (l.head?==some 45)||(l.head?==some 43) then l.tail else l
def docE (l:List UInt8):Option Int:=
 if (tailPM l).length<1\/(tailPM l).length>2\/digs (tailPM l)=false then none else
 if natD (tailPM l)<=30 then some (if l.head?=some 45 then - (natD (tailPM l):Int) else (natD (tailPM l):Int)) else none
theorem pm_dig {b:UInt8} (h:isPM b=true):dig b=false:=by
 have key : ∀n:Nat,n<256->isPM (UInt8.ofNat n)=true->dig (UInt8.ofNat n)=false:=by decide +kernel
 have:=key b.toNat b.toNat_lt
 rw[UInt8.ofNat_toNat]at this
 exact this h
theorem dw_len {p:UInt8->Bool} {l:List UInt8}:(l.dropWhile p).length<=l.length:=(List.dropWhile_sublist p).length_le
theorem doc_exp (l:List UInt8):expP l=docE l:=by
 unfold expP docE
 cases l with
 |nil=>rfl
 |cons c s=>
  have hpm:((c::s).head?==some 45||(c::s).head?==some 43)=isPM c:=by
   unfold isPM
   rw[Bool.or_comm]
   simp
  unfold tailPM
  rw[hpm]
  cases hc:isPM c with
  |false=>
   have e:(c::s).dropWhile isPM=c::s:=by rw[List.dropWhile_cons,hc];rfl
   rw[e]
   simp
  |true=>
   have e:(c::s).dropWhile isPM=s.dropWhile isPM:=by rw[List.dropWhile_cons,hc];rfl
   rw[e]
   simp only[if_true,List.tail_cons,List.length_cons]
   have hle:=dw_len (p:=isPM) (l:=s)
   cases s with
   |nil=>rfl
   |cons x r=>
    cases hx:isPM x with
    |false=>
     have e2:(x::r).dropWhile isPM=x::r:=by rw[List.dropWhile_cons,hx];rfl
     rw[e2]
     simp
    |true=>
     have e2:(x::r).dropWhile isPM=r.dropWhile isPM:=by rw[List.dropWhile_cons,hx];rfl
     have hl2:=dw_len (p:=isPM) (l:=r)
     rw[e2,if_pos (.inl (by simp only[List.length_cons];omega)),if_pos (.inr (.inr (digs_false (x:=x) List.mem_cons_self (pm_dig hx))))]
def docN (l:List UInt8):Nat×Rat:=
 if 60<l.length then (3,0) else
 if l.contains 101 then
  match docP (frontL 101 l),docE (backL 101 l) with
  |some q,some k=>if l.contains 47 then (2,0) else (0,q*tenR k)
  |_,_=>(2,0)
 else match docP l with
  |some q=>(0,q)
  |none=>(2,0)
theorem doc_num (l:List UInt8):numP l=docN l:=by
 unfold numP docN
 split
 ·rfl
 ·have h1:(frontL 101 l).length<=l.length:=(List.takeWhile_sublist _).length_le
  rw[doc_dec (l:=frontL 101 l) (by omega),doc_dec (l:=l) (by omega),doc_exp]
  rfl
end Go.Ev
set_option maxHeartbeats 4000000
namespace Go.Proofs.YtheclpmgipiejaaGreatDoor
open Go.Ev
theorem tw_lt {p:UInt8->Bool} : ∀ {l:List UInt8} {i:Nat},i<(l.takeWhile p).length -> ∃b,l[i]?=some b/\p b=true
 | [],i,h=>by simp at h
 |x::l,i,h=>by
  rw[List.takeWhile_cons]at h
  cases hx:p x with
  |false=>rw[hx]at h;simp at h
  |true=>
   cases i with
   |zero=>exact⟨x,rfl,hx⟩
   |succ i=>
    rw[hx]at h
    simp only[if_true,List.length_cons]at h
    obtain⟨b,h1,h2⟩:=tw_lt (p:=p) (l:=l) (i:=i) (by omega)
    exact⟨b,h1,h2⟩
theorem tw_end {p:UInt8->Bool} : ∀ {l:List UInt8},(l.takeWhile p).length=l.length \/ ∃b,l[(l.takeWhile p).length]?=some b/\p b=false
 | [] => .inl rfl
 |x::l=>by
  rw[List.takeWhile_cons]
  cases hx:p x with
  |false=>exact .inr ⟨x,rfl,hx⟩
  |true=>
   simp only[if_true,List.length_cons]
   rcases tw_end (p:=p) (l:=l) with h|⟨b,h1,h2⟩
   ·exact .inl (by rw[h])
   ·exact .inr ⟨b,h1,h2⟩
theorem tw_le {p:UInt8->Bool} {l:List UInt8}:(l.takeWhile p).length<=l.length:=(List.takeWhile_sublist p).length_le
theorem ref3_run (l:List UInt8) (hl:l.length<=1048576):Go.Ev.Fn CX 48 [.str (bs l)] (.int .i64 ((l.takeWhile dig).length:Int)):=by
 have hle:=tw_le (p:=dig) (l:=l)
 refine fni Tryz.f48 ?_;unfold Tryz.f48;simp only[Option.get!_some]
 repeat (first|simp only[go_sem]|simp (disch:=first|exact oa|fail) only[AX]|refine wki ?_|refine wqn ?_)
 refine vp_loop_inv (fun s=>s.tmp 0 = .sv (.str (bs l)) /\ ∃i:Nat,s.tmp 3 = .sv (.int .i64 (i:Int))/\i<=(l.takeWhile dig).length)
  (fun s=>match s.tmp 3 with | .sv (.int _ i)=>(l.takeWhile dig).length-i.toNat|_=>0) ⟨rfl,0,rfl,by omega⟩ ?_
 rintro s ⟨i0,i,i3,hi⟩
 by_cases hend:i=(l.takeWhile dig).length
 ·rcases tw_end (p:=dig) (l:=l) with h|⟨b,h1,h2⟩
  ·rw[<- hend]at h ⊢
   repeat (first|simp only[go_sem,i0,i3,bs_size]|simp (disch:=first|exact oa|fail) only[AX,i0,i3,bs_size]|refine wki ?_|refine wqn ?_)
  ·rw[<- hend]at h1 ⊢
   have hlt:i<l.length:=by
    rcases Nat.lt_or_ge i l.length with h|h
    ·exact h
    ·rw[List.getElem?_eq_none h]at h1;cases h1
   unfold dig at h2
   by_cases c:b.toNat<48
   ·repeat (first|simp only[go_sem,i0,i3,bs_size,h1,vo_ix,idxB_bs,Option.map_some]|simp (disch:=first|exact oa|fail) only[AX,i0,i3,bs_size,h1,vo_ix,idxB_bs,Option.map_some]|refine wki ?_|refine wqn ?_)
   ·have c2:57<b.toNat:=by
     simp only[Bool.and_eq_false_iff,decide_eq_false_iff_not]at h2
     omega
    repeat (first|simp only[go_sem,i0,i3,bs_size,h1,vo_ix,idxB_bs,Option.map_some]|simp (disch:=first|exact oa|fail) only[AX,i0,i3,bs_size,h1,vo_ix,idxB_bs,Option.map_some]|refine wki ?_|refine wqn ?_)
 ·obtain⟨b,h1,h2⟩:=tw_lt (p:=dig) (l:=l) (i:=i) (by omega)
  unfold dig at h2
  simp only[Bool.and_eq_true,decide_eq_true_eq]at h2
  repeat (first|simp only[go_sem,i0,i3,bs_size,h1,vo_ix,idxB_bs,Option.map_some]|simp (disch:=first|exact oa|fail) only[AX,i0,i3,bs_size,h1,vo_ix,idxB_bs,Option.map_some]|refine wki ?_|refine wqn ?_)
  exact⟨⟨i+1,rfl,by omega⟩,by omega⟩
theorem natD_take_succ {l:List UInt8} {i:Nat} {b:UInt8} (h:l[i]?=some b):natD (l.take (i+1))=natD (l.take i)*10+(b.toNat-48):=by
 rw[List.take_add_one,h]
 exact natD_snoc _ _
theorem ref1_Parse {l:List UInt8} (h0:l≠[]) (hl:l.length<=400) (hd:digs l=true):Go.Ev.Fn CX 49 [.str (bs l)] (.tup [natV (lim (natD l)),.bool true]):=by
 have hpos:0<l.length:=List.length_pos_iff.2 h0
 have e10:(natV (lim 10):SV) = .sl 1 [.int .u32 10]:=rfl
 refine fni Tryz.f49 ?_;unfold Tryz.f49;simp only[Option.get!_some]
 repeat (first|simp only[go_sem,bs_size]|simp (disch:=first|exact oa|fail) only[AX,bs_size]|refine wki ?_|refine wqn ?_|refine vpd 9 [4,31,32,38] ?_)
 refine vp_loop_inv (fun s=>s.tmp 0 = .sv (.str (bs l)) /\ ∃i:Nat,s.tmp 5 = .sv (.int .i64 (i:Int))/\i<=l.length/\((i=0/\s.tmp 4 = .nil/\s.tmp 31 = .undef/\s.tmp 32 = .undef/\s.tmp 38 = .undef)\/(s.tmp 4 = .sv (natV (lim (natD (l.take i)))) /\ ∃x y z,s.tmp 31 = .sv x/\s.tmp 32 = .sv y/\s.tmp 38 = .sv z)))
  (fun s=>match s.tmp 5 with | .sv (.int _ i)=>l.length-i.toNat|_=>0) ⟨rfl,0,rfl,by omega,.inl ⟨rfl,rfl,rfl,rfl,rfl⟩⟩ ?_
 rintro s ⟨i0,i,i5,hi,hc⟩
 by_cases hend:i=l.length
 ·subst hend
  rcases hc with⟨h00,_⟩|⟨i4,_⟩
  ·omega
  ·rw[List.take_length]at i4
   repeat (first|simp only[go_sem,i0,i5,i4,bs_size]|simp (disch:=first|exact oa|fail) only[AX,i0,i5,i4,bs_size]|refine wki ?_|refine wqn ?_|refine vpd 9 [4,31,32,38] ?_)
 ·obtain⟨b,hb⟩ : ∃b,l[i]?=some b:=⟨_,List.getElem?_eq_getElem (by omega)⟩
  have hdb:dig b=true:=List.all_eq_true.1 hd b (List.mem_of_getElem? hb)
  unfold dig at hdb
  simp only[Bool.and_eq_true,decide_eq_true_eq]at hdb
  have hsnoc:=natD_take_succ hb
  have hdt:digs (l.take i)=true:=by unfold digs;exact List.all_eq_true.2 fun x hx=>List.all_eq_true.1 hd x (List.mem_of_mem_take hx)
  have hs1:(lim (natD (l.take i))).length<=400:=by
   have:=lim_ten (natD_lt hdt)
   rw[List.length_take]at this
   omega
  have hs2:(lim (natD (l.take i)*10)).length<=401:=by
   have h3:=lim_ten' (natD_lt hdt)
   rw[List.length_take]at h3
   omega
  have hz:(lim (b.toNat-48)).length<=16777216:=by
   have:=lim_small (n:=b.toNat-48) (k:=1) (by omega)
   omega
  have m:=ref1_MulL (N:=natD (l.take i)) (D:=10) (by omega) (by decide)
  have a:=ref1_AddL (N:=natD (l.take i)*10) (D:=b.toNat-48) (by omega) hz
  have aw:=ref1_Add (lim (natD (l.take i)*10)) [b.toNat-48] (okL_lim _) (fun x hx=>by rw[List.mem_singleton.1 hx];omega) (by omega) (by simp)
  rw[wth_lim,show wth [b.toNat-48]=b.toNat-48 by simp[wth],<- hsnoc,show (natV [b.toNat-48]:SV) = .sl 1 [.int .u32 ((b.toNat-48:Nat):Int)] from rfl]at aw
  rw[e10]at m
  have ew:IntKind.u32.wrap (IntKind.u8.wrap ((b.toNat:Int)-48))=((b.toNat-48:Nat):Int):=by
   rw[IntKind.wrap_u8,IntKind.wrap_u32]
   omega
  clear a hs1 hs2 hz hdt
  rcases hc with⟨h00,i4,u2,u3,u4⟩|⟨i4,x,y,z,u2,u3,u4⟩
  ·subst h00
   rw[List.take_zero,natD_nil,natV_zero]at m
   rw[List.take_zero,natD_nil]at aw
   repeat (first|simp only[go_sem,i0,i5,i4,u2,u3,u4,bs_size,hb,vo_ix,idxB_bs,Option.map_some,ew]|simp (disch:=first|exact oa|fail) only[AX,i0,i5,i4,u2,u3,u4,bs_size,hb,vo_ix,idxB_bs,Option.map_some,ew]|refine wki ?_|refine wqn ?_|refine vpd 9 [4,31,32,38] ?_|refine vf_of (by first|exact m|exact aw) ?_)
   exact⟨⟨1,rfl,by omega,.inr ⟨rfl,_,_,_,rfl,rfl,rfl⟩⟩,by omega⟩
  ·repeat (first|simp only[go_sem,i0,i5,i4,u2,u3,u4,bs_size,hb,vo_ix,idxB_bs,Option.map_some]|simp (disch:=first|exact oa|fail) only[AX,i0,i5,i4,u2,u3,u4,bs_size,hb,vo_ix,idxB_bs,Option.map_some]|refine wki ?_|refine wqn ?_|refine vpd 9 [4,31,32,38] ?_)
   repeat (first|simp only[go_sem,i0,i5,i4,u2,u3,u4,bs_size,hb,vo_ix,idxB_bs,Option.map_some,ew]|simp (disch:=first|exact oa|fail) only[AX,i0,i5,i4,u2,u3,u4,bs_size,hb,vo_ix,idxB_bs,Option.map_some,ew]|refine wki ?_|refine wqn ?_|refine vpd 9 [4,31,32,38] ?_|refine vf_of (by first|exact m|exact aw) ?_)
   exact⟨⟨i+1,rfl,by omega,.inr ⟨rfl,_,_,_,rfl,rfl,rfl⟩⟩,by omega⟩
theorem ref3_ten (n:Nat) (hn:n<=400):Go.Ev.Fn CX 50 [.int .i64 (n:Int)] (natV (lim (10^n))):=by
 have e1:(natV (lim 1):SV) = .sl 1 [.int .u32 1]:=rfl
 have e10:(natV (lim 10):SV) = .sl 1 [.int .u32 10]:=rfl
 refine fni Tryz.f50 ?_;unfold Tryz.f50;simp only[Option.get!_some]
 repeat (first|simp only[go_sem]|simp (disch:=first|exact oa|fail) only[AX]|refine wki ?_|refine wqn ?_)
 refine vp_loop_inv (fun s=>s.tmp 0 = .sv (.int .i64 (n:Int)) /\ ∃i:Nat,s.tmp 4 = .sv (.int .i64 (i:Int))/\i<=n/\((i=0/\s.tmp 3 = .ref 5 0 1 0 1/\s.obj 5 0=some [.int .u32 1])\/s.tmp 3 = .sv (natV (lim (10^i)))))
  (fun s=>match s.tmp 4 with | .sv (.int _ i)=>n-i.toNat|_=>0) ⟨rfl,0,rfl,by omega,.inl ⟨rfl,rfl,rfl⟩⟩ ?_
 rintro s ⟨i0,i,i4,hi,hc⟩
 by_cases hend:i=n
 ·subst hend
  rcases hc with⟨rfl,i3,iO⟩|i3
  ·repeat (first|simp only[go_sem,i0,i4,i3,iO]|simp (disch:=first|exact oa|fail) only[AX,i0,i4,i3,iO]|refine wki ?_|refine wqn ?_)
   refine ro_ref (cs:=[.int .u32 1]) (by decide) ?_ ?_
   ·simp only[go_sem,i3,iO]
   ·rfl
  ·repeat (first|simp only[go_sem,i0,i4,i3]|simp (disch:=first|exact oa|fail) only[AX,i0,i4,i3]|refine wki ?_|refine wqn ?_)
 ·have hp:=pow_lim (k:=i)
  have m:=ref1_MulL (N:=10^i) (D:=10) (by omega) (by decide)
  rw[show 10^i*10=10^(i+1) by rw[Nat.pow_succ],e10]at m
  rcases hc with⟨rfl,i3,iO⟩|i3
  ·rw[Nat.pow_zero,e1]at m
   generalize hY:10^(0+1)=Y at *
   repeat (first|simp only[go_sem,i0,i4,i3,iO]|simp (disch:=first|exact oa|fail) only[AX,i0,i4,i3,iO]|refine wki ?_|refine wqn ?_|refine vf_of (by first|exact m) ?_)
   exact⟨⟨1,rfl,by omega,.inr (by rw[hY])⟩,by omega⟩
  ·generalize 10^i=X at *
   generalize hY:10^(i+1)=Y at *
   repeat (first|simp only[go_sem,i0,i4,i3]|simp (disch:=first|exact oa|fail) only[AX,i0,i4,i3]|refine wki ?_|refine wqn ?_|refine vf_of (by first|exact m) ?_)
   exact⟨⟨i+1,rfl,by omega,.inr (by rw[hY])⟩,by omega⟩
theorem take_tw {p:UInt8->Bool} (l:List UInt8):l.take (l.takeWhile p).length=l.takeWhile p:=by
 induction l with
 |nil=>rfl
 |cons x l ih=>
  rw[List.takeWhile_cons]
  split
  ·rw[List.length_cons,List.take_succ_cons,ih]
  ·rfl
theorem drop_tw {p:UInt8->Bool} (l:List UInt8):l.drop (l.takeWhile p).length=l.dropWhile p:=by
 induction l with
 |nil=>rfl
 |cons x l ih=>
  rw[List.takeWhile_cons,List.dropWhile_cons]
  split
  ·rw[List.length_cons,List.drop_succ_cons,ih]
  ·rfl
def docV (o:Option Rat):SV:=match o with
 |some q => .tup [rv q,.int .i64 0]
 |none => .tup [rv 0,.int .i64 2]
theorem tw_all : ∀ {y:List UInt8},digs y=true->y.takeWhile dig=y
 | [],_=>rfl
 |x::y,h=>by
  unfold digs at h
  rw[List.all_cons,Bool.and_eq_true]at h
  rw[List.takeWhile_cons,h.1]
  simp only[if_true]
  rw[tw_all (y:=y) h.2]
theorem tw_short {y:List UInt8} (h:digs y=false):(y.takeWhile dig).length≠y.length:=fun e=>by
 have h2:=digs_tw y
 have h3:y.takeWhile dig=y:=by
  have:=take_tw (p:=dig) y
  rw[e,List.take_length]at this
  exact this.symm
 rw[h3,h]at h2
 cases h2
theorem ref3_body (l u:List UInt8) (ng:Bool) (hl:l.length<=60)
  (hsg:(ng=true/\l[0]?=some 45/\(l==[])=false/\(l.drop 1).take (l.length-1)=u/\l.length=u.length+1)\/(ng=false/\l=u/\(u==[])=false /\ ∃b,u[0]?=some b/\((b.toNat:Int)==45)=false)) :
  Go.Ev.Fn CX 20 [.str (bs l)] (docV (if u.takeWhile dig=[] then none else
  match u.dropWhile dig with
  | []=>some (mkRat (sgn ng (natD (u.takeWhile dig))) 1)
  |c::y=>if y=[]\/digs y=false\/(c≠46/\c≠47) then none else
   if c=47 then (if natD y=0 then none else some (mkRat (sgn ng (natD (u.takeWhile dig))) (natD y)))
   else some (mkRat (sgn ng (natD (u.takeWhile dig)*10^y.length+natD y)) (10^y.length)))):=by
 have z:=ref2_Int 0 (by omega)
 rw[show (((0:Int)):Rat)=0 by rfl]at z
 have hul:u.length<=60:=by rcases hsg with⟨_,_,_,_,h⟩|⟨_,h,_⟩<;>(try rw[<- h])<;>omega
 have r1:=ref3_run u (by omega)
 have tt:=take_tw (p:=dig) u
 have dt:=drop_tw (p:=dig) u
 have hle:=tw_le (p:=dig) (l:=u)
 have hlen:=congrArg List.length (List.takeWhile_append_dropWhile (p:=dig) (l:=u))
 rw[List.length_append]at hlen
 have hw:=digs_tw u
 have hc0 := @dw_head u
 generalize hW:u.takeWhile dig=W at *
 generalize hR:u.dropWhile dig=R at *
 have hRt:List.take (u.length-W.length) R=R:=List.take_of_length_le (by omega)
 by_cases hW0:W=[]
 ·rw[if_pos hW0]
  have hk:((W.length:Int)==0)=true:=by rw[hW0];rfl
  unfold docV
  rcases hsg with⟨rfl,hx0,hne,hsl,hll⟩|⟨rfl,rfl,hne,b,hx0,hbq⟩
  ·have hbq:(((45:UInt8).toNat:Int)==45)=true:=rfl
   refine fni Tryz.f20 ?_;unfold Tryz.f20;simp only[Option.get!_some]
   repeat (first|simp only[go_sem,mk_bs,bs_list,bs_size,vo_ix,idxB_bs,Option.map_some,hne,Bool.not_false,hx0,hbq,bs_extract,hsl,tt,dt,hRt,hk]|simp (disch:=first|exact oa|fail) only[AX,mk_bs,bs_list,bs_size,vo_ix,idxB_bs,Option.map_some,hne,Bool.not_false,hx0,hbq,bs_extract,hsl,tt,dt,hRt,hk]|refine wki ?_|refine wqn ?_|refine vpd 7 [] ?_|refine vf_of (by first|exact r1|exact z) ?_)
  ·refine fni Tryz.f20 ?_;unfold Tryz.f20;simp only[Option.get!_some]
   repeat (first|simp only[go_sem,mk_bs,bs_list,bs_size,vo_ix,idxB_bs,Option.map_some,hne,Bool.not_false,hx0,hbq,bs_extract,tt,dt,hRt,hk]|simp (disch:=first|exact oa|fail) only[AX,mk_bs,bs_list,bs_size,vo_ix,idxB_bs,Option.map_some,hne,Bool.not_false,hx0,hbq,bs_extract,tt,dt,hRt,hk]|refine wki ?_|refine wqn ?_|refine vpd 7 [] ?_|refine vf_of (by first|exact r1|exact z) ?_)
 ·rw[if_neg hW0]
  have hk:((W.length:Int)==0)=false:=by
   rw[beq_eq_false_iff_ne]
   have:=List.length_pos_iff.2 hW0
   omega
  have p1:=ref1_Parse hW0 (by omega) hw
  have lW:=lim_ten (natD_lt hw)
  cases R with
  |nil=>
   have o:=ref2_OfL (s:=ng) (n:=natD W) (d:=1) (by omega) (by decide)
   rw[show (natV (lim 1):SV) = .sl 1 [.int .u32 1] from rfl]at o
   unfold docV
   dsimp only
   rcases hsg with⟨rfl,hx0,hne,hsl,hll⟩|⟨rfl,rfl,hne,b,hx0,hbq⟩
   rotate_left
   have hsl:List.take 0 ([]:List UInt8)=[]:=rfl
   rotate_left
   have hbq:(((45:UInt8).toNat:Int)==45)=true:=rfl
   all_goals
    refine fni Tryz.f20 ?_;unfold Tryz.f20;simp only[Option.get!_some]
    repeat (first|simp only[go_sem,mk_bs,bs_list,bs_size,vo_ix,idxB_bs,Option.map_some,hne,Bool.not_false,hx0,hbq,bs_extract,hsl,tt,dt,hRt,hk,nil_beq]|simp (disch:=first|exact oa|fail) only[AX,mk_bs,bs_list,bs_size,vo_ix,idxB_bs,Option.map_some,hne,Bool.not_false,hx0,hbq,bs_extract,hsl,tt,dt,hRt,hk,nil_beq]|refine wki ?_|refine wqn ?_|refine vpd 7 [] ?_|refine vf_of (by first|exact r1|exact p1|exact o) ?_)
  |cons c y=>
   have hcd:=hc0 rfl
   have hRl:(c::y).length=y.length+1:=rfl
   have hR0:(c::y)[0]?=some c:=rfl
   have hRn:((c::y)==[])=false:=rfl
   have hRy:List.take y.length (List.drop 1 (c::y))=y:=List.take_of_length_le (Nat.le_refl _)
   have hRy2:List.take (y.length+1-1) (List.drop 1 (c::y))=y:=List.take_of_length_le (Nat.le_refl _)
   dsimp only
   clear hc0
   generalize (c::y)=R at *
   have hyl:y.length+1<=60:=by omega
   have r2:=ref3_run y (by omega)
   by_cases hy0:y=[]
   ·rw[if_pos (.inl hy0)]
    unfold docV
    subst hy0
    have hm0:((([]:List UInt8).takeWhile dig).length:Int)=0:=rfl
    rw[hm0]at r2
    have hm1:((0:Int)==0)=true:=rfl
    rcases hsg with⟨rfl,hx0,hne,hsl,hll⟩|⟨rfl,rfl,hne,b,hx0,hbq⟩
    rotate_left
    have hsl:List.take 0 ([]:List UInt8)=[]:=rfl
    rotate_left
    have hbq:(((45:UInt8).toNat:Int)==45)=true:=rfl
    all_goals
     refine fni Tryz.f20 ?_;unfold Tryz.f20;simp only[Option.get!_some]
     repeat (first|simp only[go_sem,mk_bs,bs_list,bs_size,vo_ix,idxB_bs,Option.map_some,hne,Bool.not_false,hx0,hbq,bs_extract,hsl,tt,dt,hRt,hk,hRn,hRl,hRy,hRy2,hm1]|simp (disch:=first|exact oa|fail) only[AX,mk_bs,bs_list,bs_size,vo_ix,idxB_bs,Option.map_some,hne,Bool.not_false,hx0,hbq,bs_extract,hsl,tt,dt,hRt,hk,hRn,hRl,hRy,hRy2,hm1]|refine wki ?_|refine wqn ?_|refine vpd 7 [] ?_|refine vf_of (by first|exact r1|exact p1|exact r2|exact z) ?_)
   cases hyd:digs y with
   |false=>
    rw[if_pos (.inr (.inl rfl))]
    unfold docV
    have hsh:=tw_short hyd
    have hle2:=tw_le (p:=dig) (l:=y)
    generalize (y.takeWhile dig).length=M at *
    by_cases hM:M=0
    ·have hm1:((M:Int)==0)=true:=by rw[hM];rfl
     rcases hsg with⟨rfl,hx0,hne,hsl,hll⟩|⟨rfl,rfl,hne,b,hx0,hbq⟩
     rotate_left
     have hsl:List.take 0 ([]:List UInt8)=[]:=rfl
     rotate_left
     have hbq:(((45:UInt8).toNat:Int)==45)=true:=rfl
     all_goals
      refine fni Tryz.f20 ?_;unfold Tryz.f20;simp only[Option.get!_some]
      repeat (first|simp only[go_sem,mk_bs,bs_list,bs_size,vo_ix,idxB_bs,Option.map_some,hne,Bool.not_false,hx0,hbq,bs_extract,hsl,tt,dt,hRt,hk,hRn,hRl,hRy,hRy2,hm1]|simp (disch:=first|exact oa|fail) only[AX,mk_bs,bs_list,bs_size,vo_ix,idxB_bs,Option.map_some,hne,Bool.not_false,hx0,hbq,bs_extract,hsl,tt,dt,hRt,hk,hRn,hRl,hRy,hRy2,hm1]|refine wki ?_|refine wqn ?_|refine vpd 7 [] ?_|refine vf_of (by first|exact r1|exact p1|exact r2|exact z) ?_)
    ·have hm1:((M:Int)==0)=false:=by rw[beq_eq_false_iff_ne];omega
     have hm2:((M:Int) != (y.length:Int))=true:=by rw[bne_iff_ne];omega
     rcases hsg with⟨rfl,hx0,hne,hsl,hll⟩|⟨rfl,rfl,hne,b,hx0,hbq⟩
     rotate_left
     have hsl:List.take 0 ([]:List UInt8)=[]:=rfl
     rotate_left
     have hbq:(((45:UInt8).toNat:Int)==45)=true:=rfl
     all_goals
      refine fni Tryz.f20 ?_;unfold Tryz.f20;simp only[Option.get!_some]
      repeat (first|simp only[go_sem,mk_bs,bs_list,bs_size,vo_ix,idxB_bs,Option.map_some,hne,Bool.not_false,hx0,hbq,bs_extract,hsl,tt,dt,hRt,hk,hRn,hRl,hRy,hRy2,hm1,hm2]|simp (disch:=first|exact oa|fail) only[AX,mk_bs,bs_list,bs_size,vo_ix,idxB_bs,Option.map_some,hne,Bool.not_false,hx0,hbq,bs_extract,hsl,tt,dt,hRt,hk,hRn,hRl,hRy,hRy2,hm1,hm2]|refine wki ?_|refine wqn ?_|refine vpd 7 [] ?_|refine vf_of (by first|exact r1|exact p1|exact r2|exact z) ?_)
   |true=>
    have hyp:=List.length_pos_iff.2 hy0
    rw[tw_all hyd]at r2
    have hm1:((y.length:Int)==0)=false:=by rw[beq_eq_false_iff_ne];omega
    have hm2:((y.length:Int) != (y.length:Int))=false:=by simp
    have p2:=ref1_Parse hy0 (by omega) hyd
    have lY:=lim_ten (natD_lt hyd)
    by_cases c46:c=46
    ·subst c46
     rw[if_neg (by
      rintro(h|h|h)
      ·exact hy0 h
      ·cases h
      ·exact h.1 rfl),if_neg (by decide)]
     have hq1:(((46:UInt8).toNat:Int) != 46)=false:=rfl
     have hq2:(((46:UInt8).toNat:Int)==47)=false:=rfl
     have tn:=ref3_ten y.length (by omega)
     have lT:(lim (10^y.length)).length<=61:=by
      have:=pow_lim (k:=y.length)
      omega
     have lM:(lim (natD W*10^y.length)).length<=400:=by
      have h1:=natD_lt hw
      have:natD W*10^y.length<10^(W.length+y.length):=by
       rw[Nat.pow_add]
       exact Nat.mul_lt_mul_of_pos_right h1 (Nat.pow_pos (by omega))
      have:=lim_ten this
      omega
     have lA:(lim (natD W*10^y.length+natD y)).length<=400:=by
      have:natD (W++y)<10^(W++y).length:=natD_lt (by rw[digs_appD,hw,hyd];rfl)
      rw[natD_append,List.length_append]at this
      have:=lim_ten this
      omega
     have mm:=ref1_MulL (N:=natD W) (D:=10^y.length) (by omega) (by omega)
     have aa:=ref1_AddL (N:=natD W*10^y.length) (D:=natD y) (by omega) (by omega)
     have o:=ref2_OfL (s:=ng) (n:=natD W*10^y.length+natD y) (d:=10^y.length) (by omega) (by omega)
     unfold docV
     dsimp only
     generalize natD W*10^y.length+natD y=V at *
     generalize natD W*10^y.length=U at *
     generalize 10^y.length=T at *
     rcases hsg with⟨rfl,hx0,hne,hsl,hll⟩|⟨rfl,rfl,hne,b,hx0,hbq⟩
     rotate_left
     have hsl:List.take 0 ([]:List UInt8)=[]:=rfl
     rotate_left
     have hbq:(((45:UInt8).toNat:Int)==45)=true:=rfl
     all_goals
      refine fni Tryz.f20 ?_;unfold Tryz.f20;simp only[Option.get!_some]
      repeat (first|simp only[go_sem,mk_bs,bs_list,bs_size,vo_ix,idxB_bs,Option.map_some,hne,Bool.not_false,hx0,hbq,bs_extract,hsl,tt,dt,hRt,hk,hRn,hRl,hRy,hRy2,hm1,hm2,hR0,hq1,hq2]|simp (disch:=first|exact oa|fail) only[AX,mk_bs,bs_list,bs_size,vo_ix,idxB_bs,Option.map_some,hne,Bool.not_false,hx0,hbq,bs_extract,hsl,tt,dt,hRt,hk,hRn,hRl,hRy,hRy2,hm1,hm2,hR0,hq1,hq2]|refine wki ?_|refine wqn ?_|refine vpd 7 [] ?_|refine vf_of (by first|exact r1|exact p1|exact r2|exact p2|exact tn|exact mm|exact aa|exact o) ?_)
    ·by_cases c47:c=47
     ·subst c47
      rw[if_neg (by
       rintro(h|h|h)
       ·exact hy0 h
       ·cases h
       ·exact h.2 rfl),if_pos rfl]
      have hq1:(((47:UInt8).toNat:Int) != 46)=true:=rfl
      have hq2:(((47:UInt8).toNat:Int)==47)=true:=rfl
      have hq3:(((47:UInt8).toNat:Int) != 47)=false:=rfl
      by_cases hz:natD y=0
      ·rw[if_pos hz]
       rw[hz,natV_zero]at p2
       unfold docV
       dsimp only
       have hm3:((0:Int)==0)=true:=rfl
       rcases hsg with⟨rfl,hx0,hne,hsl,hll⟩|⟨rfl,rfl,hne,b,hx0,hbq⟩
       rotate_left
       have hsl:List.take 0 ([]:List UInt8)=[]:=rfl
       rotate_left
       have hbq:(((45:UInt8).toNat:Int)==45)=true:=rfl
       all_goals
        refine fni Tryz.f20 ?_;unfold Tryz.f20;simp only[Option.get!_some]
        repeat (first|simp only[go_sem,mk_bs,bs_list,bs_size,vo_ix,idxB_bs,Option.map_some,hne,Bool.not_false,hx0,hbq,bs_extract,hsl,tt,dt,hRt,hk,hRn,hRl,hRy,hRy2,hm1,hm2,hR0,hq1,hq2,hq3,hm3]|simp (disch:=first|exact oa|fail) only[AX,mk_bs,bs_list,bs_size,vo_ix,idxB_bs,Option.map_some,hne,Bool.not_false,hx0,hbq,bs_extract,hsl,tt,dt,hRt,hk,hRn,hRl,hRy,hRy2,hm1,hm2,hR0,hq1,hq2,hq3,hm3]|refine wki ?_|refine wqn ?_|refine vpd 7 [] ?_|refine vf_of (by first|exact r1|exact p1|exact r2|exact p2|exact z) ?_)
      ·rw[if_neg hz]
       have o:=ref2_OfL (s:=ng) (n:=natD W) (d:=natD y) (by omega) (by omega)
       unfold docV
       dsimp only
       have hm3:(((lim (natD y)).length:Int)==0)=false:=by
        rw[beq_eq_false_iff_ne]
        exact lim_ne hz
       rcases hsg with⟨rfl,hx0,hne,hsl,hll⟩|⟨rfl,rfl,hne,b,hx0,hbq⟩
       rotate_left
       have hsl:List.take 0 ([]:List UInt8)=[]:=rfl
       rotate_left
       have hbq:(((45:UInt8).toNat:Int)==45)=true:=rfl
       all_goals
        refine fni Tryz.f20 ?_;unfold Tryz.f20;simp only[Option.get!_some]
        repeat (first|simp only[go_sem,mk_bs,bs_list,bs_size,vo_ix,idxB_bs,Option.map_some,hne,Bool.not_false,hx0,hbq,bs_extract,hsl,tt,dt,hRt,hk,hRn,hRl,hRy,hRy2,hm1,hm2,hR0,hq1,hq2,hq3,hm3]|simp (disch:=first|exact oa|fail) only[AX,mk_bs,bs_list,bs_size,vo_ix,idxB_bs,Option.map_some,hne,Bool.not_false,hx0,hbq,bs_extract,hsl,tt,dt,hRt,hk,hRn,hRl,hRy,hRy2,hm1,hm2,hR0,hq1,hq2,hq3,hm3]|refine wki ?_|refine wqn ?_|refine vpd 7 [] ?_|refine vf_of (by first|exact r1|exact p1|exact r2|exact p2|exact o) ?_)
     ·rw[if_pos (.inr (.inr ⟨c46,c47⟩))]
      have hq1:((c.toNat:Int) != 46)=true:=by
       rw[bne_iff_ne]
       intro e
       exact c46 (UInt8.toNat.inj (by have:(46:UInt8).toNat=46:=rfl;omega))
      have hq3:((c.toNat:Int) != 47)=true:=by
       rw[bne_iff_ne]
       intro e
       exact c47 (UInt8.toNat.inj (by have:(47:UInt8).toNat=47:=rfl;omega))
      unfold docV
      dsimp only
      rcases hsg with⟨rfl,hx0,hne,hsl,hll⟩|⟨rfl,rfl,hne,b,hx0,hbq⟩
      rotate_left
      have hsl:List.take 0 ([]:List UInt8)=[]:=rfl
      rotate_left
      have hbq:(((45:UInt8).toNat:Int)==45)=true:=rfl
      all_goals
       refine fni Tryz.f20 ?_;unfold Tryz.f20;simp only[Option.get!_some]
       repeat (first|simp only[go_sem,mk_bs,bs_list,bs_size,vo_ix,idxB_bs,Option.map_some,hne,Bool.not_false,hx0,hbq,bs_extract,hsl,tt,dt,hRt,hk,hRn,hRl,hRy,hRy2,hm1,hm2,hR0,hq1,hq3]|simp (disch:=first|exact oa|fail) only[AX,mk_bs,bs_list,bs_size,vo_ix,idxB_bs,Option.map_some,hne,Bool.not_false,hx0,hbq,bs_extract,hsl,tt,dt,hRt,hk,hRn,hRl,hRy,hRy2,hm1,hm2,hR0,hq1,hq3]|refine wki ?_|refine wqn ?_|refine vpd 7 [] ?_|refine vf_of (by first|exact r1|exact p1|exact r2|exact z) ?_)
end Go.Proofs.YtheclpmgipiejaaGreatDoor
namespace Go.Proofs.YtheclpmgipiejaaGreatDoor
open Go.Ev
theorem front_idx {c:UInt8} : ∀ {l:List UInt8} {i:Nat},i<(frontL c l).length -> ∃b,l[i]?=some b/\b≠c:=by
 intro l i h
 obtain⟨b,h1,h2⟩:=tw_lt (p:=(· != c)) h
 exact⟨b,h1,by simpa using h2⟩
theorem front_end {c:UInt8} {l:List UInt8} (h:l.contains c=true):l[(frontL c l).length]?=some c:=by
 have key : ∀F B:List UInt8,l=F++c::B->l[F.length]?=some c:=fun F B e=>by
  rw[e,List.getElem?_append_right (Nat.le_refl _),Nat.sub_self]
  rfl
 exact key _ _ (cutL_at h)
theorem ref16_find (l:List UInt8) (c:UInt8) (hl:l.length<=1048576):Go.Ev.Fn CX 19 [.str (bs l),.int .u8 (c.toNat:Int)] (.int .i64 (if l.contains c=true then ((frontL c l).length:Int) else -1)):=by
 have hfl:(frontL c l).length<=l.length:=(List.takeWhile_sublist _).length_le
 cases hc:l.contains c with
 |true=>
  rw[if_pos rfl]
  have he:=front_end hc
  have hlt:(frontL c l).length<l.length:=by
   rcases Nat.lt_or_ge (frontL c l).length l.length with h|h
   ·exact h
   ·rw[List.getElem?_eq_none h]at he;cases he
  refine fni Tryz.f19 ?_;unfold Tryz.f19;simp only[Option.get!_some]
  repeat (first|simp only[go_sem]|simp (disch:=first|exact oa|fail) only[AX]|refine wki ?_|refine wqn ?_)
  refine vp_loop_inv (fun s=>s.tmp 0 = .sv (.str (bs l))/\s.tmp 1 = .sv (.int .u8 (c.toNat:Int)) /\ ∃i:Nat,s.tmp 5 = .sv (.int .i64 (i:Int))/\i<=(frontL c l).length)
   (fun s=>match s.tmp 5 with | .sv (.int _ i)=>(frontL c l).length-i.toNat|_=>0) ⟨rfl,rfl,0,rfl,by omega⟩ ?_
  rintro s ⟨i0,i1,i,i5,hi⟩
  by_cases hend:i=(frontL c l).length
  ·rw[<- hend]at he ⊢
   repeat (first|simp only[go_sem,i0,i1,i5,bs_size,he,vo_ix,idxB_bs,Option.map_some,beq_self_eq_true]|simp (disch:=first|exact oa|fail) only[AX,i0,i1,i5,bs_size,he,vo_ix,idxB_bs,Option.map_some,beq_self_eq_true]|refine wki ?_|refine wqn ?_)
  ·obtain⟨b,h1,h2⟩:=front_idx (c:=c) (l:=l) (i:=i) (by omega)
   have hne:((b.toNat:Int)==(c.toNat:Int))=false:=by
    rw[beq_eq_false_iff_ne]
    intro e
    apply h2
    apply UInt8.toNat.inj
    omega
   repeat (first|simp only[go_sem,i0,i1,i5,bs_size,h1,vo_ix,idxB_bs,Option.map_some,hne]|simp (disch:=first|exact oa|fail) only[AX,i0,i1,i5,bs_size,h1,vo_ix,idxB_bs,Option.map_some,hne]|refine wki ?_|refine wqn ?_)
   exact⟨⟨i+1,rfl,by omega⟩,by omega⟩
 |false=>
  rw[if_neg (by simp)]
  refine fni Tryz.f19 ?_;unfold Tryz.f19;simp only[Option.get!_some]
  repeat (first|simp only[go_sem]|simp (disch:=first|exact oa|fail) only[AX]|refine wki ?_|refine wqn ?_)
  refine vp_loop_inv (fun s=>s.tmp 0 = .sv (.str (bs l))/\s.tmp 1 = .sv (.int .u8 (c.toNat:Int)) /\ ∃i:Nat,s.tmp 5 = .sv (.int .i64 (i:Int))/\i<=l.length)
   (fun s=>match s.tmp 5 with | .sv (.int _ i)=>l.length-i.toNat|_=>0) ⟨rfl,rfl,0,rfl,by omega⟩ ?_
  rintro s ⟨i0,i1,i,i5,hi⟩
  by_cases hend:i=l.length
  ·subst hend
   repeat (first|simp only[go_sem,i0,i1,i5,bs_size]|simp (disch:=first|exact oa|fail) only[AX,i0,i1,i5,bs_size]|refine wki ?_|refine wqn ?_)
  ·obtain⟨b,hb⟩ : ∃b,l[i]?=some b:=⟨_,List.getElem?_eq_getElem (by omega)⟩
   have hne:((b.toNat:Int)==(c.toNat:Int))=false:=by
    rw[beq_eq_false_iff_ne]
    intro e
    have:b=c:=UInt8.toNat.inj (by omega)
    subst this
    rw[List.contains_iff_mem.2 (List.mem_of_getElem? hb)]at hc
    cases hc
   repeat (first|simp only[go_sem,i0,i1,i5,bs_size,hb,vo_ix,idxB_bs,Option.map_some,hne]|simp (disch:=first|exact oa|fail) only[AX,i0,i1,i5,bs_size,hb,vo_ix,idxB_bs,Option.map_some,hne]|refine wki ?_|refine wqn ?_)
   exact⟨⟨i+1,rfl,by omega⟩,by omega⟩
theorem ref3_Parse (l:List UInt8) (hl:l.length<=60):Go.Ev.Fn CX 20 [.str (bs l)] (docV (docP l)):=by
 cases l with
 |nil=>
  have r1:Go.Ev.Fn CX 48 [.str (bs [])] (.int .i64 0):=ref3_run [] (by decide)
  have e0:((0:Int)==0)=true:=rfl
  have z:=ref2_Int 0 (by omega)
  rw[show (((0:Int)):Rat)=0 by rfl]at z
  rw[show docV (docP []) = .tup [rv 0,.int .i64 2] from rfl]
  refine fni Tryz.f20 ?_;unfold Tryz.f20;simp only[Option.get!_some]
  repeat (first|simp only[go_sem,mk_bs,bs_list,bs_size,vo_ix,idxB_bs,nil_beq,Bool.not_true,bs_extract,e0]|simp (disch:=first|exact oa|fail) only[AX,mk_bs,bs_list,bs_size,vo_ix,idxB_bs,nil_beq,Bool.not_true,bs_extract,e0]|refine wki ?_|refine wqn ?_|refine vpd 7 [] ?_|refine vf_of (by first|exact r1|exact z) ?_)
 |cons b r=>
  by_cases hb:b=45
  ·subst hb
   exact ref3_body (45::r) r true hl (.inl ⟨rfl,rfl,rfl,List.take_of_length_le (Nat.le_refl _),rfl⟩)
  ·have hn:negP (b::r)=false:=by
    unfold negP
    simpa using hb
   have ha:absP (b::r)=b::r:=by
    unfold absP
    rw[hn]
    rfl
   have h:=ref3_body (b::r) (b::r) false hl (.inr ⟨rfl,rfl,rfl,b,rfl,by
    rw[beq_eq_false_iff_ne]
    intro e
    exact hb (UInt8.toNat.inj (by have:(45:UInt8).toNat=45:=rfl;omega))⟩)
   unfold docP
   rw[ha,hn]
   exact h
theorem ref16_digit (b:UInt8):Go.Ev.Fn CX 53 [.int .u8 (b.toNat:Int)] (.bool (dig b)):=by
 unfold dig
 by_cases c1:48<=b.toNat
 ·by_cases c2:b.toNat<=57
  ·rw[decide_eq_true c1,decide_eq_true c2]
   refine fni Tryz.f53 ?_;unfold Tryz.f53;simp only[Option.get!_some]
   repeat (first|simp only[go_sem]|simp (disch:=first|exact oa|fail) only[AX]|refine wki ?_|refine wqn ?_)
  ·rw[decide_eq_true c1,decide_eq_false c2]
   refine fni Tryz.f53 ?_;unfold Tryz.f53;simp only[Option.get!_some]
   repeat (first|simp only[go_sem]|simp (disch:=first|exact oa|fail) only[AX]|refine wki ?_|refine wqn ?_)
 ·rw[decide_eq_false c1]
  refine fni Tryz.f53 ?_;unfold Tryz.f53;simp only[Option.get!_some]
  repeat (first|simp only[go_sem]|simp (disch:=first|exact oa|fail) only[AX]|refine wki ?_|refine wqn ?_)
theorem ref16_ten (n:Nat) (hn:n<=60):Go.Ev.Fn CX 23 [.int .i64 (n:Int)] (rv ((10:Rat)^n)):=by
 have o1:=ref2_Int 1 (by omega)
 have o10:=ref2_Int 10 (by omega)
 rw[show (((1:Int)):Rat)=(10:Rat)^0 by rfl]at o1
 rw[show (((10:Int)):Rat)=(10:Rat) by rfl]at o10
 refine fni Tryz.f23 ?_;unfold Tryz.f23;simp only[Option.get!_some]
 repeat (first|simp only[go_sem]|simp (disch:=first|exact oa|fail) only[AX]|refine wki ?_|refine wqn ?_|refine vpd 5 [] ?_|refine vf_of (by first|exact o1) ?_)
 refine vp_loop_inv (fun s=>s.tmp 0 = .sv (.int .i64 (n:Int))/\s.tmp 2 = .ptr 2 0 0/\s.tmp 3 = .ptr 3 0 0/\s.obj 2 0=some [.bool false,.sl 0 [],.sl 0 []] /\ ∃i:Nat,s.tmp 4 = .sv (.int .i64 (i:Int))/\i<=n/\s.obj 3 0=some (rvC ((10:Rat)^i)))
  (fun s=>match s.tmp 4 with | .sv (.int _ i)=>n-i.toNat|_=>0) ⟨rfl,rfl,rfl,rfl,0,rfl,by omega,rfl⟩ ?_
 rintro s ⟨i0,i2,i3,iO,i,i4,hi,iR⟩
 unfold rvC at iR
 by_cases hend:i=n
 ·subst hend
  generalize hX:(10:Rat)^i=X at *
  repeat (first|simp only[go_sem,i0,i2,i3,iO,i4,iR]|simp (disch:=first|exact oa|fail) only[AX,i0,i2,i3,iO,i4,iR]|refine wki ?_|refine wqn ?_|refine vpd 5 [] ?_)
 ·have hz:=RatA_rv (sz_ten i (by omega))
  have hz10:=RatA_rv (sz_ten 1 (by omega))
  rw[show (10:Rat)^1=10 by rfl]at hz10
  have m:=ref2_Mul hz hz10 (by omega) (by omega) (by omega)
  have hp:(10:Rat)^i*10=(10:Rat)^(i+1):=(Rat.pow_succ _ _).symm
  rw[hp]at m
  generalize hX:(10:Rat)^i=X at *
  generalize hY:(10:Rat)^(i+1)=Y at *
  have m':Go.Ev.Fn CX 22 [.agg [.bool (decide (X.num<0)),natV (lim X.num.natAbs),natV (lim X.den)],rv 10] (rv Y):=m
  repeat (first|simp only[go_sem,i0,i2,i3,iO,i4,iR]|simp (disch:=first|exact oa|fail) only[AX,i0,i2,i3,iO,i4,iR]|refine wki ?_|refine wqn ?_|refine vpd 5 [] ?_|refine vf_of (by first|exact o10|exact m') ?_)
  exact⟨⟨i+1,rfl,by omega,by rw[hY];rfl⟩,by omega⟩
theorem u8_eq (b:UInt8) (n:Nat) (h:n<256):((b.toNat:Int)==(n:Int))=(b==UInt8.ofNat n):=by
 by_cases e:b=UInt8.ofNat n
 ·subst e
  have:(UInt8.ofNat n).toNat=n:=by simp;omega
  rw[this,beq_self_eq_true,beq_self_eq_true]
 ·rw[beq_eq_false_iff_ne.2 e,beq_eq_false_iff_ne]
  intro h2
  exact e (UInt8.toNat.inj (by have:(UInt8.ofNat n).toNat=n:=(by simp;omega);omega))
end Go.Proofs.YtheclpmgipiejaaGreatDoor
set_option maxHeartbeats 4000000
namespace Go.Proofs.YtheclpmgipiejaaGreatDoor
open Go.Ev
theorem natD_two {s:List UInt8} (hd:digs s=true) (hl:s.length<=2) (i:Nat):natD (s.take i)<100:=by
 have hdt:digs (s.take i)=true:=by unfold digs;exact List.all_eq_true.2 fun x hx=>List.all_eq_true.1 hd x (List.mem_of_mem_take hx)
 have h1:=natD_lt hdt
 have h2:(s.take i).length<=2:=by rw[List.length_take];omega
 have h3:10^(s.take i).length<=10^2:=Nat.pow_le_pow_right (by omega) h2
 omega
theorem expo_body (l s:List UInt8) (ng:Bool) (hl:l.length<=60)
  (hsg:((ng=true/\l[0]?=some 45)\/(ng=false/\l[0]?=some 43))/\(l==[])=false/\(l.drop 1).take (l.length-1)=s/\l.length=s.length+1\/(ng=false/\l=s/\(s==[])=false /\ ∃b,s[0]?=some b/\((b.toNat:Int)==45)=false/\((b.toNat:Int)==43)=false)) :
  ∃k:Int,Go.Ev.Fn CX 21 [.str (bs l)] (.tup [.int .i64 k,.bool (decide (1<=s.length)&&(decide (s.length<=2)&&(digs s&&decide (natD s<=30))))]) /\
   (1<=s.length->s.length<=2->digs s=true->k=if ng=true then - (natD s:Int) else (natD s:Int)):=by
 have pre : ∃b,l[0]?=some b/\(l==[])=false /\ ∃x y,((b.toNat:Int)==45)=x/\((b.toNat:Int)==43)=y/\(((x=true/\ng=true)\/(x=false/\y=true/\ng=false))/\(l.drop 1).take (l.length-1)=s/\l.length=s.length+1\/(x=false/\y=false/\ng=false/\l=s)):=by
  rcases hsg with⟨h1|h1,h2,h3,h4⟩|⟨h1,rfl,h2,b,h3,h4,h5⟩
  ·exact⟨45,h1.2,h2,_,_,rfl,rfl,.inl ⟨.inl ⟨rfl,h1.1⟩,h3,h4⟩⟩
  ·exact⟨43,h1.2,h2,_,_,rfl,rfl,.inl ⟨.inr ⟨rfl,rfl,h1.1⟩,h3,h4⟩⟩
  ·exact⟨b,h3,h2,_,_,rfl,rfl,.inr ⟨h4,h5,h1,rfl⟩⟩
 clear hsg
 obtain⟨b,hx0,hne,x,y,hbq,hbp,hcase⟩:=pre
 have hsl:(x=false/\y=false)\/(l.drop 1).take (l.length-1)=s:=by
  rcases hcase with⟨_,h,_⟩|⟨h1,h2,_⟩
  ·exact .inr h
  ·exact .inl ⟨h1,h2⟩
 have hls:s.length<=60:=by
  rcases hcase with⟨_,_,h⟩|⟨_,_,_,h⟩
  ·omega
  ·rw[<- h];exact hl
 by_cases c1:s.length<1
 ·refine⟨0,?_,fun h=>by omega⟩
  rw[decide_eq_false (by omega),Bool.false_and]
  rcases hcase with⟨⟨rfl,rfl⟩|⟨rfl,rfl,rfl⟩,hsl,hll⟩|⟨rfl,rfl,rfl,rfl⟩
  ·refine fni Tryz.f21 ?_;unfold Tryz.f21;simp only[Option.get!_some]
   repeat (first|simp only[go_sem,mk_bs,bs_list,bs_size,vo_ix,idxB_bs,Option.map_some,hne,Bool.not_false,hx0,hbq,hbp,bs_extract,hsl]|simp (disch:=first|exact oa|fail) only[AX,mk_bs,bs_list,bs_size,vo_ix,idxB_bs,Option.map_some,hne,Bool.not_false,hx0,hbq,hbp,bs_extract,hsl]|refine wki ?_|refine wqn ?_)
  ·refine fni Tryz.f21 ?_;unfold Tryz.f21;simp only[Option.get!_some]
   repeat (first|simp only[go_sem,mk_bs,bs_list,bs_size,vo_ix,idxB_bs,Option.map_some,hne,Bool.not_false,hx0,hbq,hbp,bs_extract,hsl]|simp (disch:=first|exact oa|fail) only[AX,mk_bs,bs_list,bs_size,vo_ix,idxB_bs,Option.map_some,hne,Bool.not_false,hx0,hbq,hbp,bs_extract,hsl]|refine wki ?_|refine wqn ?_)
  ·refine fni Tryz.f21 ?_;unfold Tryz.f21;simp only[Option.get!_some]
   repeat (first|simp only[go_sem,mk_bs,bs_list,bs_size,vo_ix,idxB_bs,Option.map_some,hne,Bool.not_false,hx0,hbq,hbp,bs_extract]|simp (disch:=first|exact oa|fail) only[AX,mk_bs,bs_list,bs_size,vo_ix,idxB_bs,Option.map_some,hne,Bool.not_false,hx0,hbq,hbp,bs_extract]|refine wki ?_|refine wqn ?_)
 by_cases c2:2<s.length
 ·refine⟨0,?_,fun _ h=>by omega⟩
  rw[decide_eq_true (by omega:1<=s.length),decide_eq_false (by omega : ¬s.length<=2),Bool.false_and,Bool.and_false]
  rcases hcase with⟨⟨rfl,rfl⟩|⟨rfl,rfl,rfl⟩,hsl,hll⟩|⟨rfl,rfl,rfl,rfl⟩
  ·refine fni Tryz.f21 ?_;unfold Tryz.f21;simp only[Option.get!_some]
   repeat (first|simp only[go_sem,mk_bs,bs_list,bs_size,vo_ix,idxB_bs,Option.map_some,hne,Bool.not_false,hx0,hbq,hbp,bs_extract,hsl]|simp (disch:=first|exact oa|fail) only[AX,mk_bs,bs_list,bs_size,vo_ix,idxB_bs,Option.map_some,hne,Bool.not_false,hx0,hbq,hbp,bs_extract,hsl]|refine wki ?_|refine wqn ?_)
  ·refine fni Tryz.f21 ?_;unfold Tryz.f21;simp only[Option.get!_some]
   repeat (first|simp only[go_sem,mk_bs,bs_list,bs_size,vo_ix,idxB_bs,Option.map_some,hne,Bool.not_false,hx0,hbq,hbp,bs_extract,hsl]|simp (disch:=first|exact oa|fail) only[AX,mk_bs,bs_list,bs_size,vo_ix,idxB_bs,Option.map_some,hne,Bool.not_false,hx0,hbq,hbp,bs_extract,hsl]|refine wki ?_|refine wqn ?_)
  ·refine fni Tryz.f21 ?_;unfold Tryz.f21;simp only[Option.get!_some]
   repeat (first|simp only[go_sem,mk_bs,bs_list,bs_size,vo_ix,idxB_bs,Option.map_some,hne,Bool.not_false,hx0,hbq,hbp,bs_extract]|simp (disch:=first|exact oa|fail) only[AX,mk_bs,bs_list,bs_size,vo_ix,idxB_bs,Option.map_some,hne,Bool.not_false,hx0,hbq,hbp,bs_extract]|refine wki ?_|refine wqn ?_)
 rw[decide_eq_true (by omega:1<=s.length),decide_eq_true (by omega:s.length<=2),Bool.true_and,Bool.true_and]
 cases hd:digs s with
 |false=>
  refine⟨0,?_,fun _ _ h=>by cases h⟩
  rw[Bool.false_and]
  have hsh:=tw_short hd
  have hle:=tw_le (p:=dig) (l:=s)
  have hbad:=(tw_end (p:=dig) (l:=s)).resolve_left hsh
  rcases hcase with⟨⟨rfl,rfl⟩|⟨rfl,rfl,rfl⟩,hsl,hll⟩|⟨rfl,rfl,rfl,rfl⟩
  ·refine fni Tryz.f21 ?_;unfold Tryz.f21;simp only[Option.get!_some]
   repeat (first|simp only[go_sem,mk_bs,bs_list,bs_size,vo_ix,idxB_bs,Option.map_some,hne,Bool.not_false,hx0,hbq,hbp,bs_extract,hsl]|simp (disch:=first|exact oa|fail) only[AX,mk_bs,bs_list,bs_size,vo_ix,idxB_bs,Option.map_some,hne,Bool.not_false,hx0,hbq,hbp,bs_extract,hsl]|refine wki ?_|refine wqn ?_)
   refine vp_loop_inv (fun st=>st.tmp 0 = .sv (.str (bs s))/\st.tmp 4 = .sv (.bool true) /\ ∃ (i:Nat) (z:Int),st.tmp 6 = .sv (.int .i64 (i:Int))/\i<=(s.takeWhile dig).length/\st.tmp 5 = .sv (.int .i64 z))
    (fun st=>match st.tmp 6 with | .sv (.int _ i)=>(s.takeWhile dig).length-i.toNat|_=>0) ⟨rfl,rfl,0,0,rfl,by omega,rfl⟩ ?_
   rintro st ⟨i0,i4,i,z,i6,hi,i5⟩
   by_cases hend:i=(s.takeWhile dig).length
   ·obtain⟨c,hc,hdc⟩:=hbad
    rw[<- hend]at hc
    have hlt:i<s.length:=by omega
    have dg:=ref16_digit c
    rw[hdc]at dg
    clear hend
    repeat (first|simp only[go_sem,i0,i4,i6,i5,bs_size,hc,vo_ix,idxB_bs,Option.map_some,Bool.not_false]|simp (disch:=first|exact oa|fail) only[AX,i0,i4,i6,i5,bs_size,hc,vo_ix,idxB_bs,Option.map_some,Bool.not_false]|refine wki ?_|refine wqn ?_|refine vf_of (by first|exact dg) ?_)
   ·obtain⟨c,hc,hdc⟩:=tw_lt (p:=dig) (l:=s) (i:=i) (by omega)
    have dg:=ref16_digit c
    rw[hdc]at dg
    repeat (first|simp only[go_sem,i0,i4,i6,i5,bs_size,hc,vo_ix,idxB_bs,Option.map_some,Bool.not_true]|simp (disch:=first|exact oa|fail) only[AX,i0,i4,i6,i5,bs_size,hc,vo_ix,idxB_bs,Option.map_some,Bool.not_true]|refine wki ?_|refine wqn ?_|refine vf_of (by first|exact dg) ?_)
    exact⟨⟨i+1,_,rfl,by omega,rfl⟩,by omega⟩
  ·refine fni Tryz.f21 ?_;unfold Tryz.f21;simp only[Option.get!_some]
   repeat (first|simp only[go_sem,mk_bs,bs_list,bs_size,vo_ix,idxB_bs,Option.map_some,hne,Bool.not_false,hx0,hbq,hbp,bs_extract,hsl]|simp (disch:=first|exact oa|fail) only[AX,mk_bs,bs_list,bs_size,vo_ix,idxB_bs,Option.map_some,hne,Bool.not_false,hx0,hbq,hbp,bs_extract,hsl]|refine wki ?_|refine wqn ?_)
   refine vp_loop_inv (fun st=>st.tmp 0 = .sv (.str (bs s))/\st.tmp 4 = .sv (.bool false) /\ ∃ (i:Nat) (z:Int),st.tmp 6 = .sv (.int .i64 (i:Int))/\i<=(s.takeWhile dig).length/\st.tmp 5 = .sv (.int .i64 z))
    (fun st=>match st.tmp 6 with | .sv (.int _ i)=>(s.takeWhile dig).length-i.toNat|_=>0) ⟨rfl,rfl,0,0,rfl,by omega,rfl⟩ ?_
   rintro st ⟨i0,i4,i,z,i6,hi,i5⟩
   by_cases hend:i=(s.takeWhile dig).length
   ·obtain⟨c,hc,hdc⟩:=hbad
    rw[<- hend]at hc
    have hlt:i<s.length:=by omega
    have dg:=ref16_digit c
    rw[hdc]at dg
    clear hend
    repeat (first|simp only[go_sem,i0,i4,i6,i5,bs_size,hc,vo_ix,idxB_bs,Option.map_some,Bool.not_false]|simp (disch:=first|exact oa|fail) only[AX,i0,i4,i6,i5,bs_size,hc,vo_ix,idxB_bs,Option.map_some,Bool.not_false]|refine wki ?_|refine wqn ?_|refine vf_of (by first|exact dg) ?_)
   ·obtain⟨c,hc,hdc⟩:=tw_lt (p:=dig) (l:=s) (i:=i) (by omega)
    have dg:=ref16_digit c
    rw[hdc]at dg
    repeat (first|simp only[go_sem,i0,i4,i6,i5,bs_size,hc,vo_ix,idxB_bs,Option.map_some,Bool.not_true]|simp (disch:=first|exact oa|fail) only[AX,i0,i4,i6,i5,bs_size,hc,vo_ix,idxB_bs,Option.map_some,Bool.not_true]|refine wki ?_|refine wqn ?_|refine vf_of (by first|exact dg) ?_)
    exact⟨⟨i+1,_,rfl,by omega,rfl⟩,by omega⟩
  ·refine fni Tryz.f21 ?_;unfold Tryz.f21;simp only[Option.get!_some]
   repeat (first|simp only[go_sem,mk_bs,bs_list,bs_size,vo_ix,idxB_bs,Option.map_some,hne,Bool.not_false,hx0,hbq,hbp,bs_extract]|simp (disch:=first|exact oa|fail) only[AX,mk_bs,bs_list,bs_size,vo_ix,idxB_bs,Option.map_some,hne,Bool.not_false,hx0,hbq,hbp,bs_extract]|refine wki ?_|refine wqn ?_)
   refine vp_loop_inv (fun st=>st.tmp 0 = .sv (.str (bs l))/\st.tmp 4 = .sv (.bool false) /\ ∃ (i:Nat) (z:Int),st.tmp 6 = .sv (.int .i64 (i:Int))/\i<=(l.takeWhile dig).length/\st.tmp 5 = .sv (.int .i64 z))
    (fun st=>match st.tmp 6 with | .sv (.int _ i)=>(l.takeWhile dig).length-i.toNat|_=>0) ⟨rfl,rfl,0,0,rfl,by omega,rfl⟩ ?_
   rintro st ⟨i0,i4,i,z,i6,hi,i5⟩
   by_cases hend:i=(l.takeWhile dig).length
   ·obtain⟨c,hc,hdc⟩:=hbad
    rw[<- hend]at hc
    have hlt:i<l.length:=by omega
    have dg:=ref16_digit c
    rw[hdc]at dg
    clear hend
    repeat (first|simp only[go_sem,i0,i4,i6,i5,bs_size,hc,vo_ix,idxB_bs,Option.map_some,Bool.not_false]|simp (disch:=first|exact oa|fail) only[AX,i0,i4,i6,i5,bs_size,hc,vo_ix,idxB_bs,Option.map_some,Bool.not_false]|refine wki ?_|refine wqn ?_|refine vf_of (by first|exact dg) ?_)
   ·obtain⟨c,hc,hdc⟩:=tw_lt (p:=dig) (l:=l) (i:=i) (by omega)
    have dg:=ref16_digit c
    rw[hdc]at dg
    repeat (first|simp only[go_sem,i0,i4,i6,i5,bs_size,hc,vo_ix,idxB_bs,Option.map_some,Bool.not_true]|simp (disch:=first|exact oa|fail) only[AX,i0,i4,i6,i5,bs_size,hc,vo_ix,idxB_bs,Option.map_some,Bool.not_true]|refine wki ?_|refine wqn ?_|refine vf_of (by first|exact dg) ?_)
    exact⟨⟨i+1,_,rfl,by omega,rfl⟩,by omega⟩
 |true=>
  refine⟨if ng=true then - (natD s:Int) else (natD s:Int),?_,fun _ _ _=>rfl⟩
  rw[Bool.true_and]
  rcases hcase with⟨⟨rfl,rfl⟩|⟨rfl,rfl,rfl⟩,hsl,hll⟩|⟨rfl,rfl,rfl,rfl⟩
  ·refine fni Tryz.f21 ?_;unfold Tryz.f21;simp only[Option.get!_some]
   repeat (first|simp only[go_sem,mk_bs,bs_list,bs_size,vo_ix,idxB_bs,Option.map_some,hne,Bool.not_false,hx0,hbq,hbp,bs_extract,hsl]|simp (disch:=first|exact oa|fail) only[AX,mk_bs,bs_list,bs_size,vo_ix,idxB_bs,Option.map_some,hne,Bool.not_false,hx0,hbq,hbp,bs_extract,hsl]|refine wki ?_|refine wqn ?_)
   refine vp_loop_inv (fun st=>st.tmp 0 = .sv (.str (bs s))/\st.tmp 4 = .sv (.bool true) /\ ∃i:Nat,st.tmp 6 = .sv (.int .i64 (i:Int))/\i<=s.length/\st.tmp 5 = .sv (.int .i64 (natD (s.take i):Int)))
    (fun st=>match st.tmp 6 with | .sv (.int _ i)=>s.length-i.toNat|_=>0) ⟨rfl,rfl,0,rfl,by omega,rfl⟩ ?_
   rintro st ⟨i0,i4,i,i6,hi,i5⟩
   have hN:=natD_two hd (by omega) i
   by_cases hend:i=s.length
   ·subst hend
    rw[List.take_length]at i5 hN
    generalize natD s=N at *
    have hDec:decide ((N:Int)<=30)=decide (N<=30):=by rw[decide_eq_decide];omega
    repeat (first|simp only[go_sem,i0,i4,i6,i5,bs_size]|simp (disch:=first|exact oa|fail) only[AX,i0,i4,i6,i5,bs_size]|refine wki ?_|refine wqn ?_)
    exact⟨by rw[Int.zero_sub],by rw[hDec]⟩
   ·obtain⟨c,hc⟩ : ∃c,s[i]?=some c:=⟨_,List.getElem?_eq_getElem (by omega)⟩
    have hdc:dig c=true:=digs_mem hd (List.mem_of_getElem? hc)
    have dg:=ref16_digit c
    rw[hdc]at dg
    have hsn:=natD_take_succ hc
    unfold dig at hdc
    simp only[Bool.and_eq_true,decide_eq_true_eq]at hdc
    generalize natD (s.take i)=N at *
    generalize hMe:natD (s.take (i+1))=M at *
    have hM:(10*(N:Int)+(c.toNat:Int)-48)=(M:Int):=by omega
    repeat (first|simp only[go_sem,i0,i4,i6,i5,bs_size,hc,vo_ix,idxB_bs,Option.map_some,Bool.not_true,hM]|simp (disch:=first|exact oa|fail) only[AX,i0,i4,i6,i5,bs_size,hc,vo_ix,idxB_bs,Option.map_some,Bool.not_true,hM]|refine wki ?_|refine wqn ?_|refine vf_of (by first|exact dg) ?_)
    exact⟨⟨i+1,rfl,by omega,by rw[hMe]⟩,by omega⟩
  ·refine fni Tryz.f21 ?_;unfold Tryz.f21;simp only[Option.get!_some]
   repeat (first|simp only[go_sem,mk_bs,bs_list,bs_size,vo_ix,idxB_bs,Option.map_some,hne,Bool.not_false,hx0,hbq,hbp,bs_extract,hsl]|simp (disch:=first|exact oa|fail) only[AX,mk_bs,bs_list,bs_size,vo_ix,idxB_bs,Option.map_some,hne,Bool.not_false,hx0,hbq,hbp,bs_extract,hsl]|refine wki ?_|refine wqn ?_)
   refine vp_loop_inv (fun st=>st.tmp 0 = .sv (.str (bs s))/\st.tmp 4 = .sv (.bool false) /\ ∃i:Nat,st.tmp 6 = .sv (.int .i64 (i:Int))/\i<=s.length/\st.tmp 5 = .sv (.int .i64 (natD (s.take i):Int)))
    (fun st=>match st.tmp 6 with | .sv (.int _ i)=>s.length-i.toNat|_=>0) ⟨rfl,rfl,0,rfl,by omega,rfl⟩ ?_
   rintro st ⟨i0,i4,i,i6,hi,i5⟩
   have hN:=natD_two hd (by omega) i
   by_cases hend:i=s.length
   ·subst hend
    rw[List.take_length]at i5 hN
    generalize natD s=N at *
    have hDec:decide ((N:Int)<=30)=decide (N<=30):=by rw[decide_eq_decide];omega
    repeat (first|simp only[go_sem,i0,i4,i6,i5,bs_size]|simp (disch:=first|exact oa|fail) only[AX,i0,i4,i6,i5,bs_size]|refine wki ?_|refine wqn ?_)
    rw[hDec]
   ·obtain⟨c,hc⟩ : ∃c,s[i]?=some c:=⟨_,List.getElem?_eq_getElem (by omega)⟩
    have hdc:dig c=true:=digs_mem hd (List.mem_of_getElem? hc)
    have dg:=ref16_digit c
    rw[hdc]at dg
    have hsn:=natD_take_succ hc
    unfold dig at hdc
    simp only[Bool.and_eq_true,decide_eq_true_eq]at hdc
    generalize natD (s.take i)=N at *
    generalize hMe:natD (s.take (i+1))=M at *
    have hM:(10*(N:Int)+(c.toNat:Int)-48)=(M:Int):=by omega
    repeat (first|simp only[go_sem,i0,i4,i6,i5,bs_size,hc,vo_ix,idxB_bs,Option.map_some,Bool.not_true,hM]|simp (disch:=first|exact oa|fail) only[AX,i0,i4,i6,i5,bs_size,hc,vo_ix,idxB_bs,Option.map_some,Bool.not_true,hM]|refine wki ?_|refine wqn ?_|refine vf_of (by first|exact dg) ?_)
    exact⟨⟨i+1,rfl,by omega,by rw[hMe]⟩,by omega⟩
  ·refine fni Tryz.f21 ?_;unfold Tryz.f21;simp only[Option.get!_some]
   repeat (first|simp only[go_sem,mk_bs,bs_list,bs_size,vo_ix,idxB_bs,Option.map_some,hne,Bool.not_false,hx0,hbq,hbp,bs_extract]|simp (disch:=first|exact oa|fail) only[AX,mk_bs,bs_list,bs_size,vo_ix,idxB_bs,Option.map_some,hne,Bool.not_false,hx0,hbq,hbp,bs_extract]|refine wki ?_|refine wqn ?_)
   refine vp_loop_inv (fun st=>st.tmp 0 = .sv (.str (bs l))/\st.tmp 4 = .sv (.bool false) /\ ∃i:Nat,st.tmp 6 = .sv (.int .i64 (i:Int))/\i<=l.length/\st.tmp 5 = .sv (.int .i64 (natD (l.take i):Int)))
    (fun st=>match st.tmp 6 with | .sv (.int _ i)=>l.length-i.toNat|_=>0) ⟨rfl,rfl,0,rfl,by omega,rfl⟩ ?_
   rintro st ⟨i0,i4,i,i6,hi,i5⟩
   have hN:=natD_two hd (by omega) i
   by_cases hend:i=l.length
   ·subst hend
    rw[List.take_length]at i5 hN
    generalize natD l=N at *
    have hDec:decide ((N:Int)<=30)=decide (N<=30):=by rw[decide_eq_decide];omega
    repeat (first|simp only[go_sem,i0,i4,i6,i5,bs_size]|simp (disch:=first|exact oa|fail) only[AX,i0,i4,i6,i5,bs_size]|refine wki ?_|refine wqn ?_)
    rw[hDec]
   ·obtain⟨c,hc⟩ : ∃c,l[i]?=some c:=⟨_,List.getElem?_eq_getElem (by omega)⟩
    have hdc:dig c=true:=digs_mem hd (List.mem_of_getElem? hc)
    have dg:=ref16_digit c
    rw[hdc]at dg
    have hsn:=natD_take_succ hc
    unfold dig at hdc
    simp only[Bool.and_eq_true,decide_eq_true_eq]at hdc
    generalize natD (l.take i)=N at *
    generalize hMe:natD (l.take (i+1))=M at *
    have hM:(10*(N:Int)+(c.toNat:Int)-48)=(M:Int):=by omega
    repeat (first|simp only[go_sem,i0,i4,i6,i5,bs_size,hc,vo_ix,idxB_bs,Option.map_some,Bool.not_true,hM]|simp (disch:=first|exact oa|fail) only[AX,i0,i4,i6,i5,bs_size,hc,vo_ix,idxB_bs,Option.map_some,Bool.not_true,hM]|refine wki ?_|refine wqn ?_|refine vf_of (by first|exact dg) ?_)
    exact⟨⟨i+1,rfl,by omega,by rw[hMe]⟩,by omega⟩
theorem ref16_expo (l:List UInt8) (hl:l.length<=60) : ∃k:Int,Go.Ev.Fn CX 21 [.str (bs l)] (.tup [.int .i64 k,.bool (docE l).isSome]) /\ ∀v,docE l=some v->k=v:=by
 have fin : ∀s:List UInt8,tailPM l=s -> ∀ng:Bool,(decide (l.head?=some 45))=ng->(∃k:Int,Go.Ev.Fn CX 21 [.str (bs l)] (.tup [.int .i64 k,.bool (decide (1<=s.length)&&(decide (s.length<=2)&&(digs s&&decide (natD s<=30))))]) /\
   (1<=s.length->s.length<=2->digs s=true->k=if ng=true then - (natD s:Int) else (natD s:Int))) ->
   ∃k:Int,Go.Ev.Fn CX 21 [.str (bs l)] (.tup [.int .i64 k,.bool (docE l).isSome]) /\ ∀v,docE l=some v->k=v:=by
  intro s hs ng hng h
  obtain⟨k,h1,h2⟩:=h
  refine⟨k,?_,?_⟩
  ·have e:(docE l).isSome=(decide (1<=s.length)&&(decide (s.length<=2)&&(digs s&&decide (natD s<=30)))):=by
    unfold docE
    rw[hs]
    by_cases c1:s.length<1
    ·rw[if_pos (.inl c1),decide_eq_false (by omega : ¬1<=s.length)]
     rfl
    by_cases c2:s.length>2
    ·rw[if_pos (.inr (.inl c2)),decide_eq_false (by omega : ¬s.length<=2),Bool.false_and,Bool.and_false]
     rfl
    rw[decide_eq_true (by omega:1<=s.length),decide_eq_true (by omega:s.length<=2),Bool.true_and,Bool.true_and]
    cases hd:digs s with
    |false=>rw[if_pos (.inr (.inr rfl))];rfl
    |true=>
     rw[if_neg (by
      rintro(h|h|h)
      ·exact c1 h
      ·exact c2 h
      ·cases h),Bool.true_and]
     by_cases c3:natD s<=30
     ·rw[if_pos c3,decide_eq_true c3];rfl
     ·rw[if_neg c3,decide_eq_false c3];rfl
   rw[e]
   exact h1
  ·intro v hv
   unfold docE at hv
   rw[hs]at hv
   split at hv
   ·cases hv
   ·rename_i hc
    split at hv
    ·cases hv
     have hd:digs s=true:=by
      cases e:digs s with
      |true=>rfl
      |false=>exact absurd (.inr (.inr e)) hc
     rw[h2 (by
      rcases Nat.lt_or_ge s.length 1 with h|h
      ·exact absurd (.inl h) hc
      ·exact h) (by
      rcases Nat.lt_or_ge 2 s.length with h|h
      ·exact absurd (.inr (.inl h)) hc
      ·exact h) hd]
     by_cases e:l.head?=some 45
     ·rw[decide_eq_true e]at hng
      rw[<- hng,if_pos rfl,if_pos e]
     ·rw[decide_eq_false e]at hng
      rw[<- hng,if_neg (by simp),if_neg e]
    ·cases hv
 cases l with
 |nil=>
  refine⟨0,?_,fun v hv=>by cases hv⟩
  rw[show (docE []).isSome=false from rfl]
  refine fni Tryz.f21 ?_;unfold Tryz.f21;simp only[Option.get!_some]
  repeat (first|simp only[go_sem,mk_bs,bs_list,bs_size,nil_beq,Bool.not_true]|simp (disch:=first|exact oa|fail) only[AX,mk_bs,bs_list,bs_size,nil_beq,Bool.not_true]|refine wki ?_|refine wqn ?_)
 |cons c r=>
  by_cases h45:c=45
  ·subst h45
   exact fin r rfl true rfl (expo_body (45::r) r true hl (.inl ⟨.inl ⟨rfl,rfl⟩,rfl,List.take_of_length_le (Nat.le_refl _),rfl⟩))
  ·by_cases h43:c=43
   ·subst h43
    exact fin r rfl false rfl (expo_body (43::r) r false hl (.inl ⟨.inr ⟨rfl,rfl⟩,rfl,List.take_of_length_le (Nat.le_refl _),rfl⟩))
   ·have ht:tailPM (c::r)=c::r:=by
     unfold tailPM
     rw[if_neg]
     simp[h45,h43]
    refine fin (c::r) ht false (decide_eq_false (by simpa using h45)) (expo_body (c::r) (c::r) false hl (.inr ⟨rfl,rfl,rfl,c,rfl,?_,?_⟩))
    ·exact(u8_eq c 45 (by omega)).trans (beq_eq_false_iff_ne.2 h45)
    ·exact(u8_eq c 43 (by omega)).trans (beq_eq_false_iff_ne.2 h43)
end Go.Proofs.YtheclpmgipiejaaGreatDoor
set_option maxHeartbeats 4000000
namespace Go.Proofs.YtheclpmgipiejaaGreatDoor
open Go.Ev
theorem doc_exp_le {l:List UInt8} {v:Int} (h:docE l=some v):v.natAbs<=30:=by
 unfold docE at h
 split at h
 ·cases h
 ·split at h
  ·rename_i hn
   cases h
   split<;>omega
  ·cases h
theorem ref16_Number (l:List UInt8) (hl:l.length<=100000):Go.Ev.Fn CX 12 [.str (bs l)] (.tup [rv (numP l).2,.int .i64 ((numP l).1:Int)]):=by
 have z:=ref2_Int 0 (by omega)
 rw[show (((0:Int)):Rat)=0 by rfl]at z
 rw[doc_num]
 by_cases h60:60<l.length
 ·have e:docN l=(3,0):=by unfold docN;rw[if_pos h60]
  rw[e]
  unfold rv ratV at z ⊢
  refine fni Tryz.f12 ?_;unfold Tryz.f12;simp only[Option.get!_some]
  repeat (first|simp only[go_sem,bs_size]|simp (disch:=first|exact oa|fail) only[AX,bs_size]|refine wki ?_|refine wqn ?_|refine vpd 13 [] ?_|refine vpd 14 [] ?_|refine vf_of (by first|exact z) ?_)
  rfl
 have fd:=ref16_find l 101 (by omega)
 cases h101:l.contains 101 with
 |false=>
  rw[h101,if_neg (by simp)]at fd
  have p:=ref3_Parse l (by omega)
  cases hd:docP l with
  |some q=>
   have e:docN l=(0,q):=by unfold docN;rw[if_neg h60,h101,hd];rfl
   rw[e]
   rw[hd]at p
   unfold docV at p
   dsimp only at p
   unfold rv ratV at z p ⊢
   refine fni Tryz.f12 ?_;unfold Tryz.f12;simp only[Option.get!_some]
   repeat (first|simp only[go_sem,bs_size]|simp (disch:=first|exact oa|fail) only[AX,bs_size]|refine wki ?_|refine wqn ?_|refine vpd 13 [] ?_|refine vpd 14 [] ?_|refine vf_of (by first|exact z|exact fd|exact p) ?_)
   rfl
  |none=>
   have e:docN l=(2,0):=by unfold docN;rw[if_neg h60,h101,hd];rfl
   rw[e]
   rw[hd]at p
   unfold docV at p
   dsimp only at p
   unfold rv ratV at z p ⊢
   refine fni Tryz.f12 ?_;unfold Tryz.f12;simp only[Option.get!_some]
   repeat (first|simp only[go_sem,bs_size]|simp (disch:=first|exact oa|fail) only[AX,bs_size]|refine wki ?_|refine wqn ?_|refine vpd 13 [] ?_|refine vpd 14 [] ?_|refine vf_of (by first|exact z|exact fd|exact p) ?_)
   rfl
 |true=>
  rw[h101,if_pos rfl]at fd
  have hcut:=cutL_at h101
  have hll:l.length=(frontL 101 l).length+((backL 101 l).length+1):=by
   have:=congrArg List.length hcut
   rw[List.length_append,List.length_cons]at this
   exact this
  have hT:List.take (frontL 101 l).length l=frontL 101 l:=by
   have key : ∀F B:List UInt8,l=F++101::B->List.take F.length l=F:=fun F B e=>by rw[e,List.take_left]
   exact key _ _ hcut
  have hB:List.drop ((frontL 101 l).length+1) l=backL 101 l:=by
   have key : ∀F B:List UInt8,l=F++101::B->List.drop (F.length+1) l=B:=fun F B e=>by
    rw[e,<- List.drop_drop,List.drop_left]
    rfl
   exact key _ _ hcut
  have hB2:List.take (l.length-((frontL 101 l).length+1)) (backL 101 l)=backL 101 l:=List.take_of_length_le (by omega)
  have p:=ref3_Parse (frontL 101 l) (by omega)
  obtain⟨k,ex,hk⟩:=ref16_expo (backL 101 l) (by omega)
  have f47:=ref16_find l 47 (by omega)
  have hN:docN l=(match docP (frontL 101 l),docE (backL 101 l) with
   |some q,some k=>if l.contains 47 then (2,0) else (0,q*tenR k)
   |_,_=>(2,0)):=by unfold docN;rw[if_neg h60,h101];rfl
  rw[hN]
  clear hN hcut
  have hsz : ∀q,docP (frontL 101 l)=some q->szR q 401:=fun q h=>szR_decP (l:=frontL 101 l) (by rw[doc_dec (by omega)];exact h) (by omega)
  have hkl : ∀v,docE (backL 101 l)=some v->v.natAbs<=30:=fun v=>doc_exp_le
  generalize frontL 101 l=F at *
  generalize backL 101 l=B at *
  cases hd:docP F with
  |none=>
   rw[hd]at p
   unfold docV at p
   dsimp only at p ⊢
   generalize (docE B).isSome=bb at *
   generalize (if l.contains 47=true then ((frontL 47 l).length:Int) else -1)=f at *
   unfold rv ratV at z p ⊢
   refine fni Tryz.f12 ?_;unfold Tryz.f12;simp only[Option.get!_some]
   repeat (first|simp only[go_sem,bs_size,bs_extract,hT,hB,hB2]|simp (disch:=first|exact oa|fail) only[AX,bs_size,bs_extract,hT,hB,hB2]|refine wki ?_|refine wqn ?_|refine vpd 13 [] ?_|refine vpd 14 [] ?_|refine vf_of (by first|exact z|exact fd|exact p|exact ex) ?_)
   rfl
  |some q=>
   rw[hd]at p
   unfold docV at p
   dsimp only at p
   have hq:=RatA_rv (hsz q hd)
   cases hx:docE B with
   |none=>
    rw[hx]at ex
    dsimp only[Option.isSome_none]at ex ⊢
    generalize (if l.contains 47=true then ((frontL 47 l).length:Int) else -1)=f at *
    unfold rv ratV at z p ⊢
    refine fni Tryz.f12 ?_;unfold Tryz.f12;simp only[Option.get!_some]
    repeat (first|simp only[go_sem,bs_size,bs_extract,hT,hB,hB2,Bool.not_false]|simp (disch:=first|exact oa|fail) only[AX,bs_size,bs_extract,hT,hB,hB2,Bool.not_false]|refine wki ?_|refine wqn ?_|refine vpd 13 [] ?_|refine vpd 14 [] ?_|refine vf_of (by first|exact z|exact fd|exact p|exact ex) ?_)
    rfl
   |some v=>
    have hkv:=hk v hx
    subst hkv
    have h30:=hkl k hx
    rw[hx]at ex
    dsimp only[Option.isSome_some]at ex ⊢
    cases h47:l.contains 47 with
    |true=>
     rw[h47,if_pos rfl]at f47
     rw[if_pos rfl]
     unfold rv ratV at z p ⊢
     refine fni Tryz.f12 ?_;unfold Tryz.f12;simp only[Option.get!_some]
     repeat (first|simp only[go_sem,bs_size,bs_extract,hT,hB,hB2,Bool.not_true]|simp (disch:=first|exact oa|fail) only[AX,bs_size,bs_extract,hT,hB,hB2,Bool.not_true]|refine wki ?_|refine wqn ?_|refine vpd 13 [] ?_|refine vpd 14 [] ?_|refine vf_of (by first|exact z|exact fd|exact p|exact ex|exact f47) ?_)
     rfl
    |false=>
     rw[h47,if_neg (by simp)]at f47
     rw[if_neg (by simp)]
     have tn:=ref16_ten k.natAbs (by omega)
     have ht:=RatA_rv (sz_ten k.natAbs (by omega))
     by_cases hneg:k<0
     ·have e5:tenR k=1/(10:Rat)^k.natAbs:=by unfold tenR;rw[if_pos hneg]
      have e6:q/(10:Rat)^k.natAbs=q*tenR k:=by rw[e5,Rat.div_def,Rat.div_def,Rat.one_mul]
      have dv:=ref2_Div hq ht (by omega) (by omega) (by omega)
      rw[e6]at dv
      have e7:(k.natAbs:Int)=0-k:=by omega
      rw[e7]at tn
      generalize q*tenR k=r at *
      generalize (10:Rat)^k.natAbs=T at *
      unfold rv ratV at z p dv ⊢
      refine fni Tryz.f12 ?_;unfold Tryz.f12;simp only[Option.get!_some]
      repeat (first|simp only[go_sem,bs_size,bs_extract,hT,hB,hB2,Bool.not_true]|simp (disch:=first|exact oa|fail) only[AX,bs_size,bs_extract,hT,hB,hB2,Bool.not_true]|refine wki ?_|refine wqn ?_|refine vpd 13 [] ?_|refine vpd 14 [] ?_|refine vf_of (by first|exact z|exact fd|exact p|exact ex|exact f47) ?_)
      repeat (first|simp only[go_sem,rv,ratV]|simp (disch:=first|exact oa|fail) only[AX,rv,ratV]|refine wki ?_|refine wqn ?_|refine vpd 13 [] ?_|refine vpd 14 [] ?_|refine vf_of (by first|exact tn|exact dv) ?_)
      rfl
     ·have e5:tenR k=(10:Rat)^k.natAbs:=by unfold tenR;rw[if_neg hneg]
      have m:=ref2_Mul hq ht (by omega) (by omega) (by omega)
      rw[<- e5]at m tn
      have e7:(k.natAbs:Int)=k:=by omega
      rw[e7]at tn
      generalize hX:q*tenR k=r at *
      generalize tenR k=T at *
      unfold rv ratV at z p m ⊢
      refine fni Tryz.f12 ?_;unfold Tryz.f12;simp only[Option.get!_some]
      repeat (first|simp only[go_sem,bs_size,bs_extract,hT,hB,hB2,Bool.not_true]|simp (disch:=first|exact oa|fail) only[AX,bs_size,bs_extract,hT,hB,hB2,Bool.not_true]|refine wki ?_|refine wqn ?_|refine vpd 13 [] ?_|refine vpd 14 [] ?_|refine vf_of (by first|exact z|exact fd|exact p|exact ex|exact f47) ?_)
      repeat (first|simp only[go_sem,rv,ratV]|simp (disch:=first|exact oa|fail) only[AX,rv,ratV]|refine wki ?_|refine wqn ?_|refine vpd 13 [] ?_|refine vpd 14 [] ?_|refine vf_of (by first|exact tn|exact m) ?_)
      rfl
end Go.Proofs.YtheclpmgipiejaaGreatDoor
set_option maxHeartbeats 4000000
namespace Go.Proofs.YtheclpmgipiejaaGreatDoor
open Go.Ev
theorem dig_yes {c:UInt8} (h:dig c=true):decide ((c.toNat:Int)<48)=false/\decide (57<(c.toNat:Int))=false:=by
 unfold dig at h
 simp only[Bool.and_eq_true,decide_eq_true_eq]at h
 exact⟨decide_eq_false (by omega),decide_eq_false (by omega)⟩
theorem dig_not {c:UInt8} (h:dig c=false):decide ((c.toNat:Int)<48)=true\/decide ((c.toNat:Int)<48)=false/\decide (57<(c.toNat:Int))=true:=by
 by_cases h1:(c.toNat:Int)<48
 ·exact .inl (decide_eq_true h1)
 ·refine .inr ⟨decide_eq_false h1,decide_eq_true ?_⟩
  by_cases h2:57<(c.toNat:Int)
  ·exact h2
  ·have:dig c=true:=by
    unfold dig
    simp only[Bool.and_eq_true,decide_eq_true_eq]
    omega
   rw[this]at h
   cases h
theorem natD_six {s:List UInt8} (hd:digs s=true) (hl:s.length<=6) (i:Nat):natD (s.take i)<1000000:=by
 have hdt:digs (s.take i)=true:=by unfold digs;exact List.all_eq_true.2 fun x hx=>List.all_eq_true.1 hd x (List.mem_of_mem_take hx)
 have h1:=natD_lt hdt
 have h2:(s.take i).length<=6:=by rw[List.length_take];omega
 have h3:10^(s.take i).length<=10^6:=Nat.pow_le_pow_right (by omega) h2
 omega
theorem num_body (l s:List UInt8) (b:UInt8) (ng:Bool) (hl:l.length<=100000) (hx0:l[0]?=some b) (hne:(l==[])=false) (hb:((b.toNat:Int)==45)=ng)
  (hcase:ng=true/\(l.drop 1).take (l.length-1)=s/\l.length=s.length+1\/ng=false/\l=s) :
  Go.Ev.Fn CX 11 [.str (bs l)] (if s.length<1\/6<s.length\/digs s=false then .tup [.int .i64 0,.bool false] else .tup [.int .i64 (if ng=true then - (natD s:Int) else (natD s:Int)),.bool true]):=by
 have hls:s.length<=100000:=by
  rcases hcase with⟨_,_,h⟩|⟨_,h⟩
  ·omega
  ·rw[<- h];exact hl
 by_cases c1:s.length<1\/6<s.length
 ·rw[if_pos (by omega)]
  rcases hcase with⟨rfl,hsl,hll⟩|⟨rfl,rfl⟩
  ·by_cases c2:s.length<1
   ·refine fni Tryz.f11 ?_;unfold Tryz.f11;simp only[Option.get!_some]
    repeat (first|simp only[go_sem,bs_list,bs_size,vo_ix,idxB_bs,Option.map_some,hne,Bool.not_false,hx0,hb,bs_extract,mk_bs,hsl]|simp (disch:=first|exact oa|fail) only[AX,bs_list,bs_size,vo_ix,idxB_bs,Option.map_some,hne,Bool.not_false,hx0,hb,bs_extract,mk_bs,hsl]|refine wki ?_|refine wqn ?_)
   ·refine fni Tryz.f11 ?_;unfold Tryz.f11;simp only[Option.get!_some]
    repeat (first|simp only[go_sem,bs_list,bs_size,vo_ix,idxB_bs,Option.map_some,hne,Bool.not_false,hx0,hb,bs_extract,mk_bs,hsl]|simp (disch:=first|exact oa|fail) only[AX,bs_list,bs_size,vo_ix,idxB_bs,Option.map_some,hne,Bool.not_false,hx0,hb,bs_extract,mk_bs,hsl]|refine wki ?_|refine wqn ?_)
  ·by_cases c2:l.length<1
   ·refine fni Tryz.f11 ?_;unfold Tryz.f11;simp only[Option.get!_some]
    repeat (first|simp only[go_sem,bs_list,bs_size,vo_ix,idxB_bs,Option.map_some,hne,Bool.not_false,hx0,hb,bs_extract,mk_bs]|simp (disch:=first|exact oa|fail) only[AX,bs_list,bs_size,vo_ix,idxB_bs,Option.map_some,hne,Bool.not_false,hx0,hb,bs_extract,mk_bs]|refine wki ?_|refine wqn ?_)
   ·refine fni Tryz.f11 ?_;unfold Tryz.f11;simp only[Option.get!_some]
    repeat (first|simp only[go_sem,bs_list,bs_size,vo_ix,idxB_bs,Option.map_some,hne,Bool.not_false,hx0,hb,bs_extract,mk_bs]|simp (disch:=first|exact oa|fail) only[AX,bs_list,bs_size,vo_ix,idxB_bs,Option.map_some,hne,Bool.not_false,hx0,hb,bs_extract,mk_bs]|refine wki ?_|refine wqn ?_)
 cases hd:digs s with
 |false=>
  rw[if_pos (.inr (.inr rfl))]
  have hsh:=tw_short hd
  have hle:=tw_le (p:=dig) (l:=s)
  have hbad:=(tw_end (p:=dig) (l:=s)).resolve_left hsh
  rcases hcase with⟨rfl,hsl,hll⟩|⟨rfl,rfl⟩
  ·refine fni Tryz.f11 ?_;unfold Tryz.f11;simp only[Option.get!_some]
   repeat (first|simp only[go_sem,bs_list,bs_size,vo_ix,idxB_bs,Option.map_some,hne,Bool.not_false,hx0,hb,bs_extract,mk_bs,hsl]|simp (disch:=first|exact oa|fail) only[AX,bs_list,bs_size,vo_ix,idxB_bs,Option.map_some,hne,Bool.not_false,hx0,hb,bs_extract,mk_bs,hsl]|refine wki ?_|refine wqn ?_)
   refine vp_loop_inv (fun st=>st.tmp 0 = .sv (.str (bs s))/\st.tmp 4 = .sv (.bool true) /\ ∃ (i:Nat) (z:Int),st.tmp 6 = .sv (.int .i64 (i:Int))/\i<=(s.takeWhile dig).length/\st.tmp 5 = .sv (.int .i64 z))
    (fun st=>match st.tmp 6 with | .sv (.int _ i)=>(s.takeWhile dig).length-i.toNat|_=>0) ⟨rfl,rfl,0,0,rfl,by omega,rfl⟩ ?_
   rintro st ⟨i0,i4,i,z,i6,hi,i5⟩
   by_cases hend:i=(s.takeWhile dig).length
   ·obtain⟨c,hc,hdc⟩:=hbad
    rw[<- hend]at hc
    have hlt:i<s.length:=by omega
    clear hend
    rcases dig_not hdc with dg|⟨dg,dh⟩
    ·repeat (first|simp only[go_sem,i0,i4,i6,i5,bs_size,hc,vo_ix,idxB_bs,Option.map_some,dg]|simp (disch:=first|exact oa|fail) only[AX,i0,i4,i6,i5,bs_size,hc,vo_ix,idxB_bs,Option.map_some,dg]|refine wki ?_|refine wqn ?_)
    ·repeat (first|simp only[go_sem,i0,i4,i6,i5,bs_size,hc,vo_ix,idxB_bs,Option.map_some,dg,dh]|simp (disch:=first|exact oa|fail) only[AX,i0,i4,i6,i5,bs_size,hc,vo_ix,idxB_bs,Option.map_some,dg,dh]|refine wki ?_|refine wqn ?_)
   ·obtain⟨c,hc,hdc⟩:=tw_lt (p:=dig) (l:=s) (i:=i) (by omega)
    obtain⟨dg,dh⟩:=dig_yes hdc
    repeat (first|simp only[go_sem,i0,i4,i6,i5,bs_size,hc,vo_ix,idxB_bs,Option.map_some,dg,dh]|simp (disch:=first|exact oa|fail) only[AX,i0,i4,i6,i5,bs_size,hc,vo_ix,idxB_bs,Option.map_some,dg,dh]|refine wki ?_|refine wqn ?_)
    exact⟨⟨i+1,_,rfl,by omega,rfl⟩,by omega⟩
  ·refine fni Tryz.f11 ?_;unfold Tryz.f11;simp only[Option.get!_some]
   repeat (first|simp only[go_sem,bs_list,bs_size,vo_ix,idxB_bs,Option.map_some,hne,Bool.not_false,hx0,hb,bs_extract,mk_bs]|simp (disch:=first|exact oa|fail) only[AX,bs_list,bs_size,vo_ix,idxB_bs,Option.map_some,hne,Bool.not_false,hx0,hb,bs_extract,mk_bs]|refine wki ?_|refine wqn ?_)
   refine vp_loop_inv (fun st=>st.tmp 0 = .sv (.str (bs l))/\st.tmp 4 = .sv (.bool false) /\ ∃ (i:Nat) (z:Int),st.tmp 6 = .sv (.int .i64 (i:Int))/\i<=(l.takeWhile dig).length/\st.tmp 5 = .sv (.int .i64 z))
    (fun st=>match st.tmp 6 with | .sv (.int _ i)=>(l.takeWhile dig).length-i.toNat|_=>0) ⟨rfl,rfl,0,0,rfl,by omega,rfl⟩ ?_
   rintro st ⟨i0,i4,i,z,i6,hi,i5⟩
   by_cases hend:i=(l.takeWhile dig).length
   ·obtain⟨c,hc,hdc⟩:=hbad
    rw[<- hend]at hc
    have hlt:i<l.length:=by omega
    clear hend
    rcases dig_not hdc with dg|⟨dg,dh⟩
    ·repeat (first|simp only[go_sem,i0,i4,i6,i5,bs_size,hc,vo_ix,idxB_bs,Option.map_some,dg]|simp (disch:=first|exact oa|fail) only[AX,i0,i4,i6,i5,bs_size,hc,vo_ix,idxB_bs,Option.map_some,dg]|refine wki ?_|refine wqn ?_)
    ·repeat (first|simp only[go_sem,i0,i4,i6,i5,bs_size,hc,vo_ix,idxB_bs,Option.map_some,dg,dh]|simp (disch:=first|exact oa|fail) only[AX,i0,i4,i6,i5,bs_size,hc,vo_ix,idxB_bs,Option.map_some,dg,dh]|refine wki ?_|refine wqn ?_)
   ·obtain⟨c,hc,hdc⟩:=tw_lt (p:=dig) (l:=l) (i:=i) (by omega)
    obtain⟨dg,dh⟩:=dig_yes hdc
    repeat (first|simp only[go_sem,i0,i4,i6,i5,bs_size,hc,vo_ix,idxB_bs,Option.map_some,dg,dh]|simp (disch:=first|exact oa|fail) only[AX,i0,i4,i6,i5,bs_size,hc,vo_ix,idxB_bs,Option.map_some,dg,dh]|refine wki ?_|refine wqn ?_)
    exact⟨⟨i+1,_,rfl,by omega,rfl⟩,by omega⟩
 |true=>
  rw[if_neg (by rintro(h|h|h)<;>first|omega|cases h)]
  rcases hcase with⟨rfl,hsl,hll⟩|⟨rfl,rfl⟩
  ·refine fni Tryz.f11 ?_;unfold Tryz.f11;simp only[Option.get!_some]
   repeat (first|simp only[go_sem,bs_list,bs_size,vo_ix,idxB_bs,Option.map_some,hne,Bool.not_false,hx0,hb,bs_extract,mk_bs,hsl]|simp (disch:=first|exact oa|fail) only[AX,bs_list,bs_size,vo_ix,idxB_bs,Option.map_some,hne,Bool.not_false,hx0,hb,bs_extract,mk_bs,hsl]|refine wki ?_|refine wqn ?_)
   refine vp_loop_inv (fun st=>st.tmp 0 = .sv (.str (bs s))/\st.tmp 4 = .sv (.bool true) /\ ∃i:Nat,st.tmp 6 = .sv (.int .i64 (i:Int))/\i<=s.length/\st.tmp 5 = .sv (.int .i64 (natD (s.take i):Int)))
    (fun st=>match st.tmp 6 with | .sv (.int _ i)=>s.length-i.toNat|_=>0) ⟨rfl,rfl,0,rfl,by omega,rfl⟩ ?_
   rintro st ⟨i0,i4,i,i6,hi,i5⟩
   have hN:=natD_six hd (by omega) i
   by_cases hend:i=s.length
   ·subst hend
    rw[List.take_length]at i5 hN
    generalize natD s=N at *
    repeat (first|simp only[go_sem,i0,i4,i6,i5,bs_size]|simp (disch:=first|exact oa|fail) only[AX,i0,i4,i6,i5,bs_size]|refine wki ?_|refine wqn ?_)
    exact congrArg _ (Int.zero_sub _)
   ·obtain⟨c,hc⟩ : ∃c,s[i]?=some c:=⟨_,List.getElem?_eq_getElem (by omega)⟩
    have hdc:dig c=true:=digs_mem hd (List.mem_of_getElem? hc)
    obtain⟨dg,dh⟩:=dig_yes hdc
    have hsn:=natD_take_succ hc
    unfold dig at hdc
    simp only[Bool.and_eq_true,decide_eq_true_eq]at hdc
    generalize natD (s.take i)=N at *
    generalize hMe:natD (s.take (i+1))=M at *
    have hM:(10*(N:Int)+(c.toNat:Int)-48)=(M:Int):=by omega
    repeat (first|simp only[go_sem,i0,i4,i6,i5,bs_size,hc,vo_ix,idxB_bs,Option.map_some,dg,dh,hM]|simp (disch:=first|exact oa|fail) only[AX,i0,i4,i6,i5,bs_size,hc,vo_ix,idxB_bs,Option.map_some,dg,dh,hM]|refine wki ?_|refine wqn ?_)
    exact⟨⟨i+1,rfl,by omega,by rw[hMe]⟩,by omega⟩
  ·refine fni Tryz.f11 ?_;unfold Tryz.f11;simp only[Option.get!_some]
   repeat (first|simp only[go_sem,bs_list,bs_size,vo_ix,idxB_bs,Option.map_some,hne,Bool.not_false,hx0,hb,bs_extract,mk_bs]|simp (disch:=first|exact oa|fail) only[AX,bs_list,bs_size,vo_ix,idxB_bs,Option.map_some,hne,Bool.not_false,hx0,hb,bs_extract,mk_bs]|refine wki ?_|refine wqn ?_)
   refine vp_loop_inv (fun st=>st.tmp 0 = .sv (.str (bs l))/\st.tmp 4 = .sv (.bool false) /\ ∃i:Nat,st.tmp 6 = .sv (.int .i64 (i:Int))/\i<=l.length/\st.tmp 5 = .sv (.int .i64 (natD (l.take i):Int)))
    (fun st=>match st.tmp 6 with | .sv (.int _ i)=>l.length-i.toNat|_=>0) ⟨rfl,rfl,0,rfl,by omega,rfl⟩ ?_
   rintro st ⟨i0,i4,i,i6,hi,i5⟩
   have hN:=natD_six hd (by omega) i
   by_cases hend:i=l.length
   ·subst hend
    rw[List.take_length]at i5 hN
    generalize natD l=N at *
    repeat (first|simp only[go_sem,i0,i4,i6,i5,bs_size]|simp (disch:=first|exact oa|fail) only[AX,i0,i4,i6,i5,bs_size]|refine wki ?_|refine wqn ?_)
   ·obtain⟨c,hc⟩ : ∃c,l[i]?=some c:=⟨_,List.getElem?_eq_getElem (by omega)⟩
    have hdc:dig c=true:=digs_mem hd (List.mem_of_getElem? hc)
    obtain⟨dg,dh⟩:=dig_yes hdc
    have hsn:=natD_take_succ hc
    unfold dig at hdc
    simp only[Bool.and_eq_true,decide_eq_true_eq]at hdc
    generalize natD (l.take i)=N at *
    generalize hMe:natD (l.take (i+1))=M at *
    have hM:(10*(N:Int)+(c.toNat:Int)-48)=(M:Int):=by omega
    repeat (first|simp only[go_sem,i0,i4,i6,i5,bs_size,hc,vo_ix,idxB_bs,Option.map_some,dg,dh,hM]|simp (disch:=first|exact oa|fail) only[AX,i0,i4,i6,i5,bs_size,hc,vo_ix,idxB_bs,Option.map_some,dg,dh,hM]|refine wki ?_|refine wqn ?_)
    exact⟨⟨i+1,rfl,by omega,by rw[hMe]⟩,by omega⟩
theorem ref23_num (l:List UInt8) (hl:l.length<=100000):Go.Ev.Fn CX 11 [.str (bs l)] (.tup [.int .i64 (wholeP l).1,.bool (wholeP l).2]):=by
 cases l with
 |nil=>
  have e0:(([]:List UInt8)==[])=true:=rfl
  have e1:wholeP []=(0,false):=by unfold wholeP;rw[if_pos (.inl (by decide))]
  rw[e1]
  refine fni Tryz.f11 ?_;unfold Tryz.f11;simp only[Option.get!_some]
  repeat (first|simp only[go_sem,mk_bs,bs_list,bs_size,e0,Bool.not_true]|simp (disch:=first|exact oa|fail) only[AX,mk_bs,bs_list,bs_size,e0,Bool.not_true]|refine wki ?_|refine wqn ?_)
 |cons b r=>
  by_cases hb:b=45
  ·subst hb
   have h:=num_body (45::r) r 45 true hl rfl rfl rfl (.inl ⟨rfl,by rw[List.drop_succ_cons,List.drop_zero,List.length_cons];exact List.take_of_length_le (by omega),rfl⟩)
   unfold wholeP unneg
   simp only[List.head?_cons,beq_self_eq_true,if_true,List.tail_cons]at h ⊢
   split at h
   ·rename_i hc
    rw[if_pos hc]
    exact h
   ·rename_i hc
    rw[if_neg hc]
    exact h
  ·have e:((b.toNat:Int)==45)=false:=by
    rw[beq_eq_false_iff_ne]
    intro h
    have h45:b.toNat=45:=by omega
    exact hb (UInt8.toNat_inj.1 (by rw[h45];rfl))
   have h:=num_body (b::r) (b::r) b false hl rfl rfl e (.inr ⟨rfl,rfl⟩)
   have hu:unneg (b::r)=b::r:=by
    unfold unneg
    rw[List.head?_cons,if_neg (by simpa using hb)]
   unfold wholeP
   rw[hu,List.head?_cons]
   simp only[Bool.false_eq_true,if_false]at h
   rw[if_neg (show ¬some b=some 45 by simpa using hb)]
   split at h
   ·rename_i hc
    rw[if_pos hc]
    exact h
   ·rename_i hc
    rw[if_neg hc]
    exact h
end Go.Proofs.YtheclpmgipiejaaGreatDoor
namespace Go.Proofs.YtheclpmgipiejaaGreatDoor
open Go.Ev
abbrev dC (k n m:Int) (s1:Bool) (n1:Nat) (c1:List SV) (n2:Nat) (c2:List SV) (s2:Bool) (n3:Nat) (c3:List SV) (n4:Nat) (c4:List SV):List SV:=
 [.int .i64 k,.int .i64 n,.int .i64 m,.bool s1,.sl n1 c1,.sl n2 c2,.bool s2,.sl n3 c3,.sl n4 c4]
theorem exp_tk3 {s:St} {cs:List SV} {u v:SV}:expOf s [.imp cs,.sv u,.sv v]=[s.obj 1000000 0,none,none]:=rfl
section
variable {k n m:Int} {s1 s2:Bool} {n1 n2 n3 n4:Nat} {c1 c2 c3 c4:List SV} {l:List UInt8}
theorem takes_N (hl:l.length<=100) : ∃r exps,(r = .bool (wholeP l).2/\exps=[some (dC k (wholeP l).1 m s1 n1 c1 n2 c2 s2 n3 c3 n4 c4),none,none])/\FnI CX 9 [.imp (dC k n m s1 n1 c1 n2 c2 s2 n3 c3 n4 c4),.sv (.int .u8 78),.sv (.str (bs l))] r exps:=by
 have hw:=tool_whole l (by omega)
 obtain⟨v,⟨s,a1,b1,a2,b2,rfl⟩,hd,-⟩:=data_Number l (by omega)
 refine FnI_of (fn:=Tryz.f9) (body:=(Tryz.f9).body.get!) (by kernel_rfl) (by kernel_rfl) (by kernel_rfl) (fun _=>rfl) (Nat.le_of_ble_eq_true (by kernel_rfl)) ?_
 unfold Tryz.f9
 simp only[Option.get!_some,exp_tk3]
 repeat (first|simp only[go_sem,N0]|simp (disch:=first|exact oa|fail) only[AX,N0]|refine wki ?_|refine wqn ?_|refine vpx [] ?_|refine vf_of (by first|exact hw|exact hd) ?_)
 exact⟨_,_,⟨rfl,rfl⟩,rfl,rfl⟩
theorem takes_M (hl:l.length<=100) : ∃r exps,(r = .bool (wholeP l).2/\exps=[some (dC k n (wholeP l).1 s1 n1 c1 n2 c2 s2 n3 c3 n4 c4),none,none])/\FnI CX 9 [.imp (dC k n m s1 n1 c1 n2 c2 s2 n3 c3 n4 c4),.sv (.int .u8 77),.sv (.str (bs l))] r exps:=by
 have hw:=tool_whole l (by omega)
 obtain⟨v,⟨s,a1,b1,a2,b2,rfl⟩,hd,-⟩:=data_Number l (by omega)
 refine FnI_of (fn:=Tryz.f9) (body:=(Tryz.f9).body.get!) (by kernel_rfl) (by kernel_rfl) (by kernel_rfl) (fun _=>rfl) (Nat.le_of_ble_eq_true (by kernel_rfl)) ?_
 unfold Tryz.f9
 simp only[Option.get!_some,exp_tk3]
 repeat (first|simp only[go_sem,N0]|simp (disch:=first|exact oa|fail) only[AX,N0]|refine wki ?_|refine wqn ?_|refine vpx [] ?_|refine vf_of (by first|exact hw|exact hd) ?_)
 exact⟨_,_,⟨rfl,rfl⟩,rfl,rfl⟩
theorem takes_A (hl:l.length<=100) : ∃r exps,(∃s a1 b1 a2 b2,r = .bool (decide ((numP l).1=0))/\exps=[some (dC k n m s a1 b1 a2 b2 s2 n3 c3 n4 c4),none,none]/\((numP l).1=0->SV.agg [.bool s,.sl a1 b1,.sl a2 b2]=rv (numP l).2))/\FnI CX 9 [.imp (dC k n m s1 n1 c1 n2 c2 s2 n3 c3 n4 c4),.sv (.int .u8 65),.sv (.str (bs l))] r exps:=by
 have hw:=tool_whole l (by omega)
 obtain⟨v,⟨s,a1,b1,a2,b2,rfl⟩,hd,hv⟩:=data_Number l (by omega)
 have e0:(((numP l).1:Int)==0)=decide ((numP l).1=0):=by
  by_cases h:(numP l).1=0
  ·rw[h];rfl
  ·rw[decide_eq_false h];simpa using h
 refine FnI_of (fn:=Tryz.f9) (body:=(Tryz.f9).body.get!) (by kernel_rfl) (by kernel_rfl) (by kernel_rfl) (fun _=>rfl) (Nat.le_of_ble_eq_true (by kernel_rfl)) ?_
 unfold Tryz.f9
 simp only[Option.get!_some,exp_tk3]
 repeat (first|simp only[go_sem,N0]|simp (disch:=first|exact oa|fail) only[AX,N0]|refine wki ?_|refine wqn ?_|refine vpx [] ?_|refine vf_of (by first|exact hw|exact hd) ?_)
 exact⟨_,_,⟨s,a1,b1,a2,b2,rfl,rfl,fun h=>(hv h).1⟩,by rw[e0],rfl⟩
theorem takes_B (hl:l.length<=100) : ∃r exps,(∃s a1 b1 a2 b2,r = .bool (decide ((numP l).1=0))/\exps=[some (dC k n m s1 n1 c1 n2 c2 s a1 b1 a2 b2),none,none]/\((numP l).1=0->SV.agg [.bool s,.sl a1 b1,.sl a2 b2]=rv (numP l).2))/\FnI CX 9 [.imp (dC k n m s1 n1 c1 n2 c2 s2 n3 c3 n4 c4),.sv (.int .u8 66),.sv (.str (bs l))] r exps:=by
 have hw:=tool_whole l (by omega)
 obtain⟨v,⟨s,a1,b1,a2,b2,rfl⟩,hd,hv⟩:=data_Number l (by omega)
 have e0:(((numP l).1:Int)==0)=decide ((numP l).1=0):=by
  by_cases h:(numP l).1=0
  ·rw[h];rfl
  ·rw[decide_eq_false h];simpa using h
 refine FnI_of (fn:=Tryz.f9) (body:=(Tryz.f9).body.get!) (by kernel_rfl) (by kernel_rfl) (by kernel_rfl) (fun _=>rfl) (Nat.le_of_ble_eq_true (by kernel_rfl)) ?_
 unfold Tryz.f9
 simp only[Option.get!_some,exp_tk3]
 repeat (first|simp only[go_sem,N0]|simp (disch:=first|exact oa|fail) only[AX,N0]|refine wki ?_|refine wqn ?_|refine vpx [] ?_|refine vf_of (by first|exact hw|exact hd) ?_)
 exact⟨_,_,⟨s,a1,b1,a2,b2,rfl,rfl,fun h=>(hv h).1⟩,by rw[e0],rfl⟩
end
def wC (ws:List (List UInt8)):List SV:=ws.map fun w => .str (bs w)
theorem wC_len (ws:List (List UInt8)):(wC ws).length=ws.length:=List.length_map _
abbrev zC (k:Int):List SV:=dC k 0 0 false 0 [] 0 [] false 0 [] 0 []
theorem wC_cons (w:List UInt8) (ws:List (List UInt8)):wC (w::ws) = .str (bs w)::wC ws:=rfl
theorem dist_none:Go.Ev.Fn CX 4 [.sl 0 []] (.tup [.agg (zC 0),.sl 0 [],.bool false]):=by
 refine fni Tryz.f4 ?_;unfold Tryz.f4;simp only[Option.get!_some]
 repeat (first|simp only[go_sem]|simp (disch:=first|exact oa|fail) only[AX]|refine wki ?_|refine wqn ?_|refine vpl 11 [] [([0,1,2,3,4,5,6],some (7,[])),([8],none)] ?_|refine vpl 14 [] [([0,2,3,4,5],some (1,[0,2,3,4,5])),([],some (6,[0])),([],some (7,[])),([8,9],none)] ?_)
theorem take_wC (ws:List (List UInt8)):List.take ws.length (wC ws)=wC ws:=List.take_of_length_le (by rw[wC_len];exact Nat.le_refl _)
theorem dist_bad {w:List UInt8} {ws:List (List UInt8)} (hws:ws.length<=11) (h:(shapeP w).1=0\/ws.length<(shapeP w).2.length):Go.Ev.Fn CX 4 [.sl (ws.length+1) (wC (w::ws))] (.tup [.agg (zC 0),.sl 0 [],.bool false]):=by
 have hs:=tool_shape w
 have hlen:=wC_len ws
 have htk:=take_wC ws
 by_cases c1:(shapeP w).1=0
 ·have e1:((shapeP w).1==0)=true:=by rw[c1];rfl
  refine fni Tryz.f4 ?_;unfold Tryz.f4;simp only[Option.get!_some]
  repeat (first|simp only[go_sem,wC_cons,e1]|simp (disch:=first|exact oa|fail) only[AX,wC_cons,e1]|refine wki ?_|refine wqn ?_|refine vpl 11 [] [([0,1,2,3,4,5,6],some (7,[])),([8],none)] ?_|refine vpl 14 [] [([0,2,3,4,5],some (1,[0,2,3,4,5])),([],some (6,[0])),([],some (7,[])),([8,9],none)] ?_|refine vf_of (by first|exact hs) ?_)
 ·have e1:((shapeP w).1==0)=false:=by simpa using c1
  have e2:decide ((ws.length:Int)<((shapeP w).2.length:Int))=true:=decide_eq_true (by omega)
  refine fni Tryz.f4 ?_;unfold Tryz.f4;simp only[Option.get!_some]
  repeat (first|simp only[go_sem,wC_cons,e1,Nat.add_sub_cancel,htk,bs_size,e2]|simp (disch:=first|exact oa|fail) only[AX,wC_cons,e1,Nat.add_sub_cancel,htk,bs_size,e2]|refine wki ?_|refine wqn ?_|refine vpl 11 [] [([0,1,2,3,4,5,6],some (7,[])),([8],none)] ?_|refine vpl 14 [] [([0,2,3,4,5],some (1,[0,2,3,4,5])),([],some (6,[0])),([],some (7,[])),([8,9],none)] ?_|refine vf_of (by first|exact hs) ?_)
theorem same_wC : ∀ws:List (List UInt8),sameL (wC ws) (wC ws)=true
 | []=>rfl
 |w::ws=>by
  rw[wC_cons]
  unfold sameL
  rw[same_wC ws,Bool.and_true]
  simp[sameSV]
theorem one_wC : ∀ws:List (List UInt8),(wC ws).all SV.one=true
 | []=>rfl
 |w::ws=>by
  rw[wC_cons,List.all_cons,one_wC ws]
  rfl
theorem st_agg {cs:List SV} (h:sameL cs cs=true):SameT (.sv (.agg cs)) (.sv (.agg cs)) (.sv (.agg cs))=True:=eq_true ⟨rfl,rfl,by simp[sameTV,sameSV,h]⟩
section
variable {w x y:List UInt8} {ws:List (List UInt8)} {k n m n' m':Int} {c d:UInt8} {s1 s2 t1 t2:Bool} {n1 n2 n3 n4 p1 p2 p3 p4:Nat} {c1 c2 c3 c4 d1 d2 d3 d4:List SV} {r q:Bool}
theorem dist_one (hws:ws.length<=10) (hC:r=true->sameL (dC k n m s1 n1 c1 n2 c2 s2 n3 c3 n4 c4) (dC k n m s1 n1 c1 n2 c2 s2 n3 c3 n4 c4)=true) (hs:shapeP w=(k,[c])) (hk:k≠0) (T:FnI CX 9 [.imp (zC k),.sv (.int .u8 (c.toNat:Int)),.sv (.str (bs x))] (.bool r) [some (dC k n m s1 n1 c1 n2 c2 s2 n3 c3 n4 c4),none,none]) :
  Go.Ev.Fn CX 4 [.sl (ws.length+2) (wC (w::x::ws))] (if r then .tup [.agg (dC k n m s1 n1 c1 n2 c2 s2 n3 c3 n4 c4),.sl ws.length (wC ws),.bool true] else .tup [.agg (zC 0),.sl 0 [],.bool false]):=by
 have hf:=tool_shape w
 rw[hs]at hf
 have hlen:=wC_len ws
 have htk:=take_wC ws
 have e1:(k==0)=false:=by simpa using hk
 have e2:decide (((ws.length+1:Nat):Int)<1)=false:=decide_eq_false (by omega)
 have htk2:List.take (ws.length+1) (.str (bs x)::wC ws) = .str (bs x)::wC ws:=by rw[List.take_succ_cons,htk]
 cases r with
 |false=>
  refine fni Tryz.f4 ?_;unfold Tryz.f4;simp only[Option.get!_some]
  repeat (first|simp only[go_sem,wC_cons,e1,Nat.add_sub_cancel,htk2,bs_size,e2,Nat.reduceSubDiff,List.length_cons,List.length_nil]|simp (disch:=first|exact oa|fail) only[AX,wC_cons,e1,Nat.add_sub_cancel,htk2,bs_size,e2,Nat.reduceSubDiff,List.length_cons,List.length_nil]|refine wki ?_|refine wqn ?_|refine vpl 11 [] [([0,1,2,3,4,5,6],some (7,[])),([8],none)] ?_|refine vpl 14 [] [([0,2,3,4,5],some (1,[0,2,3,4,5])),([],some (6,[0])),([],some (7,[])),([8,9],none)] ?_|refine vf_of (by first|exact hf) ?_)
  rw[vp_loop]
  repeat (first|simp only[go_sem,wC_cons,e1,Nat.add_sub_cancel,htk2,bs_size,e2,Nat.reduceSubDiff,vo_ix,idxB_bs,List.getElem?_cons_zero,List.getElem?_cons_succ,Option.map_some,List.drop_zero,List.head?_cons,Int.reduceAdd,List.contains_nil,Bool.not_false,Bool.not_true,Int.zero_add,List.drop_succ_cons]|simp (disch:=first|exact oa|fail) only[AX,wC_cons,e1,Nat.add_sub_cancel,htk2,bs_size,e2,Nat.reduceSubDiff,vo_ix,idxB_bs,List.getElem?_cons_zero,List.getElem?_cons_succ,Option.map_some,List.drop_zero,List.head?_cons,Int.reduceAdd,List.contains_nil,Bool.not_false,Bool.not_true,Int.zero_add,List.drop_succ_cons]|refine wki ?_|refine wqn ?_|refine vpl 11 [] [([0,1,2,3,4,5,6],some (7,[])),([8],none)] ?_|refine vpl 14 [] [([0,2,3,4,5],some (1,[0,2,3,4,5])),([],some (6,[0])),([],some (7,[])),([8,9],none)] ?_)
  refine vi_of T rfl ?_
  repeat (first|simp only[go_sem,wC_cons,e1,Nat.add_sub_cancel,htk2,bs_size,e2,Nat.reduceSubDiff,vo_ix,idxB_bs,List.getElem?_cons_zero,List.getElem?_cons_succ,Option.map_some,List.drop_zero,List.head?_cons,Int.reduceAdd,List.contains_nil,Bool.not_false,Bool.not_true,Int.zero_add,List.drop_succ_cons]|simp (disch:=first|exact oa|fail) only[AX,wC_cons,e1,Nat.add_sub_cancel,htk2,bs_size,e2,Nat.reduceSubDiff,vo_ix,idxB_bs,List.getElem?_cons_zero,List.getElem?_cons_succ,Option.map_some,List.drop_zero,List.head?_cons,Int.reduceAdd,List.contains_nil,Bool.not_false,Bool.not_true,Int.zero_add,List.drop_succ_cons]|refine wki ?_|refine wqn ?_|refine vpl 11 [] [([0,1,2,3,4,5,6],some (7,[])),([8],none)] ?_|refine vpl 14 [] [([0,2,3,4,5],some (1,[0,2,3,4,5])),([],some (6,[0])),([],some (7,[])),([8,9],none)] ?_)
 |true=>
  refine fni Tryz.f4 ?_;unfold Tryz.f4;simp only[Option.get!_some]
  repeat (first|simp only[go_sem,wC_cons,e1,Nat.add_sub_cancel,htk2,bs_size,e2,Nat.reduceSubDiff,List.length_cons,List.length_nil]|simp (disch:=first|exact oa|fail) only[AX,wC_cons,e1,Nat.add_sub_cancel,htk2,bs_size,e2,Nat.reduceSubDiff,List.length_cons,List.length_nil]|refine wki ?_|refine wqn ?_|refine vpl 11 [] [([0,1,2,3,4,5,6],some (7,[])),([8],none)] ?_|refine vpl 14 [] [([0,2,3,4,5],some (1,[0,2,3,4,5])),([],some (6,[0])),([],some (7,[])),([8,9],none)] ?_|refine vf_of (by first|exact hf) ?_)
  rw[vp_loop]
  repeat (first|simp only[go_sem,wC_cons,e1,Nat.add_sub_cancel,htk2,bs_size,e2,Nat.reduceSubDiff,vo_ix,idxB_bs,List.getElem?_cons_zero,List.getElem?_cons_succ,Option.map_some,List.drop_zero,List.head?_cons,Int.reduceAdd,List.contains_nil,Bool.not_false,Bool.not_true,Int.zero_add,List.drop_succ_cons]|simp (disch:=first|exact oa|fail) only[AX,wC_cons,e1,Nat.add_sub_cancel,htk2,bs_size,e2,Nat.reduceSubDiff,vo_ix,idxB_bs,List.getElem?_cons_zero,List.getElem?_cons_succ,Option.map_some,List.drop_zero,List.head?_cons,Int.reduceAdd,List.contains_nil,Bool.not_false,Bool.not_true,Int.zero_add,List.drop_succ_cons]|refine wki ?_|refine wqn ?_|refine vpl 11 [] [([0,1,2,3,4,5,6],some (7,[])),([8],none)] ?_|refine vpl 14 [] [([0,2,3,4,5],some (1,[0,2,3,4,5])),([],some (6,[0])),([],some (7,[])),([8,9],none)] ?_)
  refine vi_of T rfl ?_
  repeat (first|simp only[go_sem,wC_cons,e1,Nat.add_sub_cancel,htk2,bs_size,e2,Nat.reduceSubDiff,vo_ix,idxB_bs,List.getElem?_cons_zero,List.getElem?_cons_succ,Option.map_some,List.drop_zero,List.head?_cons,Int.reduceAdd,List.contains_nil,Bool.not_false,Bool.not_true,Int.zero_add,List.drop_succ_cons]|simp (disch:=first|exact oa|fail) only[AX,wC_cons,e1,Nat.add_sub_cancel,htk2,bs_size,e2,Nat.reduceSubDiff,vo_ix,idxB_bs,List.getElem?_cons_zero,List.getElem?_cons_succ,Option.map_some,List.drop_zero,List.head?_cons,Int.reduceAdd,List.contains_nil,Bool.not_false,Bool.not_true,Int.zero_add,List.drop_succ_cons]|refine wki ?_|refine wqn ?_|refine vpl 11 [] [([0,1,2,3,4,5,6],some (7,[])),([8],none)] ?_|refine vpl 14 [] [([0,2,3,4,5],some (1,[0,2,3,4,5])),([],some (6,[0])),([],some (7,[])),([8,9],none)] ?_)
  rw[vp_loop]
  have sm1:=st_agg (hC rfl)
  have sm2:=st_sl (n:=ws.length+1) (same_wC (x::ws))
  have sm3:=st_sl (n:=ws.length) (same_wC ws)
  rw[wC_cons]at sm2
  have one:=one_wC ws
  by_cases h0:ws.length=0
  ·have:ws=[]:=List.eq_nil_of_length_eq_zero h0
   subst this
   have hnil:wC []=[]:=rfl
   have sm4:=st_sl (n:=1) (same_wC [x])
   have sm5:=st_sl (n:=0) (same_wC [])
   rw[wC_cons]at sm4
   rw[hnil]at sm4 sm5
   have n52:(52<N0)=True:=eq_true (by decide)
   repeat (first|simp only[go_sem,sm1,sm4,sm5,htk,one,hnil,n52,wC_cons,e1,Nat.add_sub_cancel,htk2,bs_size,e2,Nat.reduceSubDiff,vo_ix,idxB_bs,List.getElem?_cons_zero,List.getElem?_cons_succ,Option.map_some,List.drop_zero,List.head?_cons,Int.reduceAdd,List.contains_nil,Bool.not_false,Bool.not_true,Int.zero_add,List.drop_succ_cons]|simp (disch:=first|exact oa|fail) only[AX,sm1,sm4,sm5,htk,one,hnil,n52,wC_cons,e1,Nat.add_sub_cancel,htk2,bs_size,e2,Nat.reduceSubDiff,vo_ix,idxB_bs,List.getElem?_cons_zero,List.getElem?_cons_succ,Option.map_some,List.drop_zero,List.head?_cons,Int.reduceAdd,List.contains_nil,Bool.not_false,Bool.not_true,Int.zero_add,List.drop_succ_cons]|refine wki ?_|refine wqn ?_|refine vpl 11 [] [([0,1,2,3,4,5,6],some (7,[])),([8],none)] ?_|refine vpl 14 [] [([0,2,3,4,5],some (1,[0,2,3,4,5])),([],some (6,[0])),([],some (7,[])),([8,9],none)] ?_)
   exact ro_ref (cs:=[]) (by decide) rfl rfl
  ·have n52:(52<N0/\ws.length<=274877906944)=True:=eq_true ⟨by decide,by omega⟩
   have n53:(57<N0)=True:=eq_true (by decide)
   repeat (first|simp only[go_sem,sm1,sm2,sm3,htk,one,h0,hlen,n52,n53,wC_cons,e1,Nat.add_sub_cancel,htk2,bs_size,e2,Nat.reduceSubDiff,vo_ix,idxB_bs,List.getElem?_cons_zero,List.getElem?_cons_succ,Option.map_some,List.drop_zero,List.head?_cons,Int.reduceAdd,List.contains_nil,Bool.not_false,Bool.not_true,Int.zero_add,List.drop_succ_cons]|simp (disch:=first|exact oa|fail) only[AX,sm1,sm2,sm3,htk,one,h0,hlen,n52,n53,wC_cons,e1,Nat.add_sub_cancel,htk2,bs_size,e2,Nat.reduceSubDiff,vo_ix,idxB_bs,List.getElem?_cons_zero,List.getElem?_cons_succ,Option.map_some,List.drop_zero,List.head?_cons,Int.reduceAdd,List.contains_nil,Bool.not_false,Bool.not_true,Int.zero_add,List.drop_succ_cons]|refine wki ?_|refine wqn ?_|refine vpl 11 [] [([0,1,2,3,4,5,6],some (7,[])),([8],none)] ?_|refine vpl 14 [] [([0,2,3,4,5],some (1,[0,2,3,4,5])),([],some (6,[0])),([],some (7,[])),([8,9],none)] ?_)
   exact ro_ref (cs:=wC ws) (by decide) rfl (by rw[List.drop_zero,Nat.mul_one,htk])
set_option maxHeartbeats 1000000 in
theorem dist_two (hws:ws.length<=9) (hC:q=true->sameL (dC k n' m' t1 p1 d1 p2 d2 t2 p3 d3 p4 d4) (dC k n' m' t1 p1 d1 p2 d2 t2 p3 d3 p4 d4)=true) (hs:shapeP w=(k,[c,d])) (hk:k≠0) (T:FnI CX 9 [.imp (zC k),.sv (.int .u8 (c.toNat:Int)),.sv (.str (bs x))] (.bool r) [some (dC k n m s1 n1 c1 n2 c2 s2 n3 c3 n4 c4),none,none])
  (U:r=true->FnI CX 9 [.imp (dC k n m s1 n1 c1 n2 c2 s2 n3 c3 n4 c4),.sv (.int .u8 (d.toNat:Int)),.sv (.str (bs y))] (.bool q) [some (dC k n' m' t1 p1 d1 p2 d2 t2 p3 d3 p4 d4),none,none]) :
  Go.Ev.Fn CX 4 [.sl (ws.length+3) (wC (w::x::y::ws))] (if r&&q then .tup [.agg (dC k n' m' t1 p1 d1 p2 d2 t2 p3 d3 p4 d4),.sl ws.length (wC ws),.bool true] else .tup [.agg (zC 0),.sl 0 [],.bool false]):=by
 have hf:=tool_shape w
 rw[hs]at hf
 have hlen:=wC_len ws
 have htk:=take_wC ws
 have e1:(k==0)=false:=by simpa using hk
 have e2:decide (((ws.length+2:Nat):Int)<2)=false:=decide_eq_false (by omega)
 have htk2:List.take (ws.length+2) (.str (bs x) :: .str (bs y)::wC ws) = .str (bs x) :: .str (bs y)::wC ws:=by rw[List.take_succ_cons,List.take_succ_cons,htk]
 cases r with
 |false=>
  rw[show (false&&q)=false from rfl]
  refine fni Tryz.f4 ?_;unfold Tryz.f4;simp only[Option.get!_some]
  repeat (first|simp only[go_sem,wC_cons,e1,Nat.add_sub_cancel,htk2,bs_size,e2,Nat.reduceSubDiff,List.length_cons,List.length_nil]|simp (disch:=first|exact oa|fail) only[AX,wC_cons,e1,Nat.add_sub_cancel,htk2,bs_size,e2,Nat.reduceSubDiff,List.length_cons,List.length_nil]|refine wki ?_|refine wqn ?_|refine vpl 11 [] [([0,1,2,3,4,5,6],some (7,[])),([8],none)] ?_|refine vpl 14 [] [([0,2,3,4,5],some (1,[0,2,3,4,5])),([],some (6,[0])),([],some (7,[])),([8,9],none)] ?_|refine vf_of (by first|exact hf) ?_)
  rw[vp_loop]
  repeat (first|simp only[go_sem,wC_cons,e1,Nat.add_sub_cancel,htk2,bs_size,e2,Nat.reduceSubDiff,vo_ix,idxB_bs,List.getElem?_cons_zero,List.getElem?_cons_succ,Option.map_some,List.drop_zero,List.head?_cons,Int.reduceAdd,List.contains_nil,Bool.not_false,Bool.not_true,Int.zero_add,List.drop_succ_cons]|simp (disch:=first|exact oa|fail) only[AX,wC_cons,e1,Nat.add_sub_cancel,htk2,bs_size,e2,Nat.reduceSubDiff,vo_ix,idxB_bs,List.getElem?_cons_zero,List.getElem?_cons_succ,Option.map_some,List.drop_zero,List.head?_cons,Int.reduceAdd,List.contains_nil,Bool.not_false,Bool.not_true,Int.zero_add,List.drop_succ_cons]|refine wki ?_|refine wqn ?_|refine vpl 11 [] [([0,1,2,3,4,5,6],some (7,[])),([8],none)] ?_|refine vpl 14 [] [([0,2,3,4,5],some (1,[0,2,3,4,5])),([],some (6,[0])),([],some (7,[])),([8,9],none)] ?_)
  refine vi_of T rfl ?_
  repeat (first|simp only[go_sem,wC_cons,e1,Nat.add_sub_cancel,htk2,bs_size,e2,Nat.reduceSubDiff,vo_ix,idxB_bs,List.getElem?_cons_zero,List.getElem?_cons_succ,Option.map_some,List.drop_zero,List.head?_cons,Int.reduceAdd,List.contains_nil,Bool.not_false,Bool.not_true,Int.zero_add,List.drop_succ_cons]|simp (disch:=first|exact oa|fail) only[AX,wC_cons,e1,Nat.add_sub_cancel,htk2,bs_size,e2,Nat.reduceSubDiff,vo_ix,idxB_bs,List.getElem?_cons_zero,List.getElem?_cons_succ,Option.map_some,List.drop_zero,List.head?_cons,Int.reduceAdd,List.contains_nil,Bool.not_false,Bool.not_true,Int.zero_add,List.drop_succ_cons]|refine wki ?_|refine wqn ?_|refine vpl 11 [] [([0,1,2,3,4,5,6],some (7,[])),([8],none)] ?_|refine vpl 14 [] [([0,2,3,4,5],some (1,[0,2,3,4,5])),([],some (6,[0])),([],some (7,[])),([8,9],none)] ?_)
 |true=>
  replace U:=U rfl
  cases q with
  |false=>
   refine fni Tryz.f4 ?_;unfold Tryz.f4;simp only[Option.get!_some]
   repeat (first|simp only[go_sem,wC_cons,e1,Nat.add_sub_cancel,htk2,bs_size,e2,Nat.reduceSubDiff,List.length_cons,List.length_nil]|simp (disch:=first|exact oa|fail) only[AX,wC_cons,e1,Nat.add_sub_cancel,htk2,bs_size,e2,Nat.reduceSubDiff,List.length_cons,List.length_nil]|refine wki ?_|refine wqn ?_|refine vpl 11 [] [([0,1,2,3,4,5,6],some (7,[])),([8],none)] ?_|refine vpl 14 [] [([0,2,3,4,5],some (1,[0,2,3,4,5])),([],some (6,[0])),([],some (7,[])),([8,9],none)] ?_|refine vf_of (by first|exact hf) ?_)
   rw[vp_loop]
   repeat (first|simp only[go_sem,wC_cons,e1,Nat.add_sub_cancel,htk2,bs_size,e2,Nat.reduceSubDiff,vo_ix,idxB_bs,List.getElem?_cons_zero,List.getElem?_cons_succ,Option.map_some,List.drop_zero,List.head?_cons,Int.reduceAdd,List.contains_nil,Bool.not_false,Bool.not_true,Int.zero_add,List.drop_succ_cons]|simp (disch:=first|exact oa|fail) only[AX,wC_cons,e1,Nat.add_sub_cancel,htk2,bs_size,e2,Nat.reduceSubDiff,vo_ix,idxB_bs,List.getElem?_cons_zero,List.getElem?_cons_succ,Option.map_some,List.drop_zero,List.head?_cons,Int.reduceAdd,List.contains_nil,Bool.not_false,Bool.not_true,Int.zero_add,List.drop_succ_cons]|refine wki ?_|refine wqn ?_|refine vpl 11 [] [([0,1,2,3,4,5,6],some (7,[])),([8],none)] ?_|refine vpl 14 [] [([0,2,3,4,5],some (1,[0,2,3,4,5])),([],some (6,[0])),([],some (7,[])),([8,9],none)] ?_)
   refine vi_of T rfl ?_
   repeat (first|simp only[go_sem,wC_cons,e1,Nat.add_sub_cancel,htk2,bs_size,e2,Nat.reduceSubDiff,vo_ix,idxB_bs,List.getElem?_cons_zero,List.getElem?_cons_succ,Option.map_some,List.drop_zero,List.head?_cons,Int.reduceAdd,List.contains_nil,Bool.not_false,Bool.not_true,Int.zero_add,List.drop_succ_cons]|simp (disch:=first|exact oa|fail) only[AX,wC_cons,e1,Nat.add_sub_cancel,htk2,bs_size,e2,Nat.reduceSubDiff,vo_ix,idxB_bs,List.getElem?_cons_zero,List.getElem?_cons_succ,Option.map_some,List.drop_zero,List.head?_cons,Int.reduceAdd,List.contains_nil,Bool.not_false,Bool.not_true,Int.zero_add,List.drop_succ_cons]|refine wki ?_|refine wqn ?_|refine vpl 11 [] [([0,1,2,3,4,5,6],some (7,[])),([8],none)] ?_|refine vpl 14 [] [([0,2,3,4,5],some (1,[0,2,3,4,5])),([],some (6,[0])),([],some (7,[])),([8,9],none)] ?_)
   rw[vp_loop]
   repeat (first|simp only[go_sem,wC_cons,e1,Nat.add_sub_cancel,htk2,bs_size,e2,Nat.reduceSubDiff,vo_ix,idxB_bs,List.getElem?_cons_zero,List.getElem?_cons_succ,Option.map_some,List.drop_zero,List.head?_cons,Int.reduceAdd,List.contains_nil,Bool.not_false,Bool.not_true,Int.zero_add,List.drop_succ_cons]|simp (disch:=first|exact oa|fail) only[AX,wC_cons,e1,Nat.add_sub_cancel,htk2,bs_size,e2,Nat.reduceSubDiff,vo_ix,idxB_bs,List.getElem?_cons_zero,List.getElem?_cons_succ,Option.map_some,List.drop_zero,List.head?_cons,Int.reduceAdd,List.contains_nil,Bool.not_false,Bool.not_true,Int.zero_add,List.drop_succ_cons]|refine wki ?_|refine wqn ?_|refine vpl 11 [] [([0,1,2,3,4,5,6],some (7,[])),([8],none)] ?_|refine vpl 14 [] [([0,2,3,4,5],some (1,[0,2,3,4,5])),([],some (6,[0])),([],some (7,[])),([8,9],none)] ?_)
   refine vi_of U rfl ?_
   repeat (first|simp only[go_sem,wC_cons,e1,Nat.add_sub_cancel,htk2,bs_size,e2,Nat.reduceSubDiff,vo_ix,idxB_bs,List.getElem?_cons_zero,List.getElem?_cons_succ,Option.map_some,List.drop_zero,List.head?_cons,Int.reduceAdd,List.contains_nil,Bool.not_false,Bool.not_true,Int.zero_add,List.drop_succ_cons]|simp (disch:=first|exact oa|fail) only[AX,wC_cons,e1,Nat.add_sub_cancel,htk2,bs_size,e2,Nat.reduceSubDiff,vo_ix,idxB_bs,List.getElem?_cons_zero,List.getElem?_cons_succ,Option.map_some,List.drop_zero,List.head?_cons,Int.reduceAdd,List.contains_nil,Bool.not_false,Bool.not_true,Int.zero_add,List.drop_succ_cons]|refine wki ?_|refine wqn ?_|refine vpl 11 [] [([0,1,2,3,4,5,6],some (7,[])),([8],none)] ?_|refine vpl 14 [] [([0,2,3,4,5],some (1,[0,2,3,4,5])),([],some (6,[0])),([],some (7,[])),([8,9],none)] ?_)
  |true=>
   refine fni Tryz.f4 ?_;unfold Tryz.f4;simp only[Option.get!_some]
   repeat (first|simp only[go_sem,wC_cons,e1,Nat.add_sub_cancel,htk2,bs_size,e2,Nat.reduceSubDiff,List.length_cons,List.length_nil]|simp (disch:=first|exact oa|fail) only[AX,wC_cons,e1,Nat.add_sub_cancel,htk2,bs_size,e2,Nat.reduceSubDiff,List.length_cons,List.length_nil]|refine wki ?_|refine wqn ?_|refine vpl 11 [] [([0,1,2,3,4,5,6],some (7,[])),([8],none)] ?_|refine vpl 14 [] [([0,2,3,4,5],some (1,[0,2,3,4,5])),([],some (6,[0])),([],some (7,[])),([8,9],none)] ?_|refine vf_of (by first|exact hf) ?_)
   rw[vp_loop]
   repeat (first|simp only[go_sem,wC_cons,e1,Nat.add_sub_cancel,htk2,bs_size,e2,Nat.reduceSubDiff,vo_ix,idxB_bs,List.getElem?_cons_zero,List.getElem?_cons_succ,Option.map_some,List.drop_zero,List.head?_cons,Int.reduceAdd,List.contains_nil,Bool.not_false,Bool.not_true,Int.zero_add,List.drop_succ_cons]|simp (disch:=first|exact oa|fail) only[AX,wC_cons,e1,Nat.add_sub_cancel,htk2,bs_size,e2,Nat.reduceSubDiff,vo_ix,idxB_bs,List.getElem?_cons_zero,List.getElem?_cons_succ,Option.map_some,List.drop_zero,List.head?_cons,Int.reduceAdd,List.contains_nil,Bool.not_false,Bool.not_true,Int.zero_add,List.drop_succ_cons]|refine wki ?_|refine wqn ?_|refine vpl 11 [] [([0,1,2,3,4,5,6],some (7,[])),([8],none)] ?_|refine vpl 14 [] [([0,2,3,4,5],some (1,[0,2,3,4,5])),([],some (6,[0])),([],some (7,[])),([8,9],none)] ?_)
   refine vi_of T rfl ?_
   repeat (first|simp only[go_sem,wC_cons,e1,Nat.add_sub_cancel,htk2,bs_size,e2,Nat.reduceSubDiff,vo_ix,idxB_bs,List.getElem?_cons_zero,List.getElem?_cons_succ,Option.map_some,List.drop_zero,List.head?_cons,Int.reduceAdd,List.contains_nil,Bool.not_false,Bool.not_true,Int.zero_add,List.drop_succ_cons]|simp (disch:=first|exact oa|fail) only[AX,wC_cons,e1,Nat.add_sub_cancel,htk2,bs_size,e2,Nat.reduceSubDiff,vo_ix,idxB_bs,List.getElem?_cons_zero,List.getElem?_cons_succ,Option.map_some,List.drop_zero,List.head?_cons,Int.reduceAdd,List.contains_nil,Bool.not_false,Bool.not_true,Int.zero_add,List.drop_succ_cons]|refine wki ?_|refine wqn ?_|refine vpl 11 [] [([0,1,2,3,4,5,6],some (7,[])),([8],none)] ?_|refine vpl 14 [] [([0,2,3,4,5],some (1,[0,2,3,4,5])),([],some (6,[0])),([],some (7,[])),([8,9],none)] ?_)
   rw[vp_loop]
   repeat (first|simp only[go_sem,wC_cons,e1,Nat.add_sub_cancel,htk2,bs_size,e2,Nat.reduceSubDiff,vo_ix,idxB_bs,List.getElem?_cons_zero,List.getElem?_cons_succ,Option.map_some,List.drop_zero,List.head?_cons,Int.reduceAdd,List.contains_nil,Bool.not_false,Bool.not_true,Int.zero_add,List.drop_succ_cons]|simp (disch:=first|exact oa|fail) only[AX,wC_cons,e1,Nat.add_sub_cancel,htk2,bs_size,e2,Nat.reduceSubDiff,vo_ix,idxB_bs,List.getElem?_cons_zero,List.getElem?_cons_succ,Option.map_some,List.drop_zero,List.head?_cons,Int.reduceAdd,List.contains_nil,Bool.not_false,Bool.not_true,Int.zero_add,List.drop_succ_cons]|refine wki ?_|refine wqn ?_|refine vpl 11 [] [([0,1,2,3,4,5,6],some (7,[])),([8],none)] ?_|refine vpl 14 [] [([0,2,3,4,5],some (1,[0,2,3,4,5])),([],some (6,[0])),([],some (7,[])),([8,9],none)] ?_)
   refine vi_of U rfl ?_
   repeat (first|simp only[go_sem,wC_cons,e1,Nat.add_sub_cancel,htk2,bs_size,e2,Nat.reduceSubDiff,vo_ix,idxB_bs,List.getElem?_cons_zero,List.getElem?_cons_succ,Option.map_some,List.drop_zero,List.head?_cons,Int.reduceAdd,List.contains_nil,Bool.not_false,Bool.not_true,Int.zero_add,List.drop_succ_cons]|simp (disch:=first|exact oa|fail) only[AX,wC_cons,e1,Nat.add_sub_cancel,htk2,bs_size,e2,Nat.reduceSubDiff,vo_ix,idxB_bs,List.getElem?_cons_zero,List.getElem?_cons_succ,Option.map_some,List.drop_zero,List.head?_cons,Int.reduceAdd,List.contains_nil,Bool.not_false,Bool.not_true,Int.zero_add,List.drop_succ_cons]|refine wki ?_|refine wqn ?_|refine vpl 11 [] [([0,1,2,3,4,5,6],some (7,[])),([8],none)] ?_|refine vpl 14 [] [([0,2,3,4,5],some (1,[0,2,3,4,5])),([],some (6,[0])),([],some (7,[])),([8,9],none)] ?_)
   rw[vp_loop]
   have sm1:=st_agg (hC rfl)
   have sm2:=st_sl (n:=ws.length+2) (same_wC (x::y::ws))
   have sm3:=st_sl (n:=ws.length) (same_wC ws)
   rw[wC_cons,wC_cons]at sm2
   have one:=one_wC ws
   by_cases h0:ws.length=0
   ·have:ws=[]:=List.eq_nil_of_length_eq_zero h0
    subst this
    have hnil:wC []=[]:=rfl
    have sm4:=st_sl (n:=2) (same_wC [x,y])
    have sm5:=st_sl (n:=0) (same_wC [])
    rw[wC_cons,wC_cons]at sm4
    rw[hnil]at sm4 sm5
    have n52:(52<N0)=True:=eq_true (by decide)
    repeat (first|simp only[go_sem,sm1,sm4,sm5,htk,one,hnil,n52,wC_cons,e1,Nat.add_sub_cancel,htk2,bs_size,e2,Nat.reduceSubDiff,vo_ix,idxB_bs,List.getElem?_cons_zero,List.getElem?_cons_succ,Option.map_some,List.drop_zero,List.head?_cons,Int.reduceAdd,List.contains_nil,Bool.not_false,Bool.not_true,Int.zero_add,List.drop_succ_cons]|simp (disch:=first|exact oa|fail) only[AX,sm1,sm4,sm5,htk,one,hnil,n52,wC_cons,e1,Nat.add_sub_cancel,htk2,bs_size,e2,Nat.reduceSubDiff,vo_ix,idxB_bs,List.getElem?_cons_zero,List.getElem?_cons_succ,Option.map_some,List.drop_zero,List.head?_cons,Int.reduceAdd,List.contains_nil,Bool.not_false,Bool.not_true,Int.zero_add,List.drop_succ_cons]|refine wki ?_|refine wqn ?_|refine vpl 11 [] [([0,1,2,3,4,5,6],some (7,[])),([8],none)] ?_|refine vpl 14 [] [([0,2,3,4,5],some (1,[0,2,3,4,5])),([],some (6,[0])),([],some (7,[])),([8,9],none)] ?_)
    exact ro_ref (cs:=[]) (by decide) rfl rfl
   ·have n52:(52<N0/\ws.length<=274877906944)=True:=eq_true ⟨by decide,by omega⟩
    have n53:(57<N0)=True:=eq_true (by decide)
    repeat (first|simp only[go_sem,sm1,sm2,sm3,htk,one,h0,hlen,n52,n53,wC_cons,e1,Nat.add_sub_cancel,htk2,bs_size,e2,Nat.reduceSubDiff,vo_ix,idxB_bs,List.getElem?_cons_zero,List.getElem?_cons_succ,Option.map_some,List.drop_zero,List.head?_cons,Int.reduceAdd,List.contains_nil,Bool.not_false,Bool.not_true,Int.zero_add,List.drop_succ_cons]|simp (disch:=first|exact oa|fail) only[AX,sm1,sm2,sm3,htk,one,h0,hlen,n52,n53,wC_cons,e1,Nat.add_sub_cancel,htk2,bs_size,e2,Nat.reduceSubDiff,vo_ix,idxB_bs,List.getElem?_cons_zero,List.getElem?_cons_succ,Option.map_some,List.drop_zero,List.head?_cons,Int.reduceAdd,List.contains_nil,Bool.not_false,Bool.not_true,Int.zero_add,List.drop_succ_cons]|refine wki ?_|refine wqn ?_|refine vpl 11 [] [([0,1,2,3,4,5,6],some (7,[])),([8],none)] ?_|refine vpl 14 [] [([0,2,3,4,5],some (1,[0,2,3,4,5])),([],some (6,[0])),([],some (7,[])),([8,9],none)] ?_)
    exact ro_ref (cs:=wC ws) (by decide) rfl (by rw[List.drop_zero,Nat.mul_one,htk])
end
end Go.Proofs.YtheclpmgipiejaaGreatDoor
