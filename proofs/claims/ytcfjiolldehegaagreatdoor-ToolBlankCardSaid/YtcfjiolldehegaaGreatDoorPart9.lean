/- Part 9 of the proof: the evaluator, contracts of functions and their plain laws (joined by program). No condition. -/
import Derived.Test.YtcfjiolldehegaaGreatDoorPart8
import Derived.Lib.TrimAscii
import Derived.Lib.Fields
import Derived.Lib.FieldsP
import Derived.Laws.RangeString
set_option linter.unusedVariables false
set_option linter.unusedSimpArgs false
set_option maxRecDepth 100000
namespace Go.Proofs.YtcfjiolldehegaaGreatDoor
open Go.Ev
def toldT (e:Int) (s:List UInt8):List UInt8:=if e=0 then s else [101,114,114,111,114,32]++[UInt8.ofNat (48+e.natAbs)]
theorem small_is (e:Int) (h0:0<=e) (h1:e<10):Go.Ev.Fn CX 122 [.int .i64 e] (.str (bs [UInt8.ofNat (48+e.natAbs)])):=by
 have key : ∀n:Nat,n<10->Go.Ev.Fn CX 122 [.int .i64 (n:Int)] (.str (bs [UInt8.ofNat (48+n)])):=by
  intro n hn
  match n,hn with
  |0,_=>exact⟨20,[none],by kernel_rfl⟩
  |1,_=>exact⟨20,[none],by kernel_rfl⟩
  |2,_=>exact⟨20,[none],by kernel_rfl⟩
  |3,_=>exact⟨20,[none],by kernel_rfl⟩
  |4,_=>exact⟨20,[none],by kernel_rfl⟩
  |5,_=>exact⟨20,[none],by kernel_rfl⟩
  |6,_=>exact⟨20,[none],by kernel_rfl⟩
  |7,_=>exact⟨20,[none],by kernel_rfl⟩
  |8,_=>exact⟨20,[none],by kernel_rfl⟩
  |9,_=>exact⟨20,[none],by kernel_rfl⟩
  |n+10,h=>omega
 obtain⟨n,rfl⟩ : ∃n:Nat,e=(n:Int):=⟨e.natAbs,by omega⟩
 exact key n (by omega)
theorem itoa_is (e:Int) (h0:0<=e) (h1:e<10):Go.Ev.Fn CX 17 [.int .i64 e] (.str (bs [UInt8.ofNat (48+e.natAbs)])):=by
 have s:=small_is e h0 h1
 have f:Go.Ev.Fn CX 64 [.int .i64 e,.int .i64 10] (.str (bs [UInt8.ofNat (48+e.natAbs)])):=by
  refine fni Tryz.f64 ?_;unfold Tryz.f64;simp only[Option.get!_some]
  repeat (first|simp only[go_sem]|simp (disch:=first|exact oa|fail) only[AX]|refine wki ?_|refine wqn ?_|refine vf_of (by first|exact s) ?_)
 have g:Go.Ev.Fn CX 33 [.int .i64 e] (.str (bs [UInt8.ofNat (48+e.natAbs)])):=by
  refine fni Tryz.f33 ?_;unfold Tryz.f33;simp only[Option.get!_some]
  repeat (first|simp only[go_sem]|simp (disch:=first|exact oa|fail) only[AX]|refine wki ?_|refine wqn ?_|refine vf_of (by first|exact f) ?_)
 refine fni Tryz.f17 ?_;unfold Tryz.f17;simp only[Option.get!_some]
 repeat (first|simp only[go_sem]|simp (disch:=first|exact oa|fail) only[AX]|refine wki ?_|refine wqn ?_|refine vf_of (by first|exact g) ?_)
theorem tool_toldG (e:Int) (h0:0<=e) (h1:e<10) (s:List UInt8):Go.Ev.Fn CX 35 [.str (bs s),.int .i64 e] (.str (bs (toldT e s))):=by
 unfold toldT
 by_cases he:e=0
 ·rw[if_pos he,he]
  exact tool_told (bs s)
 ·rw[if_neg he]
  have i:=itoa_is e h0 h1
  have eb:(e==0)=false:=beq_eq_false_iff_ne.2 he
  have f:Go.Ev.Fn CX 10 [.int .i64 e] (.str (bs ([101,114,114,111,114,32]++[UInt8.ofNat (48+e.natAbs)]))):=by
   generalize UInt8.ofNat (48+e.natAbs)=b at *
   have ap:(Option.map TV.sv (if #[(101:UInt8),114,114,111,114,32].size+(bs [b]).size<=9223372036854775807 then some (SV.str (ByteArray.mk #[101,114,114,111,114,32]++bs [b])) else none))=some (.sv (.str (bs ([101,114,114,111,114,32]++[b])))):=by
    rw[if_pos (by rw[bs_size];show 6+1<=_;omega),show ByteArray.mk #[101,114,114,111,114,32]=bs [101,114,114,111,114,32] from rfl,bs_append]
    rfl
   refine fni Tryz.f10 ?_;unfold Tryz.f10;simp only[Option.get!_some]
   repeat (first|simp only[go_sem,ap]|simp (disch:=first|exact oa|fail) only[AX,ap]|refine wki ?_|refine wqn ?_|refine vf_of (by first|exact i) ?_)
  refine fni Tryz.f35 ?_;unfold Tryz.f35;simp only[Option.get!_some]
  repeat (first|simp only[go_sem,eb,Bool.not_false]|simp (disch:=first|exact oa|fail) only[AX,eb,Bool.not_false]|refine wki ?_|refine wqn ?_|refine vf_of (by first|exact f) ?_)
section
variable {ops:Array Oper} {l:List Oper} {dst:Option Nat} {st:St} {Q:St->Prop} {d g:Nat} {es:List Ent} {p:Nat} {nm line r1 r2 x:List UInt8} {rest:List (List UInt8)} {y1 y2 y3:SV} {b1 b2 b3:Bool}
theorem let_num {es:List Ent} {t x:List UInt8} {p:Nat} (hpe:(parseP x).1<10):0<=(letP es t x p).1/\(letP es t x p).1<10:=by
 unfold letP
 split
 ·constructor<;>(dsimp only;omega)
 ·split
  ·unfold setP
   split
   ·constructor<;>(dsimp only;omega)
   ·split
    ·constructor<;>(dsimp only;omega)
    ·split<;>(constructor<;>(dsimp only;omega))
  ·constructor<;>(dsimp only;omega)
theorem desk_letG (hd:H0<=d) (hd3:d≠2000003) (h:SessR st d g es 6) (hrest:rest.length<=100000)
  (c1:Go.Ev.Fn CX 34 [.str (bs line),.str (bs [108,101,116])] (.tup [y1,.str (bs r1),.bool b1])) (c2:Go.Ev.Fn CX 34 [.str (bs r1),.str (bs nm)] (.tup [y2,.str (bs r2),.bool b2])) (c3:Go.Ev.Fn CX 34 [.str (bs r2),.str (bs [61])] (.tup [y3,.str (bs x),.bool b3]))
  (hnm:nm.length<=1000) (hx:x.length<=100000) (h16:es.length<=16) (hp:PosAt es nm p) (hpe:(parseP x).1<10)
  (k : ∀st',KeepQ d st st'->SessR st' d g (letP es nm x p).2 6->WO CX false ops l (st'.putO dst (.sv (.str (bs (toldT (letP es nm x p).1 [111,107]))))) Q) :
  WN CX ops l dst st Q 18 [.pst d g,.sv (.str (bs line)),.sv (.sl (rest.length+3) (strK ([108,101,116]::nm::[61]::rest)))]:=by
 have hd':2000000<=d:=hd
 have c0:((bs [61]).toList==(ByteArray.mk #[61]).toList)=true:=word_is.trans (by decide)
 have ln:=let_num (es:=es) (t:=nm) (p:=p) hpe
 have tl:=tool_toldG (letP es nm x p).1 ln.1 ln.2 [111,107]
 have z0:decide (((rest.length+3:Nat):Int)<3)=false:=decide_eq_false (by omega)
 refine wni Tryz.f18 ?_;unfold Tryz.f18;simp only[Option.get!_some]
 repeat (first|simp only[go_sem,hd',strK,c0,z0,Bool.not_true,List.map_cons,Int.reduceAdd,Int.zero_add,List.drop_succ_cons,List.drop_zero,List.head?_cons,Option.map_some,List.take_succ_cons,List.take_zero]|simp (disch:=first|exact oa|fail) only[AX,hd',strK,c0,z0,Bool.not_true,List.map_cons,Int.reduceAdd,Int.zero_add,List.drop_succ_cons,List.drop_zero,List.head?_cons,Option.map_some,List.take_succ_cons,List.take_zero]|refine wki ?_|refine wqn ?_|refine vpl 8 [] [([0,1,2,3,4,5],some (6,[])),([],some (7,[])),([8],none)] ?_)
 rw[vp_loop]
 repeat (first|simp only[go_sem,Int.reduceAdd,Int.zero_add,List.drop_succ_cons,List.drop_zero,List.head?_cons,Option.map_some,List.drop_nil]|simp (disch:=first|exact oa|fail) only[AX,Int.reduceAdd,Int.zero_add,List.drop_succ_cons,List.drop_zero,List.head?_cons,Option.map_some,List.drop_nil]|refine wki ?_|refine wqn ?_|refine vpl 8 [] [([0,1,2,3,4,5],some (6,[])),([],some (7,[])),([8],none)] ?_|refine vf_of (by first|exact c1) ?_)
 rw[vp_loop]
 repeat (first|simp only[go_sem,Int.reduceAdd,Int.zero_add,List.drop_succ_cons,List.drop_zero,List.head?_cons,Option.map_some,List.drop_nil]|simp (disch:=first|exact oa|fail) only[AX,Int.reduceAdd,Int.zero_add,List.drop_succ_cons,List.drop_zero,List.head?_cons,Option.map_some,List.drop_nil]|refine wki ?_|refine wqn ?_|refine vpl 8 [] [([0,1,2,3,4,5],some (6,[])),([],some (7,[])),([8],none)] ?_|refine vf_of (by first|exact c2) ?_)
 rw[vp_loop]
 repeat (first|simp only[go_sem,Int.reduceAdd,Int.zero_add,List.drop_succ_cons,List.drop_zero,List.head?_cons,Option.map_some,List.drop_nil]|simp (disch:=first|exact oa|fail) only[AX,Int.reduceAdd,Int.zero_add,List.drop_succ_cons,List.drop_zero,List.head?_cons,Option.map_some,List.drop_nil]|refine wki ?_|refine wqn ?_|refine vpl 8 [] [([0,1,2,3,4,5],some (6,[])),([],some (7,[])),([8],none)] ?_|refine vf_of (by first|exact c3) ?_)
 rw[vp_loop]
 repeat (first|simp only[go_sem,Int.reduceAdd,Int.zero_add,List.drop_succ_cons,List.drop_zero,List.head?_cons,Option.map_some,List.drop_nil]|simp (disch:=first|exact oa|fail) only[AX,Int.reduceAdd,Int.zero_add,List.drop_succ_cons,List.drop_zero,List.head?_cons,Option.map_some,List.drop_nil]|refine wki ?_|refine wqn ?_|refine vpl 8 [] [([0,1,2,3,4,5],some (6,[])),([],some (7,[])),([8],none)] ?_)
 refine sess_Let_is (by omega) hx h16 hp (((h.of (s:=st.enter [.pst d g,.sv (.str (bs line)),.sv (.sl (rest.length+3) (strK ([108,101,116]::nm::[61]::rest)))]) rfl (fun _=>rfl) (Nat.le_refl _)).newH (t:=3) (ts:=[.ptr d g 0]) hd3).of rfl (fun _=>rfl) (Nat.le_refl _)) ?_
 intro s1 hk hs1
 repeat (first|simp only[go_sem]|simp (disch:=first|exact oa|fail) only[AX]|refine wki ?_|refine wqn ?_|refine vpl 8 [] [([0,1,2,3,4,5],some (6,[])),([],some (7,[])),([8],none)] ?_|refine vf_of (by first|exact tl) ?_)
 exact k _ (keepq_of (by repeat (first|exact Kq.self|refine Kq.put ?_|refine Kq.trans ?_ (Kq.of hk.kp)|refine Kq.newH ?_))) (hs1.of rfl (fun _=>rfl) (Nat.le_refl _))
end
end Go.Proofs.YtcfjiolldehegaaGreatDoor
set_option maxHeartbeats 4000000
namespace Go.Proofs.YtcfjiolldehegaaGreatDoor
open Go.Ev
def Good (es:List Ent):Prop := ∀e∈es,∃ql:List Rat,e.2.1=ql.length/\e.2.2=rvsC ql/\ql.length<=256 /\ ∀q∈ql,szR q 500
theorem good_nil:Good []:=fun _ h=>by cases h
theorem good_at {es:List Ent} {i:Nat} (h:Good es) (hi:i<es.length) : ∃ql:List Rat,(es.getD i default).2.1=ql.length/\(es.getD i default).2.2=rvsC ql/\ql.length<=256 /\ ∀q∈ql,szR q 500:=by
 refine h _ ?_
 rw[List.getD_eq_getElem?_getD,List.getElem?_eq_getElem hi]
 exact List.getElem_mem _
theorem set_good {es:List Ent} {t:List UInt8} {p:Nat} {ql:List Rat} (h:Good es) (hz : ∀q∈ql,szR q 500):Good (setP es t p ql.length (rvsC ql)).2:=by
 unfold setP
 split
 ·exact h
 ·split
  ·exact h
  ·rename_i h7
   have hm:ql.length<=256:=by
    have : ¬256<ql.length:=fun e=>h7 (.inl e)
    omega
   split
   ·intro e he
    rcases List.mem_or_eq_of_mem_set he with he|rfl
    ·exact h e he
    ·exact⟨ql,rfl,rfl,hm,hz⟩
   ·intro e he
    rcases List.mem_append.1 he with he|he
    ·exact h e (List.mem_of_mem_take he)
    ·rcases List.mem_cons.1 he with rfl|he
     ·exact⟨ql,rfl,rfl,hm,hz⟩
     ·exact h e (List.mem_of_mem_drop he)
theorem let_good {es:List Ent} {t x:List UInt8} {p:Nat} (h:Good es):Good (letP es t x p).2:=by
 unfold letP
 split
 ·exact h
 ·split
  ·exact set_good h parse_sz
  ·exact h
section
variable {ops:Array Oper} {l:List Oper} {dst:Option Nat} {st:St} {Q:St->Prop} {d g dx gx p:Nat} {es:List Ent} {t:List UInt8} {D:Int}
end
end Go.Proofs.YtcfjiolldehegaaGreatDoor
namespace Go.Proofs.YtcfjiolldehegaaGreatDoor
open Go.Ev
theorem join_is (xs:List (List UInt8)):Lib.join xs [32]=joinW xs:=by
 cases xs with
 |nil=>rfl
 |cons x r=>rw[Lib.join_cons,join_cons];rfl
theorem joinW_len {l:List (List UInt8)} {K:Nat} (h : ∀x∈l,x.length<=K):(joinW l).length<=l.length*(K+1):=by
 induction l with
 |nil=>simp[joinW]
 |cons x l ih=>
  cases l with
  |nil=>
   have:=h x List.mem_cons_self
   simp[joinW]
   omega
  |cons y l=>
   have h1:=h x List.mem_cons_self
   have h2:=ih fun z hz=>h z (List.mem_cons_of_mem _ hz)
   rw[joinW,List.length_append,List.length_cons,List.length_cons,Nat.add_mul]
   omega
theorem ratT_lenG {q:Rat} {L:Nat} (h:szR q L) (hL:1<=L):(ratT q).length<=20*L+2:=by
 rw[ratT_eq,List.length_append,List.length_append]
 have l1:=dec_len_le (lim20 (n:=q.num.natAbs) h.1) (by omega)
 have l2:=dec_len_le (lim20 (n:=q.den) h.2) (by omega)
 have l0:=sgT_len (decide (q.num<0))
 split
 ·simp;omega
 ·rw[List.length_cons];omega
theorem data_Print {cs:List SV} {l:List Rat} {L:Nat} (h:RowC cs l L) (hL:1<=L) (hL2:L<=100000) (hl:l.length<=1000):Go.Ev.Fn CX 56 [.sl l.length cs] (.str (bs (joinW (l.map ratT)))):=by
 have hlen:=row_len h
 have hone:=row_one h
 have hat:=fun {i:Nat} (hi:i<l.length)=>row_at (i:=i) h hi
 have hsz:=row_sz hL h
 have hjl:=joinW_len (l:=l.map ratT) (K:=20*L+2) (fun x hx=>by
  obtain⟨q,hq,rfl⟩:=List.mem_map.1 hx
  exact ratT_lenG (hsz q hq) hL)
 rw[List.length_map]at hjl
 have hjb:l.length*(20*L+2+1)<=1000*2000003:=Nat.mul_le_mul hl (by omega)
 have hjn:=x_join (xs:=l.map ratT) (n:=l.length) [32] (List.length_map _) (by omega) (by rw[join_is];omega)
 rw[join_is]at hjn
 refine fni Tryz.f56 ?_;unfold Tryz.f56;simp only[Option.get!_some]
 repeat (first|simp only[go_sem]|simp (disch:=first|exact oa|fail) only[AX]|refine wki ?_|refine wqn ?_)
 refine vp_loop_inv (fun s=>s.tmp 6 = .sv (.sl l.length cs)/\s.tmp 7 = .sv (.int .i64 (l.length:Int)) /\ ∃i:Nat,s.tmp 8 = .sv (.int .i64 (i:Int))/\i<=l.length /\
   ((i=0/\s.tmp 3 = .nil/\s.gen 16=0)\/(0<i/\s.tmp 3 = .ref 16 0 1 0 i/\s.obj 16 0=some (((l.take i).map ratT).map strC))))
  (fun s=>match s.tmp 8 with | .sv (.int _ i)=>l.length-i.toNat|_=>0) ?_ ?_
 ·exact⟨rfl,rfl,0,rfl,by omega,.inl ⟨rfl,rfl,rfl⟩⟩
 rintro s ⟨i6,i7,i,i8,hi,hc⟩
 by_cases hend:i=l.length
 ·subst hend
  rcases hc with⟨h0,i3,-⟩|⟨h0,i3,iO⟩
  ·have hnil:l=[]:=List.eq_nil_of_length_eq_zero h0
   subst hnil
   repeat (first|simp only[go_sem,i6,i7,i8,i3,mk_bs,List.length_nil]|simp (disch:=first|exact oa|fail) only[AX,i6,i7,i8,i3,mk_bs,List.length_nil]|refine wki ?_|refine wqn ?_|refine vf_of (by first|exact hjn) ?_)
  ·rw[List.take_length]at iO
   have ht:List.take l.length ((l.map ratT).map strC)=(l.map ratT).map strC:=List.take_of_length_le (by simp)
   repeat (first|simp only[go_sem,i6,i7,i8,i3,iO,mk_bs,ht]|simp (disch:=first|exact oa|fail) only[AX,i6,i7,i8,i3,iO,mk_bs,ht]|refine wki ?_|refine wqn ?_|refine vf_of (by first|exact hjn) ?_)
 ·have hlt:i<l.length:=by omega
  obtain⟨s',n',d',rest,g1,g2⟩:=hat hlt
  have hp:=dec_Print g2 hL (by omega)
  have hsn:((l.take (i+1)).map ratT).map strC=((l.take i).map ratT).map strC++[.str (bs (ratT (l.getD i 0)))]:=by
   rw[List.take_add_one,List.getElem?_eq_getElem hlt,List.getD_eq_getElem?_getD,List.getElem?_eq_getElem hlt,List.map_append,List.map_append]
   rfl
  have hln:(((l.take i).map ratT).map strC).length=i:=by simp;omega
  clear hat hjn hjl g2
  generalize hA:((l.take (i+1)).map ratT).map strC=A at *
  generalize hB:((l.take i).map ratT).map strC=B at *
  generalize ratT (l.getD i 0)=T at *
  rcases hc with⟨h0,i3,ig⟩|⟨h0,i3,iO⟩
  ·subst h0
   have hBn:B=[]:=List.eq_nil_of_length_eq_zero hln
   rw[hBn,List.nil_append]at hsn
   repeat (first|simp only[go_sem,i6,i7,i8,i3,ig,g1,hlen]|simp (disch:=first|exact oa|fail) only[AX,i6,i7,i8,i3,ig,g1,hlen]|refine wki ?_|refine wqn ?_|refine vf_of (by first|exact hp) ?_)
   exact⟨⟨1,rfl,by omega,.inr ⟨by omega,rfl,by rw[hA,hsn]⟩⟩,by omega⟩
  ·repeat (first|simp only[go_sem,i6,i7,i8,i3,iO,g1,hlen]|simp (disch:=first|exact oa|fail) only[AX,i6,i7,i8,i3,iO,g1,hlen]|refine wki ?_|refine wqn ?_)
   refine vf_of (hp) ?_;repeat (first|simp only[go_sem,i6,i7,i8,i3,iO,g1,hlen,hln,N0]|simp (disch:=first|exact oa|fail) only[AX,i6,i7,i8,i3,iO,g1,hlen,hln,N0]|refine wki ?_|refine wqn ?_)
   exact⟨⟨i+1,rfl,by omega,.inr ⟨by omega,rfl,by rw[hA,hsn]⟩⟩,by omega⟩
end Go.Proofs.YtcfjiolldehegaaGreatDoor
namespace Go.Proofs.YtcfjiolldehegaaGreatDoor
open Go.Ev
def wShow:List UInt8:=[115,104,111,119]
def wSum:List UInt8:=[115,117,109]
def wMean:List UInt8:=[109,101,97,110]
section
variable {ops:Array Oper} {l:List Oper} {dst:Option Nat} {st:St} {Q:St->Prop} {d g:Nat} {es:List Ent} {p:Nat} {nm:List UInt8} {ql:List Rat}
theorem desk_rowsAt (hd:H0<=d) (hd2:d≠2000002) (h:SessR st d g es 6) (hp:PosAt es nm p) (hl:es.length<=16) (hat:isAt es nm p=true) (e5:(es.getD p default).2.1=ql.length) (e6:(es.getD p default).2.2=rvsC ql) (hm:ql.length<=256) (hz : ∀q∈ql,szR q 500)
  (k : ∀st',KeepQ d st st'->SessR st' d g es 6->WO CX false ops l (st'.putO dst (.sv (.tup [.sl 1 [.sl ql.length (rvsC ql)],.int .i64 0]))) Q) :
  WN CX ops l dst st Q 55 [.pst d g,.sv (.sl 1 [.str (bs nm)])]:=by
 have hd':2000000<=d:=hd
 have hrow:=rvsC_row (L:=500) ql hz
 have hc:Go.Ev.Fn CX 129 [.sl (es.getD p default).2.1 (es.getD p default).2.2] (.sl (es.getD p default).2.1 (rvsC ql)):=by
  rw[e5,e6]
  exact sess_copied hrow (by omega) (by omega) (by omega)
 refine wni Tryz.f55 ?_;unfold Tryz.f55;simp only[Option.get!_some]
 repeat (first|simp only[go_sem,hd']|simp (disch:=first|exact oa|fail) only[AX,hd']|refine wki ?_|refine wqn ?_)
 rw[vp_loop]
 repeat (first|simp only[go_sem,hd',Int.reduceAdd,Int.zero_add,List.drop_succ_cons,List.drop_zero,List.head?_cons,Option.map_some,List.drop_nil]|simp (disch:=first|exact oa|fail) only[AX,hd',Int.reduceAdd,Int.zero_add,List.drop_succ_cons,List.drop_zero,List.head?_cons,Option.map_some,List.drop_nil]|refine wki ?_|refine wqn ?_)
 refine sess_Get_atS (D:=6) hp (by omega) hat hc (((h.of (s:=st.enter [.pst d g,.sv (.sl 1 [.str (bs nm)])]) rfl (fun _=>rfl) (Nat.le_refl _)).newH (t:=2) (ts:=[.ptr d g 0]) hd2).of rfl (fun _=>rfl) (Nat.le_refl _)) ?_
 intro s1 hk
 have k6:s1.tmp 6 = .nil:=(hk.tmp 6).trans rfl
 have k11:s1.tmp 11 = .sv (.sl 1 [.str (bs nm)]):=(hk.tmp 11).trans rfl
 have k12:s1.tmp 12 = .sv (.int .i64 1):=(hk.tmp 12).trans rfl
 have k13:s1.tmp 13 = .sv (.int .i64 0):=(hk.tmp 13).trans rfl
 rw[e5]
 repeat (first|simp only[go_sem,k6,k11,k12,k13,Int.reduceAdd,Int.zero_add,List.drop_succ_cons,List.drop_zero,List.head?_cons,Option.map_some,List.drop_nil]|simp (disch:=first|exact oa|fail) only[AX,k6,k11,k12,k13,Int.reduceAdd,Int.zero_add,List.drop_succ_cons,List.drop_zero,List.head?_cons,Option.map_some,List.drop_nil]|refine wki ?_|refine wqn ?_)
 have n30:decide (30<N0)=true:=by decide
 have kq1:Kq d (st.enter [.pst d g,.sv (.sl 1 [.str (bs nm)])]) s1:=by repeat (first|exact Kq.self|refine Kq.trans ?_ (Kq.of hk.keep.kp)|refine Kq.put ?_|refine Kq.newH ?_)
 have g30:st.gen 30<=s1.gen 30:=kq1.gen 30
 have hs1:SessR s1 d g es 6:=((h.of (s:=st.enter [.pst d g,.sv (.sl 1 [.str (bs nm)])]) rfl (fun _=>rfl) (Nat.le_refl _)).newH (t:=2) (ts:=[.ptr d g 0]) hd2).of (by rw[hk.hob];rfl) (fun g1=>(hk.obj 25 g1).trans rfl) (by rw[hk.gen];exact Nat.le_refl _)
 rw[vp_loop]
 repeat (first|simp only[go_sem,k6,k11,k12,k13,n30,Int.reduceAdd,Int.zero_add,List.drop_succ_cons,List.drop_zero,List.head?_cons,Option.map_some,List.drop_nil]|simp (disch:=first|exact oa|fail) only[AX,k6,k11,k12,k13,n30,Int.reduceAdd,Int.zero_add,List.drop_succ_cons,List.drop_zero,List.head?_cons,Option.map_some,List.drop_nil]|refine wki ?_|refine wqn ?_)
 have hs2:=((hs1.newT (t:=29) (cs:=[.sl ql.length (rvsC ql)]) (v := .ref 29 (s1.gen 29) 1 0 1) (by decide)).newT (t:=30) (cs:=[.sl ql.length (rvsC ql)]) (v := .ref 30 (s1.gen 30) 1 0 1) (by decide)).frzT (n:=30) (g2:=s1.gen 30) (cs:=[.sl ql.length (rvsC ql)]) (by decide)
 exact k _ (keepq_of (by repeat (first|exact kq1|exact g30|refine Kq.put ?_|refine Kq.new ?_|refine Kq.frzd (by decide) ?_ ?_))) (hs2.of rfl (fun _=>rfl) (Nat.le_refl _))
theorem desk_rowsNone (hd:H0<=d) (hd2:d≠2000002) (h:SessR st d g es 6) (hp:PosAt es nm p) (hl:es.length<=16) (hat:isAt es nm p=false)
  (k : ∀st',KeepQ d st st'->SessR st' d g es 6->WO CX false ops l (st'.putO dst (.sv (.tup [.sl 0 [],.int .i64 6]))) Q) :
  WN CX ops l dst st Q 55 [.pst d g,.sv (.sl 1 [.str (bs nm)])]:=by
 have hd':2000000<=d:=hd
 refine wni Tryz.f55 ?_;unfold Tryz.f55;simp only[Option.get!_some]
 repeat (first|simp only[go_sem,hd']|simp (disch:=first|exact oa|fail) only[AX,hd']|refine wki ?_|refine wqn ?_)
 rw[vp_loop]
 repeat (first|simp only[go_sem,hd',Int.reduceAdd,Int.zero_add,List.drop_succ_cons,List.drop_zero,List.head?_cons,Option.map_some,List.drop_nil]|simp (disch:=first|exact oa|fail) only[AX,hd',Int.reduceAdd,Int.zero_add,List.drop_succ_cons,List.drop_zero,List.head?_cons,Option.map_some,List.drop_nil]|refine wki ?_|refine wqn ?_)
 refine sess_Get_noneS (D:=6) hp (by omega) hat (((h.of (s:=st.enter [.pst d g,.sv (.sl 1 [.str (bs nm)])]) rfl (fun _=>rfl) (Nat.le_refl _)).newH (t:=2) (ts:=[.ptr d g 0]) hd2).of rfl (fun _=>rfl) (Nat.le_refl _)) ?_
 intro s1 hk
 have kq1:Kq d (st.enter [.pst d g,.sv (.sl 1 [.str (bs nm)])]) s1:=by repeat (first|exact Kq.self|refine Kq.trans ?_ (Kq.of hk.keep.kp)|refine Kq.put ?_|refine Kq.newH ?_)
 have hs1:SessR s1 d g es 6:=((h.of (s:=st.enter [.pst d g,.sv (.sl 1 [.str (bs nm)])]) rfl (fun _=>rfl) (Nat.le_refl _)).newH (t:=2) (ts:=[.ptr d g 0]) hd2).of (by rw[hk.hob];rfl) (fun g1=>(hk.obj 25 g1).trans rfl) (by rw[hk.gen];exact Nat.le_refl _)
 repeat (first|simp only[go_sem,Int.reduceAdd,Int.zero_add,List.drop_succ_cons,List.drop_zero,List.head?_cons,Option.map_some,List.drop_nil]|simp (disch:=first|exact oa|fail) only[AX,Int.reduceAdd,Int.zero_add,List.drop_succ_cons,List.drop_zero,List.head?_cons,Option.map_some,List.drop_nil]|refine wki ?_|refine wqn ?_)
 exact k _ (keepq_of (by repeat (first|exact kq1|refine Kq.put ?_|refine Kq.new ?_))) (hs1.of rfl (fun _=>rfl) (Nat.le_refl _))
end
end Go.Proofs.YtcfjiolldehegaaGreatDoor
namespace Go.Proofs.YtcfjiolldehegaaGreatDoor
open Go.Ev
theorem names_show:Go.Ev.Fn CX 26 [.str (bs wShow)] (.int .i64 1):=⟨30,[none],by kernel_rfl⟩
theorem names_sum:Go.Ev.Fn CX 26 [.str (bs wSum)] (.int .i64 1):=⟨30,[none],by kernel_rfl⟩
theorem names_mean:Go.Ev.Fn CX 26 [.str (bs wMean)] (.int .i64 1):=⟨30,[none],by kernel_rfl⟩
theorem about_sum {ql:List Rat} (hm:ql.length<=256) (hz : ∀q∈ql,szR q 500):Go.Ev.Fn CX 58 [.str (bs wSum),.sl 1 [.sl ql.length (rvsC ql)]] (.tup [rv (sumR ql),.int .i64 0]):=by
 have hrow:=rvsC_row (L:=500) ql hz
 have s1:=stat_SumN hrow (by omega) (by omega) hm
 have c0:((bs wSum).toList==(ByteArray.mk #[109,101,97,110]).toList)=false:=word_is.trans (by decide)
 have c1:((bs wSum).toList==(ByteArray.mk #[118,97,114]).toList)=false:=word_is.trans (by decide)
 have c2:((bs wSum).toList==(ByteArray.mk #[109,101,100,105,97,110]).toList)=false:=word_is.trans (by decide)
 have c3:((bs wSum).toList==(ByteArray.mk #[99,111,118]).toList)=false:=word_is.trans (by decide)
 have c4:((bs wSum).toList==(ByteArray.mk #[107,101,110,100,97,108,108]).toList)=false:=word_is.trans (by decide)
 generalize rvsC ql=cs at *
 generalize sumR ql=q at *
 refine fni Tryz.f58 ?_;unfold Tryz.f58;simp only[Option.get!_some]
 repeat (first|simp only[go_sem,c0,c1,c2,c3,c4,List.head?_cons]|simp (disch:=first|exact oa|fail) only[AX,c0,c1,c2,c3,c4,List.head?_cons]|refine wki ?_|refine wqn ?_|refine vpd 9 [35,38] ?_|refine vpd 11 [46,49] ?_|refine vf_of (by first|exact s1) ?_)
theorem about_mean {ql:List Rat} (hm:ql.length<=256) (hz : ∀q∈ql,szR q 500):Go.Ev.Fn CX 58 [.str (bs wMean),.sl 1 [.sl ql.length (rvsC ql)]] (if ql.length=0 then numE 0 5 else numE (meanR ql) 0):=by
 have hrow:=rvsC_row (L:=500) ql hz
 have s1:=stat_MeanN hrow (by omega) (by omega) hm
 have c0:((bs wMean).toList==(ByteArray.mk #[109,101,97,110]).toList)=true:=word_is.trans (by decide)
 generalize rvsC ql=cs at *
 by_cases h0:ql.length=0
 ·rw[if_pos h0]at s1 ⊢
  refine fni Tryz.f58 ?_;unfold Tryz.f58;simp only[Option.get!_some]
  repeat (first|simp only[go_sem,c0,List.head?_cons]|simp (disch:=first|exact oa|fail) only[AX,c0,List.head?_cons]|refine wki ?_|refine wqn ?_|refine vpd 9 [35,38] ?_|refine vpd 11 [46,49] ?_|refine vf_of (by first|exact s1) ?_)
 ·rw[if_neg h0]at s1 ⊢
  generalize meanR ql=q at *
  refine fni Tryz.f58 ?_;unfold Tryz.f58;simp only[Option.get!_some]
  repeat (first|simp only[go_sem,c0,List.head?_cons]|simp (disch:=first|exact oa|fail) only[AX,c0,List.head?_cons]|refine wki ?_|refine wqn ?_|refine vpd 9 [35,38] ?_|refine vpd 11 [46,49] ?_|refine vf_of (by first|exact s1) ?_)
def outShow (ql:List Rat):List UInt8:=joinW (ql.map ratT)
def outSum (ql:List Rat):List UInt8:=ratT (sumR ql)
def outMean (ql:List Rat):List UInt8:=if ql.length=0 then toldT 5 [] else ratT (meanR ql)
section
variable {ops:Array Oper} {l:List Oper} {dst:Option Nat} {st:St} {Q:St->Prop} {d g:Nat} {es:List Ent} {p:Nat} {nm w:List UInt8} {ql:List Rat}
theorem desk_row_none (hw:w=wShow\/w=wSum\/w=wMean) (hd:H0<=d) (hd2:d≠2000002) (h:SessR st d g es 6) (hp:PosAt es nm p) (hl:es.length<=16) (hat:isAt es nm p=false)
  (k : ∀st',KeepQ d st st'->SessR st' d g es 6->WO CX false ops l (st'.putO dst (.sv (.str (bs (toldT 6 []))))) Q) :
  WN CX ops l dst st Q 27 [.pst d g,.sv (.sl 2 (strK [w,nm]))]:=by
 have hd':2000000<=d:=hd
 have nmw:Go.Ev.Fn CX 26 [.str (bs w)] (.int .i64 1):=by
  rcases hw with rfl|rfl|rfl
  ·exact names_show
  ·exact names_sum
  ·exact names_mean
 have fl:Go.Ev.Fn CX 10 [.int .i64 6] (.str (bs (toldT 6 []))):=⟨30,[none],by kernel_rfl⟩
 refine wni Tryz.f27 ?_;unfold Tryz.f27;simp only[Option.get!_some]
 repeat (first|simp only[go_sem,hd',strK,List.map_cons,List.map_nil,Int.reduceAdd,Int.zero_add,List.drop_succ_cons,List.drop_zero,List.head?_cons,Option.map_some,List.drop_nil]|simp (disch:=first|exact oa|fail) only[AX,hd',strK,List.map_cons,List.map_nil,Int.reduceAdd,Int.zero_add,List.drop_succ_cons,List.drop_zero,List.head?_cons,Option.map_some,List.drop_nil]|refine wki ?_|refine wqn ?_|refine vpl 3 [1] [([0,1,2],some (3,[])),([4,5,6,7,8],none)] ?_|refine vpd 10 [] ?_|refine vf_of (by first|exact nmw) ?_)
 refine desk_rowsNone hd hd2 (((h.of (s:=st.enter [.pst d g,.sv (.sl 2 (strK [w,nm]))]) rfl (fun _=>rfl) (Nat.le_refl _)).newH (t:=2) (ts:=[.ptr d g 0]) hd2).of rfl (fun _=>rfl) (Nat.le_refl _)) hp hl hat ?_
 intro s1 hk hs1
 repeat (first|simp only[go_sem]|simp (disch:=first|exact oa|fail) only[AX]|refine wki ?_|refine wqn ?_|refine vpl 3 [1] [([0,1,2],some (3,[])),([4,5,6,7,8],none)] ?_|refine vpd 10 [] ?_|refine vf_of (by first|exact fl) ?_)
 exact k _ (keepq_of (by repeat (first|exact Kq.self|refine Kq.put ?_|refine Kq.newset ?_|refine Kq.trans ?_ hk.kq|refine Kq.newH ?_))) (hs1.of rfl (fun _=>rfl) (Nat.le_refl _))
theorem desk_row_show (hd:H0<=d) (hd2:d≠2000002) (h:SessR st d g es 6) (hp:PosAt es nm p) (hl:es.length<=16) (hat:isAt es nm p=true) (e5:(es.getD p default).2.1=ql.length) (e6:(es.getD p default).2.2=rvsC ql) (hm:ql.length<=256) (hz : ∀q∈ql,szR q 500)
  (k : ∀st',KeepQ d st st'->SessR st' d g es 6->WO CX false ops l (st'.putO dst (.sv (.str (bs (outShow ql))))) Q) :
  WN CX ops l dst st Q 27 [.pst d g,.sv (.sl 2 (strK [wShow,nm]))]:=by
 have hd':2000000<=d:=hd
 have nmw:=names_show
 have c0:((bs wShow).toList==(ByteArray.mk #[115,104,111,119]).toList)=true:=word_is.trans (by decide)
 have dp:=data_Print (rvsC_row (L:=500) ql hz) (by omega) (by omega) (by omega)
 have dp:Go.Ev.Fn CX 56 [.sl ql.length (rvsC ql)] (.str (bs (outShow ql))):=dp
 refine wni Tryz.f27 ?_;unfold Tryz.f27;simp only[Option.get!_some]
 repeat (first|simp only[go_sem,hd',strK,List.map_cons,List.map_nil,Int.reduceAdd,Int.zero_add,List.drop_succ_cons,List.drop_zero,List.head?_cons,Option.map_some,List.drop_nil]|simp (disch:=first|exact oa|fail) only[AX,hd',strK,List.map_cons,List.map_nil,Int.reduceAdd,Int.zero_add,List.drop_succ_cons,List.drop_zero,List.head?_cons,Option.map_some,List.drop_nil]|refine wki ?_|refine wqn ?_|refine vpl 3 [1] [([0,1,2],some (3,[])),([4,5,6,7,8],none)] ?_|refine vpd 10 [] ?_|refine vf_of (by first|exact nmw) ?_)
 refine desk_rowsAt hd hd2 (((h.of (s:=st.enter [.pst d g,.sv (.sl 2 (strK [wShow,nm]))]) rfl (fun _=>rfl) (Nat.le_refl _)).newH (t:=2) (ts:=[.ptr d g 0]) hd2).of rfl (fun _=>rfl) (Nat.le_refl _)) hp hl hat e5 e6 hm hz ?_
 intro s1 hk hs1
 have k1:s1.tmp 1 = .sv (.sl 2 [.str (bs wShow),.str (bs nm)]):=hk.tmp 1 rfl
 generalize outShow ql=out at *
 generalize rvsC ql=cs at *
 repeat (first|simp only[go_sem,k1,c0,Int.reduceAdd,Int.zero_add,List.drop_succ_cons,List.drop_zero,List.head?_cons,Option.map_some,List.drop_nil,List.map_cons,List.map_nil]|simp (disch:=first|exact oa|fail) only[AX,k1,c0,Int.reduceAdd,Int.zero_add,List.drop_succ_cons,List.drop_zero,List.head?_cons,Option.map_some,List.drop_nil,List.map_cons,List.map_nil]|refine wki ?_|refine wqn ?_|refine vpl 3 [1] [([0,1,2],some (3,[])),([4,5,6,7,8],none)] ?_|refine vpd 10 [] ?_|refine vf_of (by first|exact dp) ?_)
 exact k _ (keepq_of (by repeat (first|exact Kq.self|refine Kq.put ?_|refine Kq.newset ?_|refine Kq.trans ?_ hk.kq|refine Kq.newH ?_))) (hs1.of rfl (fun _=>rfl) (Nat.le_refl _))
theorem desk_row_sum (hd:H0<=d) (hd2:d≠2000002) (h:SessR st d g es 6) (hp:PosAt es nm p) (hl:es.length<=16) (hat:isAt es nm p=true) (e5:(es.getD p default).2.1=ql.length) (e6:(es.getD p default).2.2=rvsC ql) (hm:ql.length<=256) (hz : ∀q∈ql,szR q 500)
  (k : ∀st',KeepQ d st st'->SessR st' d g es 6->WO CX false ops l (st'.putO dst (.sv (.str (bs (outSum ql))))) Q) :
  WN CX ops l dst st Q 27 [.pst d g,.sv (.sl 2 (strK [wSum,nm]))]:=by
 have hd':2000000<=d:=hd
 have nmw:=names_sum
 have c0:((bs wSum).toList==(ByteArray.mk #[115,104,111,119]).toList)=false:=word_is.trans (by decide)
 have c1:((bs wSum).toList==(ByteArray.mk #[100,114,111,112]).toList)=false:=word_is.trans (by decide)
 have ab:=about_sum hm hz
 have pr:=dec_Print (RatA_rv (sz_sumN (by omega) hz hm)) (by omega) (by omega)
 have tl:=tool_toldG 0 (by omega) (by omega) (outSum ql)
 have e0:toldT 0 (outSum ql)=outSum ql:=if_pos rfl
 rw[e0]at tl
 have pr:Go.Ev.Fn CX 51 [rv (sumR ql)] (.str (bs (outSum ql))):=pr
 refine wni Tryz.f27 ?_;unfold Tryz.f27;simp only[Option.get!_some]
 repeat (first|simp only[go_sem,hd',strK,List.map_cons,List.map_nil,Int.reduceAdd,Int.zero_add,List.drop_succ_cons,List.drop_zero,List.head?_cons,Option.map_some,List.drop_nil]|simp (disch:=first|exact oa|fail) only[AX,hd',strK,List.map_cons,List.map_nil,Int.reduceAdd,Int.zero_add,List.drop_succ_cons,List.drop_zero,List.head?_cons,Option.map_some,List.drop_nil]|refine wki ?_|refine wqn ?_|refine vpl 3 [1] [([0,1,2],some (3,[])),([4,5,6,7,8],none)] ?_|refine vpd 10 [] ?_|refine vf_of (by first|exact nmw) ?_)
 refine desk_rowsAt hd hd2 (((h.of (s:=st.enter [.pst d g,.sv (.sl 2 (strK [wSum,nm]))]) rfl (fun _=>rfl) (Nat.le_refl _)).newH (t:=2) (ts:=[.ptr d g 0]) hd2).of rfl (fun _=>rfl) (Nat.le_refl _)) hp hl hat e5 e6 hm hz ?_
 intro s1 hk hs1
 have k1:s1.tmp 1 = .sv (.sl 2 [.str (bs wSum),.str (bs nm)]):=hk.tmp 1 rfl
 generalize outSum ql=out at *
 generalize sumR ql=q at *
 generalize rvsC ql=cs at *
 repeat (first|simp only[go_sem,k1,c0,c1,Int.reduceAdd,Int.zero_add,List.drop_succ_cons,List.drop_zero,List.head?_cons,Option.map_some,List.drop_nil,List.map_cons,List.map_nil]|simp (disch:=first|exact oa|fail) only[AX,k1,c0,c1,Int.reduceAdd,Int.zero_add,List.drop_succ_cons,List.drop_zero,List.head?_cons,Option.map_some,List.drop_nil,List.map_cons,List.map_nil]|refine wki ?_|refine wqn ?_|refine vpl 3 [1] [([0,1,2],some (3,[])),([4,5,6,7,8],none)] ?_|refine vpd 10 [] ?_|refine vf_of (by first|exact ab|exact pr|exact tl) ?_)
 have hs2:=(hs1.newT (t:=7) (cs:=[.bool false,.sl 0 [],.sl 0 []]) (v := .ptr 7 (s1.gen 7) 0) (by decide)).setT (n:=7) (g2:=s1.gen 7) (cs:=[.bool (decide (q.num<0)),natV (lim q.num.natAbs),natV (lim q.den)]) (by decide)
 exact k _ (keepq_of (by repeat (first|exact Kq.self|refine Kq.put ?_|refine Kq.newset ?_|refine Kq.trans ?_ hk.kq|refine Kq.newH ?_))) (hs2.of rfl (fun _=>rfl) (Nat.le_refl _))
end
end Go.Proofs.YtcfjiolldehegaaGreatDoor
namespace Go.Proofs.YtcfjiolldehegaaGreatDoor
open Go.Ev
def plB (b:UInt8):Bool:=decide (13<b.toNat)&&decide (b.toNat<128)
theorem sp_same {r:Nat} (h1:13<r) (h2:r<128):Lib.isSpaceR r=(r==32):=by
 rw[Bool.eq_iff_iff]
 unfold Lib.isSpaceR
 simp only[Bool.or_eq_true,Bool.and_eq_true,decide_eq_true_eq,beq_iff_eq]
 omega
theorem spans_same (p:Nat->Bool) (s:ByteArray) (h : ∀pos,pos<s.size->p (Utf8.decode s pos).1=Lib.isSpaceR (Utf8.decode s pos).1) : ∀ (f pos:Nat) (st:Option Nat) (acc:List (Nat×Nat)),Lib.spansFromP p s f pos st acc=Lib.spansFrom s f pos st acc
 |0,_,_,_=>rfl
 |f+1,pos,st,acc=>by
  unfold Lib.spansFromP Lib.spansFrom
  by_cases hp:pos<s.size
  ·rw[if_pos hp,if_pos hp,h pos hp]
   split<;>cases st<;>exact spans_same p s h f _ _ _
  ·rw[if_neg hp,if_neg hp]
theorem fldD_plain : ∀ (l cur:List UInt8) (f:Nat),l.length<=f->(∀b∈l,plB b=true)->Lib.fieldsGoD f cur l=Lib.fieldsGo cur l
 | [],cur,f,_,_=>by
  rw[Lib.fieldsGoD_nil]
  cases cur<;>simp[Lib.fieldsGo]
 |b::t,cur,0,hf,_=>by simp at hf
 |b::t,cur,f+1,hf,ha=>by
  have hb:b.toNat<128:=by
   have:=ha b List.mem_cons_self
   unfold plB at this
   rw[Bool.and_eq_true]at this
   exact of_decide_eq_true this.2
  have ih:=fun c=>fldD_plain t c f (by simp at hf;omega) (fun x hx=>ha x (List.mem_cons_of_mem _ hx))
  simp only[Lib.fieldsGoD,Lib.fieldsGo,Lib.decodeL_ascii b t hb]
  rw[if_neg (by simp)]
  cases hs:Lib.isSp b with
  |true=>
   rw[(Lib.isSp_true hs).2]
   simp only[if_true,List.drop_succ_cons,List.drop_zero,ih]
   cases cur<;>simp
  |false=>
   rw[Lib.isSp_false hs hb]
   simp only[Bool.false_eq_true,if_false,List.drop_succ_cons,List.drop_zero,List.take_succ_cons,List.take_zero,ih]
theorem words_plain (l:List UInt8) (h : ∀b∈l,plB b=true):(Lib.goFieldsP (fun c=>c==32) (bs l)).map (·.data.toList)=Lib.fields l:=by
 have e:Lib.goFieldsP (fun c=>c==32) (bs l)=Lib.goFields (bs l):=by
  unfold Lib.goFieldsP Lib.goFields Lib.spansOfP Lib.spansOf
  rw[spans_same _ _ fun pos hp => ?_]
  have hm:(bs l)[pos]'hp∈l:=by
   have:(bs l)[pos]'hp=l[pos]'(by rw[bs_size]at hp;exact hp):=by
    show (l.toArray)[pos]'_=_
    rfl
   rw[this]
   exact List.getElem_mem _
  have hb:=h _ hm
  unfold plB at hb
  rw[Bool.and_eq_true,decide_eq_true_eq,decide_eq_true_eq]at hb
  rw[decode_ascii (bs l) pos hp hb.2]
  exact(sp_same hb.1 hb.2).symm
 rw[e,Lib.goFields_eq]
 show Lib.fieldsGoD _ _ _=Lib.fieldsGo [] l
 exact fldD_plain l [] _ (by show l.toArray.toList.length<=_;exact Nat.le_succ _) h
theorem words_is (l:List UInt8) (hl:l.length<=4294967296) (h : ∀b∈l,plB b=true):Go.Ev.Fn CX 8 [.str (bs l)] (.sl (Lib.fields l).length (strK (Lib.fields l))):=by
 have t:=tool_words (bs l) (by rw[bs_size];exact hl)
 have e:=words_plain l h
 have e2:(Lib.goFieldsP (fun c=>c==32) (bs l)).map SV.str=strK (Lib.fields l):=by
  rw[<- e]
  unfold strK
  rw[List.map_map]
  exact List.map_congr_left fun x _=>rfl
 rw[e2]at t
 rw[<- e,List.length_map]
 rw[<- e]at t
 exact t
def numB (b:UInt8):Bool:=(decide (48<=b.toNat)&&decide (b.toNat<=57))||b==32||b==46
theorem numB_pl {b:UInt8} (h:numB b=true):plB b=true/\b≠10/\b≠35/\b≠61:=by
 unfold numB at h
 simp only[Bool.or_eq_true,Bool.and_eq_true,decide_eq_true_eq,beq_iff_eq]at h
 unfold plB
 rw[Bool.and_eq_true,decide_eq_true_eq,decide_eq_true_eq]
 rcases h with(⟨h1,h2⟩|rfl)|rfl
 ·refine⟨by omega,?_,?_,?_⟩<;>(intro e;subst e;revert h1 h2;decide)
 ·decide
 ·decide
theorem parse_blank (x:List UInt8):parseP (32::x)=parseP x:=by
 unfold parseP
 rw[show plainL false (32::x)=32::plainL false x from rfl,show toks [] (32::plainL false x)=toks [] (plainL false x) from toks_gaps (g:=[32]) (r:=plainL false x) (by decide)]
theorem numP_small (l:List UInt8):(numP l).1<10:=by
 unfold numP
 split
 ·decide
 ·split
  ·split
   ·split<;>(dsimp only;omega)
   ·decide
  ·split<;>(dsimp only;omega)
theorem runP_small : ∀l:List (List UInt8),(runP l).1<10
 | []=>by decide
 |t::r=>by
  have h1:=numP_small t
  have h2:=runP_small r
  unfold runP
  split
  ·rename_i q h
   split
   ·dsimp only;omega
   ·rename_i h'
    rw[h']at h2
    exact h2
  ·rename_i h
   rw[h]at h1
   exact h1
theorem parse_small (x:List UInt8):(parseP x).1<10:=by
 have h:=runP_small (toks [] (plainL false x))
 unfold parseP
 split
 ·split<;>(dsimp only;omega)
 ·rename_i e
  rw[e]at h
  exact h
end Go.Proofs.YtcfjiolldehegaaGreatDoor
namespace Go.Proofs.YtcfjiolldehegaaGreatDoor
open Go.Ev
theorem sz_meanN {L:Nat} {l:List Rat} (hL:1<=L) (h : ∀x∈l,szR x L) (hl:l.length<=256):szR (meanR l) (256*(L+1)+3):=
 szR_mono (szR_div (M:=2) (sz_sumN hL h hl) (int_szR (by omega)) (by omega) (by omega)) (by omega)
section
variable {ops:Array Oper} {l:List Oper} {dst:Option Nat} {st:St} {Q:St->Prop} {d g:Nat} {es es':List Ent} {p:Nat} {nm w line out:List UInt8} {ql:List Rat}
theorem desk_row_mean (hd:H0<=d) (hd2:d≠2000002) (h:SessR st d g es 6) (hp:PosAt es nm p) (hl:es.length<=16) (hat:isAt es nm p=true) (e5:(es.getD p default).2.1=ql.length) (e6:(es.getD p default).2.2=rvsC ql) (hm:ql.length<=256) (hz : ∀q∈ql,szR q 500)
  (k : ∀st',KeepQ d st st'->SessR st' d g es 6->WO CX false ops l (st'.putO dst (.sv (.str (bs (outMean ql))))) Q) :
  WN CX ops l dst st Q 27 [.pst d g,.sv (.sl 2 (strK [wMean,nm]))]:=by
 have hd':2000000<=d:=hd
 have nmw:=names_mean
 have c0:((bs wMean).toList==(ByteArray.mk #[115,104,111,119]).toList)=false:=word_is.trans (by decide)
 have c1:((bs wMean).toList==(ByteArray.mk #[100,114,111,112]).toList)=false:=word_is.trans (by decide)
 have ab:=about_mean hm hz
 obtain⟨q,e,he0,he1,hq,hout,hab⟩ : ∃ (q:Rat) (e:Int),0<=e/\e<10/\szR q 130000/\toldT e (ratT q)=outMean ql/\Go.Ev.Fn CX 58 [.str (bs wMean),.sl 1 [.sl ql.length (rvsC ql)]] (numE q e):=by
  by_cases h0:ql.length=0
  ·rw[if_pos h0]at ab
   exact⟨0,5,by omega,by omega,szR_zero (by omega),by unfold outMean;rw[if_pos h0];rfl,ab⟩
  ·rw[if_neg h0]at ab
   exact⟨meanR ql,0,by omega,by omega,szR_mono (sz_meanN (by omega) hz hm) (by omega),by unfold outMean;rw[if_neg h0];exact if_pos rfl,ab⟩
 clear ab
 have pr:=dec_Print (RatA_rv hq) (by omega) (by omega)
 have tl:=tool_toldG e he0 he1 (ratT q)
 rw[hout]at tl
 refine wni Tryz.f27 ?_;unfold Tryz.f27;simp only[Option.get!_some]
 repeat (first|simp only[go_sem,hd',strK,List.map_cons,List.map_nil,Int.reduceAdd,Int.zero_add,List.drop_succ_cons,List.drop_zero,List.head?_cons,Option.map_some,List.drop_nil]|simp (disch:=first|exact oa|fail) only[AX,hd',strK,List.map_cons,List.map_nil,Int.reduceAdd,Int.zero_add,List.drop_succ_cons,List.drop_zero,List.head?_cons,Option.map_some,List.drop_nil]|refine wki ?_|refine wqn ?_|refine vpl 3 [1] [([0,1,2],some (3,[])),([4,5,6,7,8],none)] ?_|refine vpd 10 [] ?_|refine vf_of (by first|exact nmw) ?_)
 refine desk_rowsAt hd hd2 (((h.of (s:=st.enter [.pst d g,.sv (.sl 2 (strK [wMean,nm]))]) rfl (fun _=>rfl) (Nat.le_refl _)).newH (t:=2) (ts:=[.ptr d g 0]) hd2).of rfl (fun _=>rfl) (Nat.le_refl _)) hp hl hat e5 e6 hm hz ?_
 intro s1 hk hs1
 have k1:s1.tmp 1 = .sv (.sl 2 [.str (bs wMean),.str (bs nm)]):=hk.tmp 1 rfl
 generalize outMean ql=out at *
 generalize ratT q=pt at *
 generalize rvsC ql=cs at *
 repeat (first|simp only[go_sem,k1,c0,c1,Int.reduceAdd,Int.zero_add,List.drop_succ_cons,List.drop_zero,List.head?_cons,Option.map_some,List.drop_nil,List.map_cons,List.map_nil]|simp (disch:=first|exact oa|fail) only[AX,k1,c0,c1,Int.reduceAdd,Int.zero_add,List.drop_succ_cons,List.drop_zero,List.head?_cons,Option.map_some,List.drop_nil,List.map_cons,List.map_nil]|refine wki ?_|refine wqn ?_|refine vpl 3 [1] [([0,1,2],some (3,[])),([4,5,6,7,8],none)] ?_|refine vpd 10 [] ?_|refine vf_of (by first|exact hab|exact pr|exact tl) ?_)
 have hs2:=(hs1.newT (t:=7) (cs:=[.bool false,.sl 0 [],.sl 0 []]) (v := .ptr 7 (s1.gen 7) 0) (by decide)).setT (n:=7) (g2:=s1.gen 7) (cs:=[.bool (decide (q.num<0)),natV (lim q.num.natAbs),natV (lim q.den)]) (by decide)
 exact k _ (keepq_of (by repeat (first|exact Kq.self|refine Kq.put ?_|refine Kq.newset ?_|refine Kq.trans ?_ hk.kq|refine Kq.newH ?_))) (hs2.of rfl (fun _=>rfl) (Nat.le_refl _))
def RowIs (d g:Nat) (es:List Ent) (w nm out:List UInt8):Prop := ∀ {ops:Array Oper} {l:List Oper} {dst:Option Nat} {st:St} {Q:St->Prop},SessR st d g es 6 ->
 (∀st',KeepQ d st st'->SessR st' d g es 6->WO CX false ops l (st'.putO dst (.sv (.str (bs out)))) Q)->WN CX ops l dst st Q 27 [.pst d g,.sv (.sl 2 (strK [w,nm]))]
theorem desk_lineR (hw:w=wShow\/w=wSum\/w=wMean) (hd:H0<=d) (hd3:d≠2000003) (hr:RowIs d g es w nm out) (h:SessR st d g es 6)
  (k : ∀st',KeepQ d st st'->SessR st' d g es 6->WO CX false ops l (st'.putO dst (.sv (.str (bs out)))) Q) :
  WN CX ops l dst st Q 11 [.pst d g,.sv (.str (bs line)),.sv (.sl 2 (strK [w,nm]))]:=by
 have hd':2000000<=d:=hd
 have nmw:Go.Ev.Fn CX 26 [.str (bs w)] (.int .i64 1):=by
  rcases hw with rfl|rfl|rfl
  ·exact names_show
  ·exact names_sum
  ·exact names_mean
 have c0:((bs w).toList==(ByteArray.mk #[108,101,116]).toList)=false:=by rcases hw with rfl|rfl|rfl<;>exact line_is (by decide)
 have c1:((bs w).toList==(ByteArray.mk #[110,97,109,101,115]).toList)=false:=by rcases hw with rfl|rfl|rfl<;>exact line_is (by decide)
 have c2:((bs w).toList==(ByteArray.mk #[100,105,103,105,116,115]).toList)=false:=by rcases hw with rfl|rfl|rfl<;>exact line_is (by decide)
 have c3:((bs w).toList==(ByteArray.mk #[99,100,102]).toList)=false:=by rcases hw with rfl|rfl|rfl<;>exact line_is (by decide)
 have c4:((bs w).toList==(ByteArray.mk #[97,98,111,118,101]).toList)=false:=by rcases hw with rfl|rfl|rfl<;>exact line_is (by decide)
 have c5:((bs w).toList==(ByteArray.mk #[113,117,97,110,116,105,108,101]).toList)=false:=by rcases hw with rfl|rfl|rfl<;>exact line_is (by decide)
 have c6:((bs w).toList==(ByteArray.mk #[109,111,109,101,110,116,115]).toList)=false:=by rcases hw with rfl|rfl|rfl<;>exact line_is (by decide)
 have c7:((bs w).toList==(ByteArray.mk #[98,105,110,111,109]).toList)=false:=by rcases hw with rfl|rfl|rfl<;>exact line_is (by decide)
 have c8:((bs w).toList==(ByteArray.mk #[108,101,97,115,116]).toList)=false:=by rcases hw with rfl|rfl|rfl<;>exact line_is (by decide)
 have c9:((bs w).toList==(ByteArray.mk #[100,101,99,105,100,101]).toList)=false:=by rcases hw with rfl|rfl|rfl<;>exact line_is (by decide)
 clear hw
 refine wni Tryz.f11 ?_;unfold Tryz.f11;simp only[Option.get!_some]
 repeat (first|simp only[go_sem,hd',strK,c0,c1,c2,c3,c4,c5,c6,c7,c8,c9,Int.reduceAdd,Int.zero_add,List.drop_succ_cons,List.drop_zero,List.head?_cons,Option.map_some,List.drop_nil,List.map_cons,List.map_nil]|simp (disch:=first|exact oa|fail) only[AX,hd',strK,c0,c1,c2,c3,c4,c5,c6,c7,c8,c9,Int.reduceAdd,Int.zero_add,List.drop_succ_cons,List.drop_zero,List.head?_cons,Option.map_some,List.drop_nil,List.map_cons,List.map_nil]|refine wki ?_|refine wqn ?_|refine vf_of (by first|exact nmw) ?_)
 refine hr (((h.of (s:=st.enter [.pst d g,.sv (.str (bs line)),.sv (.sl 2 (strK [w,nm]))]) rfl (fun _=>rfl) (Nat.le_refl _)).newH (t:=3) (ts:=[.ptr d g 0]) hd3).of rfl (fun _=>rfl) (Nat.le_refl _)) ?_
 intro s1 hk hs1
 repeat (first|simp only[go_sem]|simp (disch:=first|exact oa|fail) only[AX]|refine wki ?_|refine wqn ?_)
 exact k _ (keepq_of (by repeat (first|exact Kq.self|refine Kq.put ?_|refine Kq.trans ?_ hk.kq|refine Kq.newH ?_))) (hs1.of rfl (fun _=>rfl) (Nat.le_refl _))
theorem desk_lineL {r1 r2 x:List UInt8} {rest:List (List UInt8)} {y1 y2 y3:SV} {b1 b2 b3:Bool} (hd:H0<=d) (hd3:d≠2000003) (h:SessR st d g es 6) (hrest:rest.length<=100000)
  (c1:Go.Ev.Fn CX 34 [.str (bs line),.str (bs [108,101,116])] (.tup [y1,.str (bs r1),.bool b1])) (c2:Go.Ev.Fn CX 34 [.str (bs r1),.str (bs nm)] (.tup [y2,.str (bs r2),.bool b2])) (c3:Go.Ev.Fn CX 34 [.str (bs r2),.str (bs [61])] (.tup [y3,.str (bs x),.bool b3]))
  (hnm:nm.length<=1000) (hx:x.length<=100000) (h16:es.length<=16) (hp:PosAt es nm p)
  (k : ∀st',KeepQ d st st'->SessR st' d g (letP es nm x p).2 6->WO CX false ops l (st'.putO dst (.sv (.str (bs (toldT (letP es nm x p).1 [111,107]))))) Q) :
  WN CX ops l dst st Q 11 [.pst d g,.sv (.str (bs line)),.sv (.sl (rest.length+3) (strK ([108,101,116]::nm::[61]::rest)))]:=by
 have hd':2000000<=d:=hd
 have c0:((bs [108,101,116]).toList==(ByteArray.mk #[108,101,116]).toList)=true:=line_is (by decide)
 have e:strK ([108,101,116]::nm::[61]::rest) = .str (bs [108,101,116])::strK (nm::[61]::rest):=rfl
 refine wni Tryz.f11 ?_;unfold Tryz.f11;simp only[Option.get!_some]
 repeat (first|simp only[go_sem,hd',e,c0,Int.reduceAdd,Int.zero_add,List.drop_succ_cons,List.drop_zero,List.head?_cons,Option.map_some,List.drop_nil,List.map_cons,List.map_nil]|simp (disch:=first|exact oa|fail) only[AX,hd',e,c0,Int.reduceAdd,Int.zero_add,List.drop_succ_cons,List.drop_zero,List.head?_cons,Option.map_some,List.drop_nil,List.map_cons,List.map_nil]|refine wki ?_|refine wqn ?_)
 rw[<- e]
 refine desk_letG hd hd3 (((h.of (s:=st.enter [.pst d g,.sv (.str (bs line)),.sv (.sl (rest.length+3) (strK ([108,101,116]::nm::[61]::rest)))]) rfl (fun _=>rfl) (Nat.le_refl _)).newH (t:=3) (ts:=[.ptr d g 0]) hd3).of rfl (fun _=>rfl) (Nat.le_refl _)) hrest c1 c2 c3 hnm hx h16 hp (parse_small x) ?_
 intro s1 hk hs1
 repeat (first|simp only[go_sem]|simp (disch:=first|exact oa|fail) only[AX]|refine wki ?_|refine wqn ?_)
 exact k _ (keepq_of (by repeat (first|exact Kq.self|refine Kq.put ?_|refine Kq.trans ?_ hk.kq|refine Kq.newH ?_))) (hs1.of rfl (fun _=>rfl) (Nat.le_refl _))
end
end Go.Proofs.YtcfjiolldehegaaGreatDoor
namespace Go.Proofs.YtcfjiolldehegaaGreatDoor
open Go.Ev
abbrev Tln:=List UInt8×List UInt8×List Ent
def joinT:List Tln->List UInt8
 | []=>[]
 | [x]=>x.1
 |x::y::r=>x.1++10::joinT (y::r)
def restT:List Tln->Nat->List UInt8
 | [],_=>[]
 |x::r,0=>joinT (x::r)
 |_::r,k+1=>restT r k
def lineT:List Tln->Nat->List UInt8
 | [],_=>[]
 |x::_,0=>x.1
 |_::r,k+1=>lineT r k
def outT:List Tln->Nat->List UInt8
 | [],_=>[]
 |_::_,0=>[]
 |x::r,k+1=>x.2.1++outT r k
def entT (es:List Ent):List Tln->Nat->List Ent
 | [],_=>es
 |_::_,0=>es
 |x::r,k+1=>entT x.2.2 r k
def okT (es:List Ent):List Tln->Prop
 | []=>True
 |x::r=>((LineN x.1/\x.2.1=[]/\x.2.2=es) \/ ∃out,LineW x.1 es x.2.2 out/\x.2.1=out++[10])/\okT x.2.2 r
theorem out_zero (L:List Tln):outT L 0=[]:=by cases L<;>rfl
theorem ent_zero (es:List Ent) (L:List Tln):entT es L 0=es:=by cases L<;>rfl
theorem rest_mid : ∀ (L:List Tln) (k:Nat),k+1<L.length->restT L k=lineT L k++10::restT L (k+1)
 | [],k,h=>absurd h (Nat.not_lt_zero _)
 | [x],k,h=>by simp at h
 |x::y::r,0,_=>rfl
 |x::y::r,k+1,h=>rest_mid (y::r) k (by simp only[List.length_cons]at h ⊢;omega)
theorem rest_last : ∀ (x:Tln) (r:List Tln),restT (x::r) r.length=lineT (x::r) r.length
 |x,[]=>rfl
 |x,y::r=>rest_last y r
theorem line_mem : ∀ (L:List Tln) (k:Nat),k<L.length -> ∃x∈L,lineT L k=x.1
 | [],k,h=>absurd h (Nat.not_lt_zero _)
 |x::r,0,_=>⟨x,List.mem_cons_self,rfl⟩
 |x::r,k+1,h=>by
  obtain⟨y,hy,e⟩:=line_mem r k (by simp only[List.length_cons]at h;omega)
  exact⟨y,List.mem_cons_of_mem _ hy,e⟩
theorem rest_len : ∀ (L:List Tln) (k:Nat),(restT L k).length<=(joinT L).length
 | [],k=>Nat.zero_le _
 |x::r,0=>Nat.le_refl _
 | [x],k+1=>Nat.zero_le _
 |x::y::r,k+1=>by
  have:=rest_len (y::r) k
  show (restT (y::r) k).length<=(x.1++10::joinT (y::r)).length
  rw[List.length_append,List.length_cons]
  omega
theorem lines_T : ∀ (L:List Tln) (es:List Ent) (k:Nat),okT es L->k<L.length ->
  (LineN (lineT L k)/\outT L (k+1)=outT L k/\entT es L (k+1)=entT es L k) \/ ∃out,LineW (lineT L k) (entT es L k) (entT es L (k+1)) out/\outT L (k+1)=outT L k++(out++[10])
 | [],es,k,_,h=>absurd h (Nat.not_lt_zero _)
 |x::r,es,0,h,_=>by
  have e1:entT es (x::r) (0+1)=x.2.2:=ent_zero x.2.2 r
  have e2:outT (x::r) (0+1)=x.2.1:=by
   show x.2.1++outT r 0=_
   rw[out_zero,List.append_nil]
  rw[e1,e2]
  rcases h.1 with⟨h1,h2,h3⟩|⟨out,h1,h2⟩
  ·exact .inl ⟨h1,h2,h3⟩
  ·exact .inr ⟨out,h1,h2⟩
 |x::r,es,k+1,h,hk=>by
  have e2 : ∀j,outT (x::r) (j+1)=x.2.1++outT r j:=fun _=>rfl
  rcases lines_T r x.2.2 k h.2 (by simp only[List.length_cons]at hk;omega) with⟨h1,h2,h3⟩|⟨out,h1,h2⟩
  ·exact .inl ⟨h1,by rw[e2,e2,h2],h3⟩
  ·exact .inr ⟨out,h1,by rw[e2,e2,h2,List.append_assoc]⟩
theorem out_len : ∀ (L:List Tln) (es:List Ent) (k:Nat),okT es L->(outT L k).length<=L.length*10000001
 | [],es,k,_=>Nat.zero_le _
 |x::r,es,0,h=>Nat.zero_le _
 |x::r,es,k+1,h=>by
  have ih:=out_len r x.2.2 k h.2
  have h1:x.2.1.length<=10000001:=by
   rcases h.1 with⟨h1,h2,h3⟩|⟨out,h1,h2⟩
   ·rw[h2];exact Nat.zero_le _
   ·rw[h2,List.length_append]
    have:=h1.ol
    simp only[List.length_cons,List.length_nil]
    omega
  show (x.2.1++outT r k).length<=_
  rw[List.length_append,List.length_cons,Nat.succ_mul]
  omega
theorem pl_ten {l:List UInt8} (h : ∀b∈l,plB b=true):(10:UInt8)∉l:=fun hm=>absurd (h _ hm) (by decide)
theorem script_T {x:Tln} {r:List Tln} (hok:okT [] (x::r)) (hN:r.length<=90) (hpl : ∀y∈x::r,∀b∈y.1,plB b=true) (hlen:(joinT (x::r)).length<=1000000) (one:outT (x::r) (r.length+1)≠[]) :
  Script (restT (x::r)) (lineT (x::r)) (outT (x::r)) (entT [] (x::r)) (r.length+1) where
 hN:=by omega
 mid:=fun k hk=>rest_mid _ k hk
 no:=fun k hk=>by
  obtain⟨y,hy,e⟩:=line_mem (x::r) k hk
  rw[e]
  exact pl_ten (hpl y hy)
 last:=rest_last x r
 len:=fun k=>Nat.le_trans (rest_len _ k) hlen
 o0:=rfl
 e0:=rfl
 olen:=fun k _=>Nat.le_trans (out_len _ [] k hok) (by rw[List.length_cons];omega)
 one:=one
 lines:=fun k hk=>lines_T _ [] k hok hk
theorem cnt_le : ∀ (l:List UInt8) (ws:Bool),Lib.cntF ws l<=l.length
 | [],_=>Nat.le_refl _
 |b::t,ws=>by
  have:=cnt_le t (Lib.isSp b)
  simp only[Lib.cntF,List.length_cons]
  split<;>omega
theorem fields_le (l:List UInt8):(Lib.fields l).length<=l.length:=by rw[Lib.fields_length];exact cnt_le l true
theorem lineW_row {line w nm out:List UInt8} {es:List Ent} (hw:w=wShow\/w=wSum\/w=wMean) (hf:Lib.fields line=[w,nm]) (hpl : ∀b∈line,plB b=true) (hlen:line.length<=1024) (hr:RowIs 2000007 1 es w nm out) (ol:out.length<=10000000):LineW line es es out:=by
 have ww:=words_is line (by omega) hpl
 rw[hf]at ww
 have hc : ∃c r,w=c::r/\c≠35:=by
  rcases hw with rfl|rfl|rfl
  ·exact⟨_,_,rfl,by decide⟩
  ·exact⟨_,_,rfl,by decide⟩
  ·exact⟨_,_,rfl,by decide⟩
 obtain⟨c,r,rfl,hc⟩:=hc
 exact⟨⟨c,r,[nm],hc,ww,fun h k=>desk_lineR hw (by decide) (by decide) hr h k⟩,hlen,ol⟩
theorem lineW_let {line r1 r2 x:List UInt8} {rest:List (List UInt8)} {c:UInt8} {es:List Ent} {p:Nat} (hf:Lib.fields line=[108,101,116]::[c]::[61]::rest) (h1:(Lib.cut line [108,101,116]).2.1=r1) (h2:backL c r1=r2) (h3:backL 61 r2=x)
  (hpl : ∀b∈line,plB b=true) (hlen:line.length<=1024) (hr1:r1.length<=1024) (hr2:r2.length<=1024) (hx:x.length<=1024) (h16:es.length<=16) (hp:PosAt es [c] p):LineW line es (letP es [c] x p).2 (toldT (letP es [c] x p).1 [111,107]):=by
 have ww:=words_is line (by omega) hpl
 have hl:=fields_le line
 rw[hf]at ww hl
 have c1:=x_cut (bs line) (bs [108,101,116]) (by decide) (by rw[bs_size];omega)
 have c1:Go.Ev.Fn CX 34 [.str (bs line),.str (bs [108,101,116])] (.tup [.str (bs (Lib.cut line [108,101,116]).1),.str (bs (Lib.cut line [108,101,116]).2.1),.bool (Lib.cut line [108,101,116]).2.2]):=c1
 rw[h1]at c1
 have c2:=str_Cut CX_str r1 c (by omega)
 rw[h2]at c2
 have c3:=str_Cut CX_str r2 61 (by omega)
 rw[h3]at c3
 simp only[List.length_cons]at hl
 refine⟨⟨108,[101,116],[c]::[61]::rest,by decide,ww,fun h k=>desk_lineL (by decide) (by decide) h (by omega) c1 c2 c3 (by simp) (by omega) h16 hp k⟩,hlen,?_⟩
 unfold toldT
 split<;>simp
theorem row_ex {w nm:List UInt8} {es:List Ent} (hw:w=wShow\/w=wSum\/w=wMean) (hG:Good es) (hS:Srt es) (h16:es.length<=16) : ∃out,out.length<=10000000/\RowIs 2000007 1 es w nm out:=by
 obtain⟨p,hp⟩:=pos_ex hS nm
 cases hat:isAt es nm p with
 |false=>exact⟨toldT 6 [],by decide,fun h k=>desk_row_none hw (by decide) (by decide) h hp h16 hat k⟩
 |true=>
  obtain⟨ql,e5,e6,hm,hz⟩:=good_at hG (at_lt hat)
  rcases hw with rfl|rfl|rfl
  ·refine⟨outShow ql,?_,fun h k=>desk_row_show (by decide) (by decide) h hp h16 hat e5 e6 hm hz k⟩
   have:=joinW_len (l:=ql.map ratT) (K:=20*500+2) fun x hx=>by
    obtain⟨q,hq,rfl⟩:=List.mem_map.1 hx
    exact ratT_lenG (hz q hq) (by omega)
   rw[List.length_map]at this
   have h2:=Nat.mul_le_mul_right (20*500+2+1) hm
   unfold outShow
   omega
  ·refine⟨outSum ql,?_,fun h k=>desk_row_sum (by decide) (by decide) h hp h16 hat e5 e6 hm hz k⟩
   have:=ratT_lenG (sz_sumN (by omega) hz hm) (by omega)
   unfold outSum
   omega
  ·refine⟨outMean ql,?_,fun h k=>desk_row_mean (by decide) (by decide) h hp h16 hat e5 e6 hm hz k⟩
   unfold outMean
   split
   ·decide
   ·have:=ratT_lenG (sz_meanN (by omega) hz hm) (by omega)
    omega
theorem line_nil:LineN [] := .inl words_C
theorem line_rem:LineN [35,32,120] := .inr ⟨[],[[120]],tool_words (bs [35,32,120]) (by decide)⟩
def okAB (a b:List UInt8):Prop:=a.length+b.length<=60/\(∀c∈a,numB c=true) /\ ∀c∈b,numB c=true
instance (a b:List UInt8):Decidable (okAB a b):=by unfold okAB;infer_instance
def sx (a b:List UInt8):List UInt8:=[108,101,116,32,97,32,61,32]++(a++10::([115,117,109,32,97,10,109,101,97,110,32,97,10,108,101,116,32,98,32,61,32]++(b++10::[115,104,111,119,32,98,10])))
def sy (a b:List UInt8):List UInt8:=[35,32,120,10,10,32,32,108,101,116,32,32,32,97,32,61,32]++(a++10::([32,115,117,109,32,32,97,32,10,109,101,97,110,32,97,10,10,108,101,116,32,98,32,61,32,32]++(b++10::[115,104,111,119,32,98])))
def Shown (s out:List UInt8):Prop := ∃restF lineF oF eF N,Script restF lineF oF eF N/\restF 0=s/\oF N=out
theorem letP_blank (es:List Ent) (t x:List UInt8) (p:Nat):letP es t (32::x) p=letP es t x p:=by unfold letP;rw[parse_blank]
theorem pl_app {l a:List UInt8} (hl : ∀b∈l,plB b=true) (ha : ∀b∈a,numB b=true) : ∀b∈l++a,plB b=true:=fun b hb=>(List.mem_append.1 hb).elim (hl b) fun h=>(numB_pl (ha b h)).1
theorem fam {a b:List UInt8} (h:okAB a b) : ∃out,Shown (sx a b) out/\Shown (sy a b) out:=by
 obtain⟨hl,ha,hb⟩:=h
 have ha1:a.length<=60:=by omega
 have hb1:b.length<=60:=by omega
 have p0:PosAt [] [97] 0:=⟨Nat.le_refl 0,fun k h=>absurd h (Nat.not_lt_zero k),fun k _ h=>absurd h (Nat.not_lt_zero k)⟩
 have s0:Srt []:=List.Pairwise.nil
 obtain⟨e1,he1⟩ : ∃e1,e1=(letP [] [97] (32::a) 0).2:=⟨_,rfl⟩
 have g1:Good e1:=he1▸let_good good_nil
 have s1:Srt e1/\e1.length<=16:=he1▸letP_ok s0 (Nat.zero_le _) p0
 obtain⟨p1,hp1⟩:=pos_ex s1.1 [98]
 obtain⟨e2,he2⟩ : ∃e2,e2=(letP e1 [98] (32::b) p1).2:=⟨_,rfl⟩
 have g2:Good e2:=he2▸let_good g1
 have s2:Srt e2/\e2.length<=16:=he2▸letP_ok s1.1 s1.2 hp1
 obtain⟨o2,l2,r2⟩:=row_ex (nm:=[97]) (.inr (.inl rfl)) g1 s1.1 s1.2
 obtain⟨o3,l3,r3⟩:=row_ex (nm:=[97]) (.inr (.inr rfl)) g1 s1.1 s1.2
 obtain⟨o5,l5,r5⟩:=row_ex (nm:=[98]) (.inl rfl) g2 s2.1 s2.2
 have W1:LineW ([108,101,116,32,97,32,61,32]++a) [] e1 (toldT (letP [] [97] (32::a) 0).1 [111,107]):=by
  rw[he1]
  exact lineW_let (c:=97) (rest:=Lib.fields a) (r1:=[32,97,32,61,32]++a) (r2:=[32,61,32]++a) rfl rfl rfl rfl (pl_app (by decide) ha) (by simp;omega) (by simp;omega) (by simp;omega) (by simp;omega) (Nat.zero_le _) p0
 have V1:LineW ([32,32,108,101,116,32,32,32,97,32,61,32]++a) [] e1 (toldT (letP [] [97] (32::a) 0).1 [111,107]):=by
  rw[he1]
  exact lineW_let (c:=97) (rest:=Lib.fields a) (r1:=[32,32,32,97,32,61,32]++a) (r2:=[32,61,32]++a) rfl rfl rfl rfl (pl_app (by decide) ha) (by simp;omega) (by simp;omega) (by simp;omega) (by simp;omega) (Nat.zero_le _) p0
 have W2:LineW [115,117,109,32,97] e1 e1 o2:=lineW_row (.inr (.inl rfl)) rfl (by decide) (by decide) r2 l2
 have V2:LineW [32,115,117,109,32,32,97,32] e1 e1 o2:=lineW_row (.inr (.inl rfl)) rfl (by decide) (by decide) r2 l2
 have W3:LineW [109,101,97,110,32,97] e1 e1 o3:=lineW_row (.inr (.inr rfl)) rfl (by decide) (by decide) r3 l3
 have W4:LineW ([108,101,116,32,98,32,61,32]++b) e1 e2 (toldT (letP e1 [98] (32::b) p1).1 [111,107]):=by
  rw[he2]
  exact lineW_let (c:=98) (rest:=Lib.fields b) (r1:=[32,98,32,61,32]++b) (r2:=[32,61,32]++b) rfl rfl rfl rfl (pl_app (by decide) hb) (by simp;omega) (by simp;omega) (by simp;omega) (by simp;omega) s1.2 hp1
 have V4:LineW ([108,101,116,32,98,32,61,32,32]++b) e1 e2 (toldT (letP e1 [98] (32::b) p1).1 [111,107]):=by
  rw[he2,<- letP_blank e1 [98] (32::b) p1]
  exact lineW_let (c:=98) (rest:=Lib.fields b) (r1:=[32,98,32,61,32,32]++b) (r2:=[32,61,32,32]++b) rfl rfl rfl rfl (pl_app (by decide) hb) (by simp;omega) (by simp;omega) (by simp;omega) (by simp;omega) s1.2 hp1
 have W5:LineW [115,104,111,119,32,98] e2 e2 o5:=lineW_row (.inl rfl) rfl (by decide) (by decide) r5 l5
 generalize toldT (letP [] [97] (32::a) 0).1 [111,107]=o1 at *
 generalize toldT (letP e1 [98] (32::b) p1).1 [111,107]=o4 at *
 clear he1 he2 g1 g2 r2 r3 r5 hp1 p0
 refine⟨o1++[10]++(o2++[10]++(o3++[10]++(o4++[10]++(o5++[10])))),?_,?_⟩
 ·have K:=script_T (x:=([108,101,116,32,97,32,61,32]++a,o1++[10],e1)) (r:=[([115,117,109,32,97],o2++[10],e1),([109,101,97,110,32,97],o3++[10],e1),([108,101,116,32,98,32,61,32]++b,o4++[10],e2),([115,104,111,119,32,98],o5++[10],e2),([],[],e2)])
   ⟨.inr ⟨_,W1,rfl⟩,.inr ⟨_,W2,rfl⟩,.inr ⟨_,W3,rfl⟩,.inr ⟨_,W4,rfl⟩,.inr ⟨_,W5,rfl⟩,.inl ⟨line_nil,rfl,rfl⟩,trivial⟩ (by simp) ?_ ?_ ?_
  ·refine⟨_,_,_,_,_,K,?_,?_⟩
   ·simp[restT,joinT,sx]
   ·simp[outT]
  ·intro y hy
   simp only[List.mem_cons,List.not_mem_nil,or_false]at hy
   rcases hy with rfl|rfl|rfl|rfl|rfl|rfl
   all_goals first|exact pl_app (by decide) ha|exact pl_app (by decide) hb|(dsimp only;decide)
  ·simp[joinT]
   omega
  ·simp[outT]
 ·have K:=script_T (x:=([35,32,120],[],[])) (r:=[([],[],[]),([32,32,108,101,116,32,32,32,97,32,61,32]++a,o1++[10],e1),([32,115,117,109,32,32,97,32],o2++[10],e1),([109,101,97,110,32,97],o3++[10],e1),([],[],e1),([108,101,116,32,98,32,61,32,32]++b,o4++[10],e2),([115,104,111,119,32,98],o5++[10],e2)])
   ⟨.inl ⟨line_rem,rfl,rfl⟩,.inl ⟨line_nil,rfl,rfl⟩,.inr ⟨_,V1,rfl⟩,.inr ⟨_,V2,rfl⟩,.inr ⟨_,W3,rfl⟩,.inl ⟨line_nil,rfl,rfl⟩,.inr ⟨_,V4,rfl⟩,.inr ⟨_,W5,rfl⟩,trivial⟩ (by simp) ?_ ?_ ?_
  ·refine⟨_,_,_,_,_,K,?_,?_⟩
   ·simp[restT,joinT,sy]
   ·simp[outT]
  ·intro y hy
   simp only[List.mem_cons,List.not_mem_nil,or_false]at hy
   rcases hy with rfl|rfl|rfl|rfl|rfl|rfl|rfl|rfl
   all_goals first|exact pl_app (by decide) ha|exact pl_app (by decide) hb|(dsimp only;decide)
  ·simp[joinT]
   omega
  ·simp[outT]
noncomputable def outAB (a b:List UInt8):List UInt8:=if h:okAB a b then Classical.choose (fam h) else []
theorem outAB_is {a b:List UInt8} (h:okAB a b):Shown (sx a b) (outAB a b)/\Shown (sy a b) (outAB a b):=by
 unfold outAB
 rw[dif_pos h]
 exact Classical.choose_spec (fam h)
end Go.Proofs.YtcfjiolldehegaaGreatDoor
namespace Go.Proofs.YtcfjiolldehegaaGreatDoor
open Go.Ev Go.RowKit
def xA (l:List UInt8):List UInt8:=frontL 10 (l.drop 8)
def xB (l:List UInt8):List UInt8:=frontL 10 ((backL 10 (l.drop 8)).drop 21)
def yA (l:List UInt8):List UInt8:=frontL 10 (l.drop 17)
def yB (l:List UInt8):List UInt8:=frontL 10 ((backL 10 (l.drop 17)).drop 26)
noncomputable def ansR (l:List UInt8):Option (List UInt8):=
 if okAB (xA l) (xB l)/\l=sx (xA l) (xB l) then some (outAB (xA l) (xB l))
 else if okAB (yA l) (yB l)/\l=sy (yA l) (yB l) then some (outAB (yA l) (yB l))
 else if l=restK 0 then some (outK 3) else none
theorem ans_shown {l o:List UInt8} (h:ansR l=some o):Shown l o:=by
 unfold ansR at h
 split at h
 ·rename_i hx
  obtain⟨h1,h2⟩:=hx
  cases h
  have:=(outAB_is h1).1
  rw[<- h2]at this
  exact this
 ·split at h
  ·rename_i hx
   obtain⟨h1,h2⟩:=hx
   cases h
   have:=(outAB_is h1).2
   rw[<- h2]at this
   exact this
  ·split at h
   ·rename_i e
    cases h
    subst e
    exact⟨_,_,_,_,_,script_K,rfl,rfl⟩
   ·cases h
theorem no_ten {a:List UInt8} (h : ∀c∈a,numB c=true) : ∀c∈a,c≠10:=fun c hc=>(numB_pl (h c hc)).2.1
theorem ans_x {a b:List UInt8} (h:okAB a b):ansR (sx a b)=some (outAB a b):=by
 have fa:=fun r=>front_back (b:=r) (no_ten h.2.1)
 have fb:=fun r=>front_back (b:=r) (no_ten h.2.2)
 have ea:xA (sx a b)=a:=(fa _).1
 have eb:xB (sx a b)=b:=by
  show frontL 10 ((backL 10 (a++10::_)).drop 21)=b
  rw[(fa _).2]
  exact(fb _).1
 unfold ansR
 rw[ea,eb,if_pos ⟨h,rfl⟩]
theorem ans_y {a b:List UInt8} (h:okAB a b):ansR (sy a b)=some (outAB a b):=by
 have fa:=fun r=>front_back (b:=r) (no_ten h.2.1)
 have fb:=fun r=>front_back (b:=r) (no_ten h.2.2)
 have ea:yA (sy a b)=a:=(fa _).1
 have eb:yB (sy a b)=b:=by
  show frontL 10 ((backL 10 (a++10::_)).drop 26)=b
  rw[(fa _).2]
  exact(fb _).1
 unfold ansR
 rw[if_neg fun hh=>absurd (congrArg List.head? hh.2) (by simp[sx,sy]),ea,eb,if_pos ⟨h,rfl⟩]
theorem ans_K:ansR (restK 0)=some (outK 3):=by
 unfold ansR
 rw[if_neg (by decide),if_neg (by decide),if_pos rfl]
noncomputable def xRun:List Arg->Option (Ret×List (Option (List SV)))
 | [.sv (.str s)]=>match ansR s.data.toList with
  |some o=>some (.sv (.str (textB o)),[none])
  |none=>none
 |_=>none
noncomputable def XT:Callf:=fun g args=>if Nat.beq g 5 then xRun args else XL g args
noncomputable def CT:Cx:={ CX with X:=XT }
theorem CT_P:CT.P=Tryz.prog:=_root_.id rfl
theorem CT_mu (f:Nat):CT.mu f=muF f:=_root_.id rfl
attribute [go_sem] CT_P CT_mu
theorem run_at {G:List (Nat×Value)} (hG:GMet G) {args:List Arg} {r:Ret} {exps:List (Option (List SV))} (h:xRun args=some (r,exps)):CallG Tryz.prog G 5 args r exps:=by
 unfold xRun at h
 split at h
 ·rename_i s
  split at h
  ·rename_i o ho
   cases h
   obtain⟨restF,lineF,oF,eF,N,hS,h0,hN⟩:=ans_shown ho
   intro w F B vals hgl hF hsz hrep hinj
   have hv:vals = #[.string (textB (restF 0))]:=by
    obtain⟨l⟩:=vals
    have h0':=hrep 0 _ rfl
    match l,hsz with
    | [x],_=>
     have:Rep w F x (.str s):=h0'
     cases this
     rw[h0]
     rfl
   rw[hv,<- hN]
   refine .inl ⟨enters_of (fn:=Tryz.f5) (c:=(Tryz.f5).body.get!) (by kernel_rfl) (by kernel_rfl) (by kernel_rfl),(run_callsG hS hG w F hgl hF).mono ?_⟩
   rintro e w' ⟨rfl,hb⟩
   refine⟨_,rfl,.str _,ext_below hb (fun b=>sv_imp (ss:=[SV.str s])),fun i cs hi => ?_⟩
   cases i with
   |zero=>cases hi
   |succ i=>cases hi
  ·cases h
 ·cases h
theorem xRun_st {k:Bool} {st:St} {vs:List TV}:xRun [.st k st vs]=none:=rfl
theorem XT_ok {G:List (Nat×Value)} (hG:GMet G):TabOk Tryz.prog G XT where
 ok:=fun g args r exps h=>by
  unfold XT at h
  split at h
  ·rename_i hg
   rw[show g=5 from Nat.eq_of_beq_eq_true hg]
   exact run_at hG h
  ·exact(XL_ok hG).ok g args r exps h
 inn:=fun g k st vs r exps h=>by
  unfold XT at h
  split at h
  ·rw[xRun_st]at h;cases h
  ·exact(XL_ok hG).inn g k st vs r exps h
 look:=fun f st vs=>by
  unfold XT
  split
  ·rfl
  ·exact(XL_ok hG).look f st vs
 eqv:=fun g b s vs r e h l=>by
  unfold XT at h ⊢
  split at h
  ·rw[xRun_st]at h;cases h
  ·rename_i hg
   obtain⟨m,hm⟩:=(XL_ok hG).eqv g b s vs r e h l
   exact⟨m,fun v=>(if_neg hg).trans (hm v)⟩
theorem XT_run:XL 5=fun _=>none:=by
 funext a
 rfl
theorem callN_up : ∀n,CallLe (callN Tryz.prog XL muF good n) (callN Tryz.prog XT muF good n)
 |0=>fun f a r h=>by simp[callN]at h
 |n+1=>fun f a r h=>by
  have ih:=callN_up n
  by_cases hf:f=5
  ·subst hf
   exfalso
   unfold callN at h
   rw[XT_run]at h
   have hg:good 5=false:=by kernel_rfl
   rw[hg]at h
   split at h
   ·dsimp only at h
    split at h
    ·rw[if_neg (by decide)]at h;cases h
    ·cases h
   ·dsimp only at h
    split at h
    ·rw[if_neg (by decide)]at h;cases h
    ·cases h
  have hX:XT f a=XL f a:=by
   unfold XT
   rw[if_neg fun e=>hf (Nat.eq_of_beq_eq_true e)]
  unfold callN at h ⊢
  rw[hX]
  split at h
  ·split at h
   ·exact h
   ·split at h
    ·split at h
     ·rename_i hok
      rw[if_pos hok]
      split at h
      ·split at h
       ·rename_i hl
        rw[if_pos hl]
        obtain⟨st,e⟩:=inlOf_some h
        rw[e]at h
        rw[exec_mono ih (Nat.le_refl n) e]
        exact h
       ·cases h
      ·cases h
     ·cases h
    ·cases h
  ·split at h
   ·exact h
   ·split at h
    ·split at h
     ·rename_i hok
      rw[if_pos hok]
      split at h
      ·split at h
       ·rename_i hl
        rw[if_pos hl]
        split at h
        ·rename_i e
         rw[exec_mono ih (Nat.le_refl n) e]
         exact h
        ·rename_i e
         rw[exec_mono ih (Nat.le_refl n) e]
         exact h
        ·cases h
       ·cases h
      ·cases h
     ·cases h
    ·cases h
theorem Fn.up {f:FuncId} {args:List SV} {r:SV} (h:Go.Ev.Fn CX f args r):Go.Ev.Fn CT f args r:=by
 obtain⟨n,e,hn⟩:=h
 exact⟨n,e,callN_up n _ _ _ hn⟩
theorem run_fn {l o:List UInt8} (h:ansR l=some o):Go.Ev.Fn CT 5 [.str (bs l)] (.str (bs o)):=by
 refine⟨1,[none],?_⟩
 have hX:CT.X 5 ([SV.str (bs l)].map Arg.sv)=some (.sv (.str (bs o)),[none]):=by
  show xRun [.sv (.str (bs l))]=_
  unfold xRun
  dsimp only
  rw[show (bs l).data.toList=l from rfl,h]
  rfl
 unfold callN
 rw[stq_sv,hX]
theorem known_23:Go.Ev.Fn CT 4 [] (.bool true):=by
 have h:=run_fn ans_K
 have e0:bs (restK 0)=ByteArray.mk #[108,101,116,32,97,32,61,32,49,32,50,32,52,10,118,97,114,32,97,10]:=rfl
 have e1:bs (outK 3)=ByteArray.mk #[111,107,10,55,47,51,10]:=rfl
 rw[e0,e1]at h
 refine fni Tryz.f4 ?_;unfold Tryz.f4;simp only[Option.get!_some]
 repeat (first|simp only[go_sem]|simp (disch:=first|exact oa|fail) only[AX]|refine wki ?_|refine wqn ?_|refine vf_of (by first|exact h) ?_)
 exact congrArg SV.bool (beq_self_eq_true _)
end Go.Proofs.YtcfjiolldehegaaGreatDoor
set_option maxHeartbeats 4000000
namespace Go.Proofs.YtcfjiolldehegaaGreatDoor
open Go.Ev
theorem ap_bb (l m:List UInt8) (h:l.length+m.length<=9223372036854775807):Option.map TV.sv (if (bs l).size+(bs m).size<=9223372036854775807 then some (SV.str (bs l++bs m)) else none)=some (.sv (.str (bs (l++m)))):=by
 rw[if_pos (by rw[bs_size,bs_size];exact h),bs_append]
 rfl
theorem ap_cb (c:Array UInt8) (l:List UInt8) (h:c.size+l.length<=9223372036854775807):Option.map TV.sv (if c.size+(bs l).size<=9223372036854775807 then some (SV.str (ByteArray.mk c++bs l)) else none)=some (.sv (.str (bs (c.toList++l)))):=by
 rw[if_pos (by rw[bs_size];exact h),show ByteArray.mk c=bs c.toList from rfl,bs_append]
 rfl
theorem ap_bc (l:List UInt8) (c:Array UInt8) (h:l.length+c.size<=9223372036854775807):Option.map TV.sv (if (bs l).size+c.size<=9223372036854775807 then some (SV.str (bs l++ByteArray.mk c)) else none)=some (.sv (.str (bs (l++c.toList)))):=by
 rw[if_pos (by rw[bs_size];exact h),show ByteArray.mk c=bs c.toList from rfl,bs_append]
 rfl
theorem ok_of {a b:List UInt8} (h:a.length+b.length<=60) (ha : ∀j,j<(a++b).length->numB ((a++b).getD j 0)=true):okAB a b:=by
 have key : ∀c∈a++b,numB c=true:=by
  intro c hc
  obtain⟨j,hj,rfl⟩:=List.mem_iff_getElem.1 hc
  have:=ha j hj
  rw[List.getD_eq_getElem?_getD,List.getElem?_eq_getElem hj]at this
  exact this
 exact⟨h,fun c hc=>key c (List.mem_append_left _ hc),fun c hc=>key c (List.mem_append_right _ hc)⟩
theorem tool_blank (v w:ByteArray) (h1:v.size<=140737488351232) (h2:w.size<=140737488351232):Go.Ev.Fn CT 3 [.str v,.str w] (.bool true):=by
 obtain⟨a,rfl⟩ : ∃a,v=bs a:=⟨v.data.toList,rfl⟩
 obtain⟨b,rfl⟩ : ∃b,w=bs b:=⟨w.data.toList,rfl⟩
 rw[bs_size]at h1 h2
 have hk:=known_23
 by_cases c0:60<a.length+b.length
 ·refine fni Tryz.f3 ?_;unfold Tryz.f3;simp only[Option.get!_some]
  repeat (first|simp only[go_sem,bs_size]|simp (disch:=first|exact oa|fail) only[AX,bs_size]|refine wki ?_|refine wqn ?_)
 have ap0:=ap_bb a b (by omega)
 have hok:=ok_of (a:=a) (b:=b) (by omega)
 have hal:(a++b).length<=60:=by rw[List.length_append];omega
 have ap1:=ap_cb #[108,101,116,32,97,32,61,32] a (by simp;omega)
 have ap2:=ap_bc (#[108,101,116,32,97,32,61,32].toList++a) #[10,115,117,109,32,97,10,109,101,97,110,32,97,10,108,101,116,32,98,32,61,32] (by simp;omega)
 have ap3:=ap_bb ((#[108,101,116,32,97,32,61,32].toList++a) ++ #[10,115,117,109,32,97,10,109,101,97,110,32,97,10,108,101,116,32,98,32,61,32].toList) b (by simp;omega)
 have ap4:=ap_bc (((#[108,101,116,32,97,32,61,32].toList++a) ++ #[10,115,117,109,32,97,10,109,101,97,110,32,97,10,108,101,116,32,98,32,61,32].toList)++b) #[10,115,104,111,119,32,98,10] (by simp;omega)
 have ap5:=ap_cb #[35,32,120,10,10,32,32,108,101,116,32,32,32,97,32,61,32] a (by simp;omega)
 have ap6:=ap_bc (#[35,32,120,10,10,32,32,108,101,116,32,32,32,97,32,61,32].toList++a) #[10,32,115,117,109,32,32,97,32,10,109,101,97,110,32,97,10,10,108,101,116,32,98,32,61,32,32] (by simp;omega)
 have ap7:=ap_bb ((#[35,32,120,10,10,32,32,108,101,116,32,32,32,97,32,61,32].toList++a) ++ #[10,32,115,117,109,32,32,97,32,10,109,101,97,110,32,97,10,10,108,101,116,32,98,32,61,32,32].toList) b (by simp;omega)
 have ap8:=ap_bc (((#[35,32,120,10,10,32,32,108,101,116,32,32,32,97,32,61,32].toList++a) ++ #[10,32,115,117,109,32,32,97,32,10,109,101,97,110,32,97,10,10,108,101,116,32,98,32,61,32,32].toList)++b) #[10,115,104,111,119,32,98] (by simp;omega)
 have fx:sx a b=(((#[108,101,116,32,97,32,61,32].toList++a) ++ #[10,115,117,109,32,97,10,109,101,97,110,32,97,10,108,101,116,32,98,32,61,32].toList)++b) ++ #[10,115,104,111,119,32,98,10].toList:=by simp[sx]
 have fy:sy a b=(((#[35,32,120,10,10,32,32,108,101,116,32,32,32,97,32,61,32].toList++a) ++ #[10,32,115,117,109,32,32,97,32,10,109,101,97,110,32,97,10,10,108,101,116,32,98,32,61,32,32].toList)++b) ++ #[10,115,104,111,119,32,98].toList:=by simp[sy]
 rw[<- fx]at ap4
 rw[<- fy]at ap8
 have hrx:=fun h=>run_fn (ans_x (hok h))
 have hry:=fun h=>run_fn (ans_y (hok h))
 clear fx fy hok
 generalize #[108,101,116,32,97,32,61,32].toList++a=x1 at *
 generalize x1 ++ #[10,115,117,109,32,97,10,109,101,97,110,32,97,10,108,101,116,32,98,32,61,32].toList=x2 at *
 generalize x2++b=x3 at *
 generalize #[35,32,120,10,10,32,32,108,101,116,32,32,32,97,32,61,32].toList++a=y1 at *
 generalize y1 ++ #[10,32,115,117,109,32,32,97,32,10,109,101,97,110,32,97,10,10,108,101,116,32,98,32,61,32,32].toList=y2 at *
 generalize y2++b=y3 at *
 generalize sx a b=x at *
 generalize sy a b=y at *
 generalize outAB a b=o at *
 generalize a++b=L at *
 have hz:(bs L).size=L.length:=bs_size L
 refine fni Tryz.f3 ?_;unfold Tryz.f3;simp only[Option.get!_some]
 repeat (first|simp only[go_sem,bs_size]|simp (disch:=first|exact oa|fail) only[AX,bs_size]|refine wki ?_|refine wqn ?_)
 refine vp_loop_inv (fun s=>s.tmp 0 = .sv (.str (bs a))/\s.tmp 1 = .sv (.str (bs b)) /\ ∃i:Nat,s.tmp 5 = .sv (.int .i64 (i:Int))/\i<=L.length /\ ∀j,j<i->numB (L.getD j 0)=true)
  (fun s=>match s.tmp 5 with | .sv (.int _ i)=>L.length-i.toNat|_=>0) ⟨rfl,rfl,0,rfl,by omega,fun j h=>by omega⟩ ?_
 rintro s2 ⟨i0,i1,i,i5,hi,hb⟩
 by_cases hend:i=L.length
 ·subst hend
  have rx:=hrx hb
  have ry:=hry hb
  clear hb hrx hry
  repeat (first|simp only[go_sem,i0,i1,i5,ap0,hz,ap1,ap2,ap3,ap4,ap5,ap6,ap7,ap8,beq_self_eq_true]|simp (disch:=first|exact oa|fail) only[AX,i0,i1,i5,ap0,hz,ap1,ap2,ap3,ap4,ap5,ap6,ap7,ap8,beq_self_eq_true]|refine wki ?_|refine wqn ?_|refine vf_of (by first|exact rx|exact ry|exact hk) ?_)
 ·have g1:L[i]?=some (L.getD i 0):=by rw[List.getD_eq_getElem?_getD,List.getElem?_eq_getElem (by omega)];rfl
  clear ap1 ap2 ap3 ap4 ap5 ap6 ap7 ap8 hrx hry
  by_cases hn:numB (L.getD i 0)=true
  ·have hnx : ∀j,j<i+1->numB (L.getD j 0)=true:=by
    intro j hj
    by_cases e:j=i
    ·rw[e];exact hn
    ·exact hb j (by omega)
   clear hb
   generalize L.getD i 0=c at g1 hn
   unfold numB at hn
   simp only[Bool.or_eq_true,Bool.and_eq_true,decide_eq_true_eq,beq_iff_eq]at hn
   have hn:(48<=c.toNat/\c.toNat<=57)\/c.toNat=32\/c.toNat=46:=by
    rcases hn with(h|e)|e
    ·exact .inl h
    ·exact .inr (.inl (by rw[e];rfl))
    ·exact .inr (.inr (by rw[e];rfl))
   rcases hn with⟨h1,h2⟩|h1|h1
   ·repeat (first|simp only[go_sem,i0,i1,i5,ap0,hz,vo_ix,idxB_bs,g1]|simp (disch:=first|exact oa|fail) only[AX,i0,i1,i5,ap0,hz,vo_ix,idxB_bs,g1]|refine wki ?_|refine wqn ?_)
    exact⟨⟨i+1,rfl,by omega,hnx⟩,by omega⟩
   ·repeat (first|simp only[go_sem,i0,i1,i5,ap0,hz,vo_ix,idxB_bs,g1,h1]|simp (disch:=first|exact oa|fail) only[AX,i0,i1,i5,ap0,hz,vo_ix,idxB_bs,g1,h1]|refine wki ?_|refine wqn ?_)
    exact⟨⟨i+1,rfl,by omega,hnx⟩,by omega⟩
   ·repeat (first|simp only[go_sem,i0,i1,i5,ap0,hz,vo_ix,idxB_bs,g1,h1]|simp (disch:=first|exact oa|fail) only[AX,i0,i1,i5,ap0,hz,vo_ix,idxB_bs,g1,h1]|refine wki ?_|refine wqn ?_)
    exact⟨⟨i+1,rfl,by omega,hnx⟩,by omega⟩
  ·clear hb
   generalize L.getD i 0=c at g1 hn
   have hc:(c.toNat<48\/57<c.toNat)/\c.toNat≠32/\c.toNat≠46:=by
    unfold numB at hn
    simp only[Bool.or_eq_true,Bool.and_eq_true,decide_eq_true_eq,beq_iff_eq]at hn
    refine⟨?_,fun e=>hn (.inl (.inr (UInt8.toNat_inj.1 e))),fun e=>hn (.inr (UInt8.toNat_inj.1 e))⟩
    apply Classical.byContradiction
    intro h
    exact hn (.inl (.inl ⟨by omega,by omega⟩))
   obtain⟨h1,h2,h3⟩:=hc
   rcases h1 with h1|h1
   ·repeat (first|simp only[go_sem,i0,i1,i5,ap0,hz,vo_ix,idxB_bs,g1]|simp (disch:=first|exact oa|fail) only[AX,i0,i1,i5,ap0,hz,vo_ix,idxB_bs,g1]|refine wki ?_|refine wqn ?_)
    refine vf_of (hk) ?_;repeat (first|simp only[go_sem,i0,i1,i5]|simp (disch:=first|exact oa|fail) only[AX,i0,i1,i5]|refine wki ?_|refine wqn ?_)
   ·repeat (first|simp only[go_sem,i0,i1,i5,ap0,hz,vo_ix,idxB_bs,g1]|simp (disch:=first|exact oa|fail) only[AX,i0,i1,i5,ap0,hz,vo_ix,idxB_bs,g1]|refine wki ?_|refine wqn ?_)
    refine vf_of (hk) ?_;repeat (first|simp only[go_sem,i0,i1,i5]|simp (disch:=first|exact oa|fail) only[AX,i0,i1,i5]|refine wki ?_|refine wqn ?_)
end Go.Proofs.YtcfjiolldehegaaGreatDoor
