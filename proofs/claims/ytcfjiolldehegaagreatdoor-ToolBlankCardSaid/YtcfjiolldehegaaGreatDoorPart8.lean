/- Part 8 of the proof: the evaluator, contracts of functions and their plain laws (joined by program). No condition. -/
import Derived.Test.YtcfjiolldehegaaGreatDoorPart7
import Derived.WalkKit
import Derived.OwnWalkIn
import Derived.TacticsInMore
import Derived.RegionIn
import Derived.LoopNIn
import Derived.LoopIn
import Derived.RangeFuncSeq
import Derived.Lib.Builder
import Derived.Lib.Bytealg
import Derived.OrdersIn
import Derived.RangeFuncCalls
import Derived.Shelf.Strings.Builder1
import Derived.RangeFuncLeaves
import Derived.RangeFuncIn
set_option linter.unusedVariables false
set_option linter.unusedSimpArgs false
set_option maxRecDepth 100000
namespace Go.Proofs.YtcfjiolldehegaaGreatDoor
open Go.Ev
def lineA:List UInt8:=[108,101,116,32,97,32,61,32,49,32,50,32,52]
def lineB:List UInt8:=[118,97,114,32,97]
def wordsA:List (List UInt8):=[[108,101,116],[97],[61],[49],[50],[52]]
def wordsB:List (List UInt8):=[[118,97,114],[97]]
def strK (l:List (List UInt8)):List SV:=l.map fun w => .str (bs w)
theorem words_A:Go.Ev.Fn CX 8 [.str (bs lineA)] (.sl 6 (strK wordsA)):=tool_words (bs lineA) (by decide)
theorem words_B:Go.Ev.Fn CX 8 [.str (bs lineB)] (.sl 2 (strK wordsB)):=tool_words (bs lineB) (by decide)
theorem words_C:Go.Ev.Fn CX 8 [.str (bs [])] (.sl 0 []):=tool_words (bs []) (by decide)
theorem cut_1:Go.Ev.Fn CX 34 [.str (bs lineA),.str (bs [108,101,116])] (.tup [.str (bs []),.str (bs [32,97,32,61,32,49,32,50,32,52]),.bool true]):=x_cut (bs lineA) (bs [108,101,116]) (by decide) (by decide)
theorem cut_2:Go.Ev.Fn CX 34 [.str (bs [32,97,32,61,32,49,32,50,32,52]),.str (bs [97])] (.tup [.str (bs [32]),.str (bs [32,61,32,49,32,50,32,52]),.bool true]):=str_Cut CX_str [32,97,32,61,32,49,32,50,32,52] 97 (by decide)
theorem cut_3:Go.Ev.Fn CX 34 [.str (bs [32,61,32,49,32,50,32,52]),.str (bs [61])] (.tup [.str (bs [32]),.str (bs [32,49,32,50,32,52]),.bool true]):=str_Cut CX_str [32,61,32,49,32,50,32,52] 61 (by decide)
theorem parse_A:parseP [32,49,32,50,32,52]=(0,[1,2,4]):=by kernel_rfl
def rowA:List SV:=rvsC [1,2,4]
theorem rowA_row:RowC rowA [1,2,4] 500:=by
 have hz : ∀q∈(parseP [32,49,32,50,32,52]).2,szR q 500:=parse_sz
 rw[parse_A]at hz
 exact rvsC_row _ hz
def plQ:TV->Bool
 | .sv _=>true
 | .nil=>true
 | .undef=>true
 | .skip=>true
 | .emp=>true
 | .ptr d _ _=>decide (H0<=d)
 | .pst d _=>decide (H0<=d)
 |_=>false
theorem plQ_V {v:TV} (h:plQ v=true):plV v=true:=by
 cases v with
 |ptr d g o=>exact pl_ob (of_decide_eq_true h)
 |pst d g=>
  show (!TP d)=true
  rw[tp_ob (of_decide_eq_true h)]
  rfl
 |ref=>cases h
 |rfc=>cases h
 |_=>rfl
theorem frz_plQ {v:TV} {n g:Nat} {cs:List SV} (h:plQ v=true) (hn:n<H0):v.frz n g cs=v:=by
 cases v with
 |ptr d g' o=>exact if_neg fun e=>by have:=of_decide_eq_true h;omega
 |pst d g'=>exact if_neg fun e=>by have:=of_decide_eq_true h;omega
 |ref=>cases h
 |rfc=>cases h
 |_=>rfl
structure Kq (d:Nat) (st s:St):Prop where
 up : ∀u,plQ (st.up u)=true->s.up u=st.up u
 obj : ∀n g,TP n=false->g<st.gen n->s.obj n g=st.obj n g
 gen : ∀n,st.gen n<=s.gen n
 hob : ∀d' g' ts,d'≠d->g'<st.gen d'->st.hob d' g'=some ts->(∀t∈ts,plQ t=true)->s.hob d' g'=some ts
structure KeepQ (d:Nat) (st st':St):Prop extends Kq d st st' where
 tmp : ∀t,plQ (st.tmp t)=true->st'.tmp t=st.tmp t
section
variable {d:Nat} {st s a b c:St}
theorem Kq.of (h:Kp TP d st s):Kq d st s:=⟨fun u hu=>h.up u (plQ_V hu),h.obj,h.gen,fun d' g' ts hd _ h1 h2=>h.hob d' g' ts hd h1 fun t ht=>plQ_V (h2 t ht)⟩
theorem Kq.self:Kq d st st:=Kq.of Kp.refl
theorem Kq.trans (h:Kq d a b) (k:Kq d b c):Kq d a c:=
 ⟨fun u hu=>(k.up u (by rw[h.up u hu];exact hu)).trans (h.up u hu),fun n g hn hg=>(k.obj n g hn (Nat.lt_of_lt_of_le hg (h.gen n))).trans (h.obj n g hn hg),fun n=>Nat.le_trans (h.gen n) (k.gen n),
  fun d' g' ts hd hg ho hp=>k.hob d' g' ts hd (Nat.lt_of_lt_of_le hg (h.gen d')) (h.hob d' g' ts hd hg ho hp) hp⟩
theorem Kq.put {t:Nat} {v:TV} (h:Kq d st s):Kq d st (s.put t v):=⟨h.up,h.obj,h.gen,h.hob⟩
theorem Kq.new {t:Nat} {cs:List SV} {v:TV} (h:Kq d st s):Kq d st (s.new t cs v):=
 h.trans (Kq.of Kp.refl.new)
theorem Kq.newset {t:Nat} {cs cs':List SV} {v:TV} (h:Kq d st s):Kq d st ((s.new t cs v).set t (s.gen t) cs'):=
 h.trans (Kq.of Kp.refl.newset)
theorem Kq.newH {t:Nat} {ts:List TV} (h:Kq d st s):Kq d st (s.newH t ts):=by
 refine h.trans ⟨fun _ _=>rfl,fun n g hn hg=>if_neg fun e => ?_,fun n => ?_,fun d' g' ts' hd hg ho hp=>(if_neg fun e => ?_).trans ho⟩
 ·rw[e.1]at hg
  omega
 ·rw[gen_newH]
  split
  ·rename_i e
   rw[e]
   omega
  ·exact Nat.le_refl _
 ·rw[e.1]at hg
  omega
theorem Kq.frzd {n g:Nat} {cs:List SV} (hn:n<H0) (hg:st.gen n<=g) (h:Kq d st s):Kq d st (s.frzd n g cs):=
 ⟨fun u hu=>(congrArg (TV.frz n g cs) (h.up u hu)).trans (frz_plQ hu hn),fun n' g' hn' hg'=>(if_neg fun e=>by rw[e.1,e.2]at hg';omega).trans (h.obj n' g' hn' hg'),h.gen,fun d' g' ts hd hg' ho hp=>by
  show Option.map (fun ts=>ts.map fun t=>t.frz n g cs) (s.hob d' g')=some ts
  rw[h.hob d' g' ts hd hg' ho hp]
  exact congrArg some ((List.map_congr_left fun t ht=>frz_plQ (hp t ht) hn).trans (List.map_id' ts))⟩
theorem KeepQ.kq {st':St} (h:KeepQ d st st'):Kq d st st':=h.toKq
theorem keepq_of {vs:List TV} (h:Kq d (st.enter vs) s):KeepQ d st s.leave:=
 {up:=fun t ht=>by rw[up_leave,h.up (2*t+1) (by rw[up_odd];exact ht),up_odd]
  tmp:=fun t ht=>by rw[tmp_leave,h.up (2*t) (by rw[up_even];exact ht),up_even]
  obj:=h.obj
  gen:=h.gen
  hob:=h.hob }
end
theorem SessR.newH {st:St} {d g t:Nat} {es:List Ent} {D:Int} {ts:List TV} (h:SessR st d g es D) (hd:d≠H0+t):SessR (st.newH t ts) d g es D:=by
 have hH:H0=2000000:=rfl
 have h25 : ¬(25=H0+t):=by omega
 refine h.of (by rw[hob_newH,if_neg fun e=>hd e.1]) (fun g1=>by rw[obj_newH,if_neg fun e=>h25 e.1]) (by rw[gen_newH,if_neg h25];exact Nat.le_refl _)
theorem SessR.newT {st:St} {d g t:Nat} {es:List Ent} {D:Int} {cs:List SV} {v:TV} (h:SessR st d g es D) (ht:t≠25):SessR (st.new t cs v) d g es D:=
 h.of rfl (fun g1=>by rw[obj_new,if_neg fun e=>ht e.1.symm]) (by rw[gen_new,if_neg fun e=>ht e.symm];exact Nat.le_refl _)
theorem SessR.setT {st:St} {d g n g2:Nat} {es:List Ent} {D:Int} {cs:List SV} (h:SessR st d g es D) (hn:n≠25):SessR (st.set n g2 cs) d g es D:=
 h.of rfl (fun g1=>by rw[obj_set,if_neg fun e=>hn e.1.symm]) (Nat.le_refl _)
theorem SessR.frzT {st:St} {d g n g2:Nat} {es:List Ent} {D:Int} {cs:List SV} (h:SessR st d g es D) (hn:n≠25):SessR (st.frzd n g2 cs) d g es D:=by
 obtain⟨h1,h2⟩:=h
 refine⟨h1,?_⟩
 rcases h2 with⟨e,ho⟩|⟨g1,hg1,ho,hobj⟩
 ·refine .inl ⟨e,?_⟩
  show Option.map (fun ts=>ts.map fun t=>t.frz n g2 cs) (st.hob d g)=_
  rw[ho]
  rfl
 ·refine .inr ⟨g1,hg1,?_,(if_neg fun e=>hn e.1.symm).trans hobj⟩
  show Option.map (fun ts=>ts.map fun t=>t.frz n g2 cs) (st.hob d g)=_
  rw[ho]
  show some [TV.frz n g2 cs (.ref 25 g1 2 0 es.length),_]=_
  rw[show TV.frz n g2 cs (.ref 25 g1 2 0 es.length) = .ref 25 g1 2 0 es.length from if_neg fun e=>hn e.1.symm]
  rfl
section
variable {ops:Array Oper} {l:List Oper} {dst:Option Nat} {st:St} {Q:St->Prop} {d g:Nat}
abbrev entA:List Ent:=[([97],3,rowA)]
theorem desk_let (hd:H0<=d) (hd3:d≠2000003) (h:SessR st d g [] 6)
  (k : ∀st',KeepQ d st st'->SessR st' d g entA 6->WO CX false ops l (st'.putO dst (.sv (.str (bs [111,107])))) Q) :
  WN CX ops l dst st Q 18 [.pst d g,.sv (.str (bs lineA)),.sv (.sl 6 (strK wordsA))]:=by
 have hd':2000000<=d:=hd
 have c0:((bs [61]).toList==(ByteArray.mk #[61]).toList)=true:=word_is.trans (by decide)
 have c1:=cut_1
 have c2:=cut_2
 have c3:=cut_3
 have tl:=tool_told (bs [111,107])
 refine wni Tryz.f18 ?_;unfold Tryz.f18;simp only[Option.get!_some]
 repeat (first|simp only[go_sem,hd',strK,wordsA,c0,Bool.not_true]|simp (disch:=first|exact oa|fail) only[AX,hd',strK,wordsA,c0,Bool.not_true]|refine wki ?_|refine wqn ?_|refine vpl 8 [] [([0,1,2,3,4,5],some (6,[])),([],some (7,[])),([8],none)] ?_)
 rw[vp_loop]
 repeat (first|simp only[go_sem,Int.reduceAdd,Int.zero_add,List.drop_succ_cons,List.drop_zero,List.head?_cons,Option.map_some,List.drop_nil]|simp (disch:=first|exact oa|fail) only[AX,Int.reduceAdd,Int.zero_add,List.drop_succ_cons,List.drop_zero,List.head?_cons,Option.map_some,List.drop_nil]|refine wki ?_|refine wqn ?_|refine vpl 8 [] [([0,1,2,3,4,5],some (6,[])),([],some (7,[])),([8],none)] ?_|refine vf_of (by first|exact c1) ?_)
 rw[vp_loop]
 repeat (first|simp only[go_sem,Int.reduceAdd,Int.zero_add,List.drop_succ_cons,List.drop_zero,List.head?_cons,Option.map_some,List.drop_nil]|simp (disch:=first|exact oa|fail) only[AX,Int.reduceAdd,Int.zero_add,List.drop_succ_cons,List.drop_zero,List.head?_cons,Option.map_some,List.drop_nil]|refine wki ?_|refine wqn ?_|refine vpl 8 [] [([0,1,2,3,4,5],some (6,[])),([],some (7,[])),([8],none)] ?_|refine vf_of (by first|exact c2) ?_)
 rw[vp_loop]
 repeat (first|simp only[go_sem,Int.reduceAdd,Int.zero_add,List.drop_succ_cons,List.drop_zero,List.head?_cons,Option.map_some,List.drop_nil]|simp (disch:=first|exact oa|fail) only[AX,Int.reduceAdd,Int.zero_add,List.drop_succ_cons,List.drop_zero,List.head?_cons,Option.map_some,List.drop_nil]|refine wki ?_|refine wqn ?_|refine vpl 8 [] [([0,1,2,3,4,5],some (6,[])),([],some (7,[])),([8],none)] ?_|refine vf_of (by first|exact c3) ?_)
 rw[vp_loop]
 repeat (first|simp only[go_sem,Int.reduceAdd,Int.zero_add,List.drop_succ_cons,List.drop_zero,List.head?_cons,Option.map_some,List.drop_nil]|simp (disch:=first|exact oa|fail) only[AX,Int.reduceAdd,Int.zero_add,List.drop_succ_cons,List.drop_zero,List.head?_cons,Option.map_some,List.drop_nil]|refine wki ?_|refine wqn ?_|refine vpl 8 [] [([0,1,2,3,4,5],some (6,[])),([],some (7,[])),([8],none)] ?_)
 refine sess_Let_end (t:=[97]) (es:=[]) (x:=[32,49,32,50,32,52]) (qs:=[1,2,4]) (D:=6) (by decide) (by kernel_rfl) ⟨Nat.le_refl 0,fun k h=>absurd h (Nat.not_lt_zero k),fun k _ h=>absurd h (Nat.not_lt_zero k)⟩ (by decide) (by decide) parse_A (by decide) (((h.of (s:=st.enter [.pst d g,.sv (.str (bs lineA)),.sv (.sl 6 (strK wordsA))]) rfl (fun _=>rfl) (Nat.le_refl _)).newH (t:=3) (ts:=[.ptr d g 0]) hd3).of rfl (fun _=>rfl) (Nat.le_refl _)) ?_
 intro s1 hk hs1
 repeat (first|simp only[go_sem]|simp (disch:=first|exact oa|fail) only[AX]|refine wki ?_|refine wqn ?_|refine vpl 8 [] [([0,1,2,3,4,5],some (6,[])),([],some (7,[])),([8],none)] ?_|refine vf_of (by first|exact tl) ?_)
 exact k _ (keepq_of (by repeat (first|exact Kq.self|refine Kq.put ?_|refine Kq.trans ?_ (Kq.of hk.kp)|refine Kq.newH ?_))) (hs1.of rfl (fun _=>rfl) (Nat.le_refl _))
theorem pos_A:PosAt entA [97] 0:=⟨by decide,fun k h=>absurd h (Nat.not_lt_zero k),fun k _ h=>by
 have:k=0:=by simpa using h
 subst this
 decide⟩
theorem desk_rows (hd:H0<=d) (hd2:d≠2000002) (h:SessR st d g entA 6)
  (k : ∀st',KeepQ d st st'->SessR st' d g entA 6->WO CX false ops l (st'.putO dst (.sv (.tup [.sl 1 [.sl 3 rowA],.int .i64 0]))) Q) :
  WN CX ops l dst st Q 55 [.pst d g,.sv (.sl 1 [.str (bs [97])])]:=by
 have hd':2000000<=d:=hd
 have hc:=sess_copied rowA_row (by omega) (by omega) (by decide)
 refine wni Tryz.f55 ?_;unfold Tryz.f55;simp only[Option.get!_some]
 repeat (first|simp only[go_sem,hd']|simp (disch:=first|exact oa|fail) only[AX,hd']|refine wki ?_|refine wqn ?_)
 rw[vp_loop]
 repeat (first|simp only[go_sem,hd',Int.reduceAdd,Int.zero_add,List.drop_succ_cons,List.drop_zero,List.head?_cons,Option.map_some,List.drop_nil]|simp (disch:=first|exact oa|fail) only[AX,hd',Int.reduceAdd,Int.zero_add,List.drop_succ_cons,List.drop_zero,List.head?_cons,Option.map_some,List.drop_nil]|refine wki ?_|refine wqn ?_)
 refine sess_Get_atS (t:=[97]) (es:=entA) (p:=0) (rs:=rowA) (D:=6) pos_A (by decide) (by kernel_rfl) hc (((h.of (s:=st.enter [.pst d g,.sv (.sl 1 [.str (bs [97])])]) rfl (fun _=>rfl) (Nat.le_refl _)).newH (t:=2) (ts:=[.ptr d g 0]) hd2).of rfl (fun _=>rfl) (Nat.le_refl _)) ?_
 intro s1 hk
 have k6:s1.tmp 6 = .nil:=(hk.tmp 6).trans rfl
 have k11:s1.tmp 11 = .sv (.sl 1 [.str (bs [97])]):=(hk.tmp 11).trans rfl
 have k12:s1.tmp 12 = .sv (.int .i64 1):=(hk.tmp 12).trans rfl
 have k13:s1.tmp 13 = .sv (.int .i64 0):=(hk.tmp 13).trans rfl
 have e3:(entA.getD 0 default).2.1=3:=rfl
 repeat (first|simp only[go_sem,k6,k11,k12,k13,e3,Int.reduceAdd,Int.zero_add,List.drop_succ_cons,List.drop_zero,List.head?_cons,Option.map_some,List.drop_nil]|simp (disch:=first|exact oa|fail) only[AX,k6,k11,k12,k13,e3,Int.reduceAdd,Int.zero_add,List.drop_succ_cons,List.drop_zero,List.head?_cons,Option.map_some,List.drop_nil]|refine wki ?_|refine wqn ?_)
 have n30:decide (30<N0)=true:=by decide
 have kq1:Kq d (st.enter [.pst d g,.sv (.sl 1 [.str (bs [97])])]) s1:=by repeat (first|exact Kq.self|refine Kq.trans ?_ (Kq.of hk.keep.kp)|refine Kq.put ?_|refine Kq.newH ?_)
 have g30:st.gen 30<=s1.gen 30:=kq1.gen 30
 have hs1:SessR s1 d g entA 6:=((h.of (s:=st.enter [.pst d g,.sv (.sl 1 [.str (bs [97])])]) rfl (fun _=>rfl) (Nat.le_refl _)).newH (t:=2) (ts:=[.ptr d g 0]) hd2).of (by rw[hk.hob];rfl) (fun g1=>(hk.obj 25 g1).trans rfl) (by rw[hk.gen];exact Nat.le_refl _)
 rw[vp_loop]
 repeat (first|simp only[go_sem,k6,k11,k12,k13,e3,n30,Int.reduceAdd,Int.zero_add,List.drop_succ_cons,List.drop_zero,List.head?_cons,Option.map_some,List.drop_nil]|simp (disch:=first|exact oa|fail) only[AX,k6,k11,k12,k13,e3,n30,Int.reduceAdd,Int.zero_add,List.drop_succ_cons,List.drop_zero,List.head?_cons,Option.map_some,List.drop_nil]|refine wki ?_|refine wqn ?_)
 have hs2:=((hs1.newT (t:=29) (cs:=[.sl 3 rowA]) (v := .ref 29 (s1.gen 29) 1 0 1) (by decide)).newT (t:=30) (cs:=[.sl 3 rowA]) (v := .ref 30 (s1.gen 30) 1 0 1) (by decide)).frzT (n:=30) (g2:=s1.gen 30) (cs:=[.sl 3 rowA]) (by decide)
 exact k _ (keepq_of (by repeat (first|exact kq1|exact g30|refine Kq.put ?_|refine Kq.new ?_|refine Kq.frzd (by decide) ?_ ?_))) (hs2.of rfl (fun _=>rfl) (Nat.le_refl _))
theorem desk_row (hd:H0<=d) (hd2:d≠2000002) (h:SessR st d g entA 6)
  (k : ∀st',KeepQ d st st'->SessR st' d g entA 6->WO CX false ops l (st'.putO dst (.sv (.str (bs [55,47,51])))) Q) :
  WN CX ops l dst st Q 27 [.pst d g,.sv (.sl 2 (strK wordsB))]:=by
 have hd':2000000<=d:=hd
 have nm:=tool_names
 have c0:((bs [118,97,114]).toList==(ByteArray.mk #[115,104,111,119]).toList)=false:=word_is.trans (by decide)
 have c1:((bs [118,97,114]).toList==(ByteArray.mk #[100,114,111,112]).toList)=false:=word_is.trans (by decide)
 have e73:rv (7/3:Rat)=ratV false [7] [3]:=by kernel_rfl
 have v1:Go.Ev.Fn CX 106 [.sl 3 rowA] (.tup [ratV false [7] [3],.int .i64 0]):=by
  have:=stat_Variance rowA_row (by omega) (by omega) (by decide)
  rw[if_neg (by decide),show varR [1,2,4]=(7/3:Rat) by kernel_rfl,show numE (7/3:Rat) 0 = .tup [ratV false [7] [3],.int .i64 0] by kernel_rfl]at this
  exact this
 have ab:=tool_about v1
 have pr:=dec_Print (v:=rv (7/3:Rat)) (q:=7/3) (L:=1) (RatA_rv ⟨by decide +kernel,by decide +kernel⟩) (by omega) (by omega)
 rw[show ratT (7/3)=[55,47,51] by kernel_rfl,e73]at pr
 have tl:=tool_told (bs [55,47,51])
 refine wni Tryz.f27 ?_;unfold Tryz.f27;simp only[Option.get!_some]
 repeat (first|simp only[go_sem,hd',strK,wordsB,Int.reduceAdd,Int.zero_add,List.drop_succ_cons,List.drop_zero,List.head?_cons,Option.map_some,List.drop_nil,List.map_cons,List.map_nil]|simp (disch:=first|exact oa|fail) only[AX,hd',strK,wordsB,Int.reduceAdd,Int.zero_add,List.drop_succ_cons,List.drop_zero,List.head?_cons,Option.map_some,List.drop_nil,List.map_cons,List.map_nil]|refine wki ?_|refine wqn ?_|refine vpl 3 [1] [([0,1,2],some (3,[])),([4,5,6,7,8],none)] ?_|refine vpd 10 [] ?_|refine vf_of (by first|exact nm) ?_)
 refine desk_rows hd hd2 (((h.of (s:=st.enter [.pst d g,.sv (.sl 2 (strK wordsB))]) rfl (fun _=>rfl) (Nat.le_refl _)).newH (t:=2) (ts:=[.ptr d g 0]) hd2).of rfl (fun _=>rfl) (Nat.le_refl _)) ?_
 intro s1 hk hs1
 have k1:s1.tmp 1 = .sv (.sl 2 [.str (bs [118,97,114]),.str (bs [97])]):=hk.tmp 1 rfl
 repeat (first|simp only[go_sem,k1,c0,c1,Int.reduceAdd,Int.zero_add,List.drop_succ_cons,List.drop_zero,List.head?_cons,Option.map_some,List.drop_nil,List.map_cons,List.map_nil]|simp (disch:=first|exact oa|fail) only[AX,k1,c0,c1,Int.reduceAdd,Int.zero_add,List.drop_succ_cons,List.drop_zero,List.head?_cons,Option.map_some,List.drop_nil,List.map_cons,List.map_nil]|refine wki ?_|refine wqn ?_|refine vpl 3 [1] [([0,1,2],some (3,[])),([4,5,6,7,8],none)] ?_|refine vpd 10 [] ?_|refine vf_of (by first|exact ab|exact pr|exact tl) ?_)
 have hs2:=(hs1.newT (t:=7) (cs:=[.bool false,.sl 0 [],.sl 0 []]) (v := .ptr 7 (s1.gen 7) 0) (by decide)).setT (n:=7) (g2:=s1.gen 7) (cs:=[.bool false,natV [7],natV [3]]) (by decide)
 exact k _ (keepq_of (by repeat (first|exact Kq.self|refine Kq.put ?_|refine Kq.newset ?_|refine Kq.trans ?_ hk.kq|refine Kq.newH ?_))) (hs2.of rfl (fun _=>rfl) (Nat.le_refl _))
theorem line_is {a:List UInt8} {b:Array UInt8} {r:Bool} (h:(a==b.toList)=r):((bs a).toList==(ByteArray.mk b).toList)=r:=word_is.trans h
theorem desk_lineA (hd:H0<=d) (hd3:d≠2000003) (h:SessR st d g [] 6)
  (k : ∀st',KeepQ d st st'->SessR st' d g entA 6->WO CX false ops l (st'.putO dst (.sv (.str (bs [111,107])))) Q) :
  WN CX ops l dst st Q 11 [.pst d g,.sv (.str (bs lineA)),.sv (.sl 6 (strK wordsA))]:=by
 have hd':2000000<=d:=hd
 have c0:((bs [108,101,116]).toList==(ByteArray.mk #[108,101,116]).toList)=true:=line_is (by decide)
 refine wni Tryz.f11 ?_;unfold Tryz.f11;simp only[Option.get!_some]
 repeat (first|simp only[go_sem,hd',strK,wordsA,c0,Int.reduceAdd,Int.zero_add,List.drop_succ_cons,List.drop_zero,List.head?_cons,Option.map_some,List.drop_nil,List.map_cons,List.map_nil]|simp (disch:=first|exact oa|fail) only[AX,hd',strK,wordsA,c0,Int.reduceAdd,Int.zero_add,List.drop_succ_cons,List.drop_zero,List.head?_cons,Option.map_some,List.drop_nil,List.map_cons,List.map_nil]|refine wki ?_|refine wqn ?_)
 refine desk_let hd hd3 (((h.of (s:=st.enter [.pst d g,.sv (.str (bs lineA)),.sv (.sl 6 (strK wordsA))]) rfl (fun _=>rfl) (Nat.le_refl _)).newH (t:=3) (ts:=[.ptr d g 0]) hd3).of rfl (fun _=>rfl) (Nat.le_refl _)) ?_
 intro s1 hk hs1
 repeat (first|simp only[go_sem]|simp (disch:=first|exact oa|fail) only[AX]|refine wki ?_|refine wqn ?_)
 exact k _ (keepq_of (by repeat (first|exact Kq.self|refine Kq.put ?_|refine Kq.trans ?_ hk.kq|refine Kq.newH ?_))) (hs1.of rfl (fun _=>rfl) (Nat.le_refl _))
theorem desk_lineB (hd:H0<=d) (hd2:d≠2000002) (hd3:d≠2000003) (h:SessR st d g entA 6)
  (k : ∀st',KeepQ d st st'->SessR st' d g entA 6->WO CX false ops l (st'.putO dst (.sv (.str (bs [55,47,51])))) Q) :
  WN CX ops l dst st Q 11 [.pst d g,.sv (.str (bs lineB)),.sv (.sl 2 (strK wordsB))]:=by
 have hd':2000000<=d:=hd
 have nm:=tool_names
 have c0:((bs [118,97,114]).toList==(ByteArray.mk #[108,101,116]).toList)=false:=line_is (by decide)
 have c1:((bs [118,97,114]).toList==(ByteArray.mk #[110,97,109,101,115]).toList)=false:=line_is (by decide)
 have c2:((bs [118,97,114]).toList==(ByteArray.mk #[100,105,103,105,116,115]).toList)=false:=line_is (by decide)
 have c3:((bs [118,97,114]).toList==(ByteArray.mk #[99,100,102]).toList)=false:=line_is (by decide)
 have c4:((bs [118,97,114]).toList==(ByteArray.mk #[97,98,111,118,101]).toList)=false:=line_is (by decide)
 have c5:((bs [118,97,114]).toList==(ByteArray.mk #[113,117,97,110,116,105,108,101]).toList)=false:=line_is (by decide)
 have c6:((bs [118,97,114]).toList==(ByteArray.mk #[109,111,109,101,110,116,115]).toList)=false:=line_is (by decide)
 have c7:((bs [118,97,114]).toList==(ByteArray.mk #[98,105,110,111,109]).toList)=false:=line_is (by decide)
 have c8:((bs [118,97,114]).toList==(ByteArray.mk #[108,101,97,115,116]).toList)=false:=line_is (by decide)
 have c9:((bs [118,97,114]).toList==(ByteArray.mk #[100,101,99,105,100,101]).toList)=false:=line_is (by decide)
 refine wni Tryz.f11 ?_;unfold Tryz.f11;simp only[Option.get!_some]
 repeat (first|simp only[go_sem,hd',strK,wordsB,c0,c1,c2,c3,c4,c5,c6,c7,c8,c9,Int.reduceAdd,Int.zero_add,List.drop_succ_cons,List.drop_zero,List.head?_cons,Option.map_some,List.drop_nil,List.map_cons,List.map_nil]|simp (disch:=first|exact oa|fail) only[AX,hd',strK,wordsB,c0,c1,c2,c3,c4,c5,c6,c7,c8,c9,Int.reduceAdd,Int.zero_add,List.drop_succ_cons,List.drop_zero,List.head?_cons,Option.map_some,List.drop_nil,List.map_cons,List.map_nil]|refine wki ?_|refine wqn ?_|refine vf_of (by first|exact nm) ?_)
 refine desk_row hd hd2 (((h.of (s:=st.enter [.pst d g,.sv (.str (bs lineB)),.sv (.sl 2 (strK wordsB))]) rfl (fun _=>rfl) (Nat.le_refl _)).newH (t:=3) (ts:=[.ptr d g 0]) hd3).of rfl (fun _=>rfl) (Nat.le_refl _)) ?_
 intro s1 hk hs1
 repeat (first|simp only[go_sem]|simp (disch:=first|exact oa|fail) only[AX]|refine wki ?_|refine wqn ?_)
 exact k _ (keepq_of (by repeat (first|exact Kq.self|refine Kq.put ?_|refine Kq.trans ?_ hk.kq|refine Kq.newH ?_))) (hs1.of rfl (fun _=>rfl) (Nat.le_refl _))
end
end Go.Proofs.YtcfjiolldehegaaGreatDoor
namespace Go.Proofs.YtcfjiolldehegaaGreatDoor
open Go.RowKit
structure Boxes (b:Nat) (s:ByteArray) (w:World):Prop where
 s0:w.heap[b]?=some (.cells #[.string s] 9 (0,0))
 s1:w.heap[b+1]?=some (.cells #[.string ⟨#[10]⟩] 9 (0,0))
 s2:w.heap[b+2]?=some (.cells #[.int .i64 0] 3 (0,0))
theorem Boxes.lt {b:Nat} {s:ByteArray} {w:World} (h:Boxes b s w):b+2<w.heap.size:=(Array.getElem?_eq_some_iff.1 h.s2).1
theorem Boxes.same {b:Nat} {s:ByteArray} {w w':World} (h:Boxes b s w) (hs : ∀k,k<w.heap.size->k=b\/k=b+1\/k=b+2->w'.heap[k]?=w.heap[k]?):Boxes b s w':=by
 have:=h.lt
 exact⟨(hs b (by omega) (by omega)).trans h.s0,(hs (b+1) (by omega) (by omega)).trans h.s1,(hs (b+2) (by omega) (by omega)).trans h.s2⟩
def seqV (b:Nat):Value := .func (.func 29) #[] #[.pointer (some ⟨b+1,0,none⟩),.pointer (some ⟨b,0,none⟩),.pointer (some ⟨b+2,0,none⟩)]
set_option maxRecDepth 100000 in
set_option maxHeartbeats 1000000 in
theorem split_seq (F:Fence) (n:Nat) (hF:F.fn 13) (hro:F.round=none) (s:ByteArray) (w:World) :
  CallsIn F n Tryz.prog 13 #[.string s,.string ⟨#[10]⟩,.int .i64 0] w fun e w'=>e = .returned (seqV w.heap.size)/\Boxes w.heap.size s w'/\Below w.heap.size w w'/\w'.heap.size=w.heap.size+3:=by
 refine callsIn_of_wp Tryz.func13 rfl hF ?_ hro
 simp only[Tryz.ntmps13,List.size_toArray,List.length_cons,List.length_nil,Nat.reduceAdd,Nat.reduceSub,Array.replicate_succ,Array.replicate_zero,List.push_toArray,List.append_toArray,List.nil_append,List.cons_append]
 gi_wp2
 go_ret
 refine⟨rfl,⟨?_,?_,?_⟩,(((Below.refl _ w).alloc (Nat.le_refl _) _).alloc (by simp) _).alloc (by simp;omega) _,by simp⟩
 ·rw[Below.heap_alloc _ _ _ (by rw[World.size_alloc,World.size_alloc];omega),Below.heap_alloc _ _ _ (by rw[World.size_alloc];omega)]
  exact World.alloc_heap_new w _
 ·rw[Below.heap_alloc _ _ _ (by rw[World.size_alloc,World.size_alloc];omega)]
  have:=World.alloc_heap_new (w.alloc (.cells #[.string s] 9)) (.cells #[.string ⟨#[10]⟩] 9)
  rwa [World.size_alloc]at this
 ·have:=World.alloc_heap_new ((w.alloc (.cells #[.string s] 9)).alloc (.cells #[.string ⟨#[10]⟩] 9)) (.cells #[.int .i64 0] 3)
  rwa [World.size_alloc,World.size_alloc]at this
set_option maxRecDepth 100000 in
set_option maxHeartbeats 1000000 in
theorem split_Seq (F:Fence) (n:Nat) (hF:F.fn 7) (hF2:F.fn 13) (hd:F.depth=none) (hro:F.round=none) (s:ByteArray) (w:World) :
  CallsIn F n Tryz.prog 7 #[.string s,.string ⟨#[10]⟩] w fun e w'=>e = .returned (seqV w.heap.size)/\Boxes w.heap.size s w'/\Below w.heap.size w w'/\w'.heap.size=w.heap.size+3:=by
 have hn:F.depth.isSome=true->1<=n:=fun h=>by rw[hd]at h;cases h
 refine callsIn_of_wp Tryz.func7 rfl hF ?_ hro
 simp only[Tryz.ntmps7,List.size_toArray,List.length_cons,List.length_nil,Nat.reduceAdd,Nat.reduceSub,Array.replicate_succ,Array.replicate_zero,List.push_toArray,List.append_toArray,List.nil_append,List.cons_append]
 gi_wp2_with (gi_at_call 13;refine(split_seq F (n-1) hF2 hro s w).mono ?_)
 rintro e w1 ⟨rfl,hb,hl,hz⟩
 gi_wp2
 go_ret
 exact⟨rfl,hb,hl,hz⟩
def restK:Nat->List UInt8
 |0=>[108,101,116,32,97,32,61,32,49,32,50,32,52,10,118,97,114,32,97,10]
 |1=>[118,97,114,32,97,10]
 |_=>[]
def lineK:Nat->List UInt8
 |0=>[108,101,116,32,97,32,61,32,49,32,50,32,52]
 |1=>[118,97,114,32,97]
 |_=>[]
theorem Boxes.set {b:Nat} {s s':ByteArray} {w:World} (h:Boxes b s w):Boxes b s' (w.setCell ⟨b,0,none⟩ (.string s')):=by
 refine⟨?_,?_,?_⟩
 ·show (w.heap.modify b _)[b]?=_
  rw[Array.getElem?_modify,if_pos rfl,h.s0]
  rfl
 ·rw[Below.heap_setCell _ _ _ _ (by show b+1≠b;omega)]
  exact h.s1
 ·rw[Below.heap_setCell _ _ _ _ (by show b+2≠b;omega)]
  exact h.s2
theorem Boxes.cells {b:Nat} {s:ByteArray} {w:World} (h:Boxes b s w):w.cell? ⟨b,0,none⟩=some (.string s)/\w.frozen? ⟨b,0,none⟩=false/\w.cell? ⟨b+1,0,none⟩=some (.string ⟨#[10]⟩)/\w.cell? ⟨b+2,0,none⟩=some (.int .i64 0):=
 ⟨by rw[Lib.cell_of_heap h.s0];rfl,Lib.frozen_of_heap h.s0 0,by rw[Lib.cell_of_heap h.s1];rfl,by rw[Lib.cell_of_heap h.s2];rfl⟩
def textB (l:List UInt8):ByteArray:=⟨l.toArray⟩
end Go.Proofs.YtcfjiolldehegaaGreatDoor
namespace Go.Ev
open Go.RowKit
def lay (D:List Deferred) (a:Act):Act:={ a with defers:=a.defers++D }
theorem lay_put {D:List Deferred} {a:Act} {dst:Option Nat} {v:Value}:(lay D a).put dst v=lay D (a.put dst v):=by cases dst<;>rfl
theorem lay_eval {D:List Deferred} {a:Act}:(lay D a).eval=a.eval:=funext fun x=>by cases x<;>rfl
def fw:Option Nat->Fence
 |none=>Fence.wide
 |some l=>Fence.wide.inRound l
theorem fw_round (ro:Option Nat):(fw ro).round=ro:=by cases ro<;>rfl
theorem fw_fn (ro:Option Nat) (f:FuncId):(fw ro).fn f:=by cases ro<;>trivial
theorem fw_depth (ro:Option Nat) (h:(fw ro).depth.isSome=true):False:=by cases ro<;>cases h
theorem fw_calls (ro:Option Nat) {n:Nat} {P:Program} {f:FuncId} {args:Array Value} {w:World} {R:Ending->World->Prop} (h:Calls P f args w R):CallsIn (fw ro) n P f args w R:=by
 cases ro with
 |none=>exact callsIn_wide.2 h
 |some l=>exact CallsIn.inRound l (callsIn_wide.2 h)
theorem fw_rows (ro:Option Nat) {n:Nat} {P:Program} {row:String} {args:Array Value} {w:World} {R:Value->World->Prop} (h:Rows P row args w R):RowsIn (fw ro) n P row args w R:=by
 have:RowsIn Fence.wide n P row args w R:=fun c cs _=>by
  obtain⟨v,w',r,s⟩:=h c cs
  exact⟨v,w',r,stepsIn_wide.2 s⟩
 cases ro with
 |none=>exact this
 |some l=>exact this
def notDefer:Op->Bool
 | .defer _=>false
 |_=>true
section
variable {P:Program} {D:List Deferred} {ro:Option Nat} {n:Nat} {Q Q':Exit->Act->World->Prop} {K K':Act->World->Prop} {ops:Array Oper}
theorem op_in {o:Oper} {a:Act} {w:World} (hd:notDefer o.op=true) (hK : ∀a w,K a w->K' (lay D a) w) (hQ : ∀e a w,Q e a w->Q' e (lay D a) w) (hO : ∀a w,¬Q .outgrown a w) (h:o.wp P a w K Q):o.wpIn (fw ro) n P (lay D a) w K' Q':=by
 refine⟨fun f _=>fw_fn ro f,?_⟩
 rw[fw_round,Oper.semAt_eq _ _ _ (fun c e=>by rw[e]at hd;cases hd),lay_eval]
 unfold Oper.wp at h
 generalize (execOp a.eval o).run P w=r at *
 cases r with
 |ok x w' =>
  cases x with
  |value v=>
   rw[Oper.uponIn_value,lay_put]
   exact hK _ _ h
  |skip=>
   rw[Oper.uponIn_skip,lay_put]
   exact hK _ _ h
  |defer d=>
   rw[Oper.uponIn_defer]
   have:({ lay D a with defers:=d::(lay D a).defers }:Act)=lay D { a with defers:=d::a.defers }:=rfl
   rw[this,lay_put]
   exact hK _ _ h
  |enter f args=>
   rw[Oper.uponIn_enter]
   rw[Oper.upon_enter]at h
   refine⟨fun e=>(fw_depth ro e).elim,(fw_calls ro h).mono fun e w'' he => ?_⟩
   cases e with
   |returned v=>
    show K' ((lay D a).put o.dst v) w''
    rw[lay_put]
    exact hK _ _ he
   |panicked ch=>exact hQ _ _ _ he
   |outgrown=>obtain⟨a0,w0,h0⟩:=he;exact(hO _ _ h0).elim
  |row row args=>
   rw[Oper.uponIn_row]
   rw[Oper.upon_row]at h
   refine⟨fun e=>(fw_depth ro e).elim,(fw_rows ro h).mono fun v w'' he => ?_⟩
   rw[lay_put]
   exact hK _ _ he
  |_=>exact h.elim
 |halt x w' =>
  cases x with
  |panic v=>exact hQ _ _ _ h
  |_=>exact h.elim
theorem opI_in {i:Nat} {a:Act} {w:World} (hd : ∀o∈ops,notDefer o.op=true) (hK : ∀a w,K a w->K' (lay D a) w) (hQ : ∀e a w,Q e a w->Q' e (lay D a) w) (hO : ∀a w,¬Q .outgrown a w) (h:wpOp P ops Q i K a w):wpOpIn (fw ro) n P ops Q' i K' (lay D a) w:=by
 unfold wpOp at h
 unfold wpOpIn
 cases ho:ops[i]? with
 |none=>
  rw[ho]at h
  exact hK _ _ h
 |some o=>
  rw[ho]at h
  dsimp only at h ⊢
  have hy:yielded ops (lay D a).tmps=yielded ops a.tmps:=rfl
  rw[hy]
  split at h
  ·rename_i hw
   rw[if_pos hw]
   rcases h with h|⟨_,a0,w0,h0⟩
   ·exact op_in (hd o (Array.mem_of_getElem? ho)) hK hQ hO h
   ·exact(hO _ _ h0).elim
  ·rename_i hw
   rw[if_neg hw]
   refine⟨fun f _=>fw_fn ro f,?_⟩
   rw[lay_put]
   exact hK _ _ h
theorem ops_in (hd : ∀o∈ops,notDefer o.op=true) (hQ : ∀e a w,Q e a w->Q' e (lay D a) w) (hO : ∀a w,¬Q .outgrown a w) : ∀ {l:List Nat} {a:Act} {w:World},wpOps P ops Q l a w->wpOpsIn (fw ro) n P ops Q' l (lay D a) w
 | [],a,w,h=>hQ _ _ _ h
 |i::r,a,w,h=>by
  rw[wpOps_cons]at h
  rw[wpOpsIn_cons]
  exact opI_in hd (fun a w h=>ops_in hd hQ hO h) hQ hO h
theorem any_in (hd : ∀o∈ops,notDefer o.op=true) (hQ : ∀e a w,Q e a w->Q' e (lay D a) w) (hO : ∀a w,¬Q .outgrown a w) : ∀ {fuel:Nat} {listed:Array Bool} {a:Act} {w:World},wpAny P .any ops Q fuel listed a w->wpAnyIn (fw ro) n P .any ops Q' fuel listed (lay D a) w
 |0,_,_,_,h=>⟨h.1,hQ _ _ _ h.2⟩
 |fuel+1,listed,a,w,h=>⟨fun e=>hQ _ _ _ (h.1 e),fun i hi=>opI_in hd (fun a w h=>any_in hd hQ hO h) hQ hO (h.2 i hi)⟩
end
def rdCode:Code->Bool
 | .region _ ops _=>ops.all fun o=>notDefer o.op
 | .seq a b=>rdCode a&&rdCode b
 | .cond _ a b=>rdCode a&&rdCode b
 | .block _ c=>rdCode c
 | .loop c=>rdCode c
 | .skip=>true
 | .exit _=>true
 | .ret=>true
 |_=>false
section
variable {P:Program} {w0:World} {F I:Nat->Prop} {Z:Zy} {N:Nat}
theorem exec_in {call:Callf} (hcall:CallAll P Z.gl call) (hm:P.follows .mixedOrders=true) {mu:FuncId->Bool} (D:List Deferred) (ro:Option Nat) (k:Nat) : ∀ (n:Nat) {c:Code} {st:St} {a:Act} {w:World} {e:Ex} {st':St} {Q:Exit->Act->World->Prop},okCode N c=true->rdCode c=true->To w0 F I Z N st a w ->
  exec P call mu n c st=some (e,st')->(∀a' w',To w0 F I Z N st' a' w'->Q e.cv (lay D a') w')->c.wpIn (fw ro) k P Q (lay D a) w:=by
 intro n
 induction n with
 |zero=>intro c st a w e st' Q _ _ _ h;simp[exec]at h
 |succ n ih=>
  intro c st a w e st' Q hok hrd hr h hQ
  cases c with
  |skip=>simp only[exec,Option.some.injEq,Prod.mk.injEq]at h;obtain⟨rfl,rfl⟩:=h;exact wpIn_skip (hQ _ _ hr)
  |region id ops draw=>
   unfold exec at h
   simp only at h
   split at h
   ·rename_i s0 hs0
    have hr0:To w0 F I Z N s0 a w:=by
     unfold preFrz at hs0
     split at hs0
     ·obtain⟨β,hb⟩:=hr
      exact⟨β,hb.frzAll hs0⟩
     ·cases hs0;exact hr
    split at h
    ·rename_i s hs
     cases h
     have hd : ∀o∈ops,notDefer o.op=true:=by
      unfold rdCode at hrd
      rw[Array.all_eq_true']at hrd
      exact hrd
     have key:=region_st (Q:=fun e a w=>e = .normal/\To w0 F I Z N st' a w) hcall hok hr0 hs fun a' w' h=>⟨rfl,h⟩
     have hQQ : ∀e a w,(e=Exit.normal/\To w0 F I Z N st' a w)->Q e (lay D a) w:=by
      rintro e a w ⟨rfl,h⟩
      exact hQ _ _ h
     have hO : ∀a w,¬(Exit.outgrown=Exit.normal/\To w0 F I Z N st' a w):=fun a w h=>by cases h.1
     cases draw with
     |false=>exact wpIn_region (ops_in hd hQQ hO key)
     |true=>exact wpIn_region_any hm (any_in hd hQQ hO key)
    ·cases h
   ·cases h
  |seq x y=>
   unfold okCode at hok
   unfold rdCode at hrd
   simp only[Bool.and_eq_true]at hok hrd
   unfold exec at h
   simp only at h
   split at h
   ·rename_i s hs
    exact wpIn_seq (ih hok.1 hrd.1 hr hs fun a' w' hr'=>ih hok.2 hrd.2 hr' h hQ)
   ·rename_i hne
    refine wpIn_seq (ih hok.1 hrd.1 hr h fun a' w' hr' => ?_)
    have hq:=hQ a' w' hr'
    cases e with
    |normal=>exact(hne _ h).elim
    |exit i=>exact hq
    |ret=>exact hq
    |goto l=>exact hq
  |cond x t f=>
   unfold okCode at hok
   unfold rdCode at hrd
   simp only[Bool.and_eq_true]at hok hrd
   unfold exec at h
   simp only at h
   split at h
   ·rename_i b hb
    obtain⟨β,hrel⟩:=hr
    have hv:=hrel.eval x
    rw[hb]at hv
    refine wpIn_cond (t:=b) (by rw[lay_eval];exact rep_bool hv) ?_
    cases b with
    |true=>exact ih hok.1 hrd.1 ⟨β,hrel⟩ h hQ
    |false=>exact ih hok.2 hrd.2 ⟨β,hrel⟩ h hQ
   ·cases h
  |block id b=>
   unfold exec at h
   simp only at h
   refine wpIn_block ?_
   split at h
   ·rename_i i s hs
    refine ih hok hrd hr hs fun a' w' hr' => ?_
    show if i=id then Q .normal (lay D a') w' else Q (.exit i) (lay D a') w'
    split at h
    ·rename_i hi
     cases h
     rw[if_pos hi]
     exact hQ a' w' hr'
    ·rename_i hi
     cases h
     rw[if_neg hi]
     exact hQ a' w' hr'
   ·rename_i hne
    refine ih hok hrd hr h fun a' w' hr' => ?_
    have hq:=hQ a' w' hr'
    cases e with
    |normal=>exact hq
    |exit i=>exact(hne _ _ h).elim
    |ret=>exact hq
    |goto l=>exact hq
  |loop b=>
   have key : ∀ (m:Nat),m<=n+1 -> ∀ {st:St} {a:Act} {w:World},To w0 F I Z N st a w->exec P call mu m (.loop b) st=some (e,st')->Code.roundsIn (fw ro) k P b Q m (lay D a) w:=by
    intro m
    induction m with
    |zero=>intro _ st a w _ h;simp[exec]at h
    |succ m ihm=>
     intro hle st a w hr h
     rw[roundsIn_succ]
     unfold exec at h
     simp only at h
     split at h
     ·rename_i s hs
      have hs':=exec_mono (CallLe.refl call) (show m<=n by omega) hs
      exact ih hok hrd hr hs' fun a' w' hr'=>ihm (by omega) hr' h
     ·rename_i hne
      have h':=exec_mono (CallLe.refl call) (show m<=n by omega) h
      refine ih hok hrd hr h' fun a' w' hr' => ?_
      have hq:=hQ a' w' hr'
      cases e with
      |normal=>exact(hne _ h).elim
      |exit i=>exact hq
      |ret=>exact hq
      |goto l=>exact hq
   exact wpIn_loop_rounds (n+1) (key (n+1) (Nat.le_refl _) hr h)
  |rangeFunc f p x y=>simp[exec]at h
  |exit id=>simp only[exec,Option.some.injEq,Prod.mk.injEq]at h;obtain⟨rfl,rfl⟩:=h;exact wpIn_exit (hQ _ _ hr)
  |scope b=>cases hrd
  |label l=>cases hrd
  |goto l=>cases hrd
  |ret=>simp only[exec,Option.some.injEq,Prod.mk.injEq]at h;obtain⟨rfl,rfl⟩:=h;exact wpIn_ret (hQ _ _ hr)
  |refuse why=>simp[exec]at h
end
end Go.Ev
namespace Go.Ev
open Go.RowKit
section
variable {w w':World} {M M':Nat->Prop}
theorem Rep.turn {C:Nat->Prop} (hc : ∀ (k:Nat) cs ty fz,w.heap[k]?=some (.cells cs ty fz) -> ¬C k->w'.heap[k]?=some (.cells cs ty fz)) (hC : ∀k,C k->M k) (hM : ∀b,b<w.heap.size->M' b->M b) :
  ∀ {v:Value} {s:SV},Rep w M v s->Rep w' M' v s:=by
 have hcell : ∀ (p:Addr) (v:Value),¬M p.block->w.cell? p=some v->w'.cell? p=some v:=by
  intro p v hm hv
  have hlt:p.block<w.heap.size:=World.block_lt_of_cell? w p hv
  unfold World.cell? at hv ⊢
  cases ho:w.heap[p.block]? with
  |none=>rw[ho]at hv;simp at hv
  |some o=>
   rw[ho]at hv
   cases o with
   |cells cs ty fz=>rw[hc _ cs ty fz ho (fun h=>hm (hC _ h))];exact hv
   |_=>simp at hv
 intro v s h
 induction h with
 |bool b=>exact .bool b
 |int k n=>exact .int k n
 |str s=>exact .str s
 |sl0 A n cap h=>exact .sl0 A n cap h
 |sl a n cap h cells c hb hcl _ ih=>
  cases cells with
  |nil=>exact .sl0 _ n cap h
  |cons x l=>
   have hlt:a.block<w.heap.size:=World.block_lt_of_cell? w a (hcl 0 x rfl)
   exact .sl a n cap h _ c (fun hm=>hb (hM _ hlt hm)) (fun i s hi=>hcell _ _ (by rw[block_add];exact hb) (hcl i s hi)) ih
 |agg vs cells hl _ ih=>exact .agg vs cells hl ih
 |tup vs cells hl _ ih=>exact .tup vs cells hl ih
 |mem0 a=>exact .mem0 a
 |mem a cells c hb hcl _ ih=>
  cases cells with
  |nil=>exact .mem0 a
  |cons x l=>
   have hlt:a.block<w.heap.size:=World.block_lt_of_cell? w a (hcl 0 x rfl)
   exact .mem a _ c (fun hm=>hb (hM _ hlt hm)) (fun i s hi=>hcell _ _ (by rw[block_add];exact hb) (hcl i s hi)) ih
 |fn f vs caps hl _ ih=>exact .fn f vs caps hl ih
 |con v h=>exact .con v h
theorem RepT.turn {C:Nat->Prop} {β:Nat->Nat->Nat} (hc : ∀ (k:Nat) cs ty fz,w.heap[k]?=some (.cells cs ty fz) -> ¬C k->w'.heap[k]?=some (.cells cs ty fz)) (hC : ∀k,C k->M k) (hM : ∀b,b<w.heap.size->M' b->M b)
  {v:Value} {t:TV} (hn : ∀d g,t.id=some (d,g) -> ¬C (β d g)) (h:RepT β w M v t):RepT β w' M' v t:=by
 cases t with
 |sv s=>exact Rep.turn hc hC hM h
 |nil=>exact h
 |ptr d g off=>exact h
 |ref d g size off n=>
  obtain⟨cap,cs,ty,hv,hn',hb,hsz⟩:=h
  exact⟨cap,cs,ty,hv,hn',hc _ _ _ _ hb (hn d g rfl),hsz⟩
 |rfc d g size off n c=>
  obtain⟨cs,ty,hv,hn',hb,hsz⟩:=h
  exact⟨cs,ty,hv,hn',hc _ _ _ _ hb (hn d g rfl),hsz⟩
 |pst d g=>exact h
 |undef=>trivial
 |skip=>exact h
 |emp=>exact h
end
def ownB (β:Nat->Nat->Nat) (st:St) (k:Nat):Prop := ∃d g,(st.obj d g).isSome=true/\β d g=k
def TV.stands (st:St) (v:TV):Prop := ∀d g,v.id=some (d,g)->(st.obj d g).isSome=true
def Live (G:List (Nat×Value)) (F:Nat->Prop) (L N:Nat) (y:Nat->Value) (st:St) (a:Act) (w:World):Prop := ∃z β,Rel w F (ownB β st) ⟨z,y,True,G⟩ N β st a w /\ ∀k,ownB β st k->L<=k
section
variable {w0 w w':World} {F F' I C:Nat->Prop} {Z:Zy} {N:Nat} {β:Nat->Nat->Nat} {st s:St} {a a':Act} {y:Nat->Value}
theorem live_mk {L:Nat} (h:Rel w0 F I Z N β st a w) (hL:L<=w0.heap.size) (hI : ∀k,I k->L<=k)
  (hc : ∀ (k:Nat) cs ty fz,w.heap[k]?=some (.cells cs ty fz) -> ¬C k->w'.heap[k]?=some (.cells cs ty fz)) (hC : ∀k,C k->Mut F β st k /\ ¬ownB β s k) (hsz:w.heap.size<=w'.heap.size)
  (hF : ∀k,F' k->k<w'.heap.size/\(k<w.heap.size->Mut F β st k /\ ¬ownB β s k))
  (ho : ∀d g cs,s.obj d g=some cs->st.obj d g=some cs) (hg:s.gen=st.gen)
  (hh : ∀d g ts,s.hob d g=some ts->(s.obj d g).isSome=true /\ ∃ts0,st.hob d g=some ts0 /\ ∀ (i:Nat) (t:TV),ts[i]?=some t -> ∃t0,ts0[i]?=some t0/\(t=t0\/t = .undef)/\t.stands s)
  (hd:a'.defers=[]) (hs:a'.tmps.size=N)
  (ht : ∀t,RepT β w (Mut F β st) (a'.tmps.getD t undef) (s.tmp t)/\(s.tmp t).stands s) (hu : ∀t,RepT β w (Mut F β st) (y t) (s.up t)/\(s.up t).stands s):Live Z.gl F' L N y s a' w':=by
 have his : ∀ {d g},(s.obj d g).isSome=true->(st.obj d g).isSome=true:=by
  intro d g h1
  cases e:s.obj d g with
  |none=>rw[e]at h1;cases h1
  |some cs=>rw[ho d g cs e];rfl
 have hM : ∀b,b<w.heap.size->Mut F' β s b->Mut F β st b:=by
  rintro b hb (hf|⟨d,g,h1,h2⟩)
  ·exact((hF b hf).2 hb).1
  ·exact .inr ⟨d,g,his h1,h2⟩
 have hCM : ∀k,C k->Mut F β st k:=fun k hk=>(hC k hk).1
 have hrep : ∀ {v:Value} {x:SV},Rep w (Mut F β st) v x->Rep w' (Mut F' β s) v x:=fun hr=>Rep.turn hc hCM hM hr
 have hT : ∀ {v:Value} {x:TV},RepT β w (Mut F β st) v x->x.stands s->RepT β w' (Mut F' β s) v x:=fun hr hx=>RepT.turn hc hCM hM (fun d g e hk=>(hC _ hk).2 ⟨d,g,hx d g e,rfl⟩) hr
 have hgen : ∀ {x:TV},x.stands s -> ∀d g,x.id=some (d,g)->g<s.gen d:=fun hx d g e=>by rw[hg];exact h.gens d g (his (hx d g e))
 have hblk : ∀ {d g},(s.obj d g).isSome=true -> ∀cs ty,w.heap[β d g]?=some (.cells cs ty (0,0))->w'.heap[β d g]?=some (.cells cs ty (0,0)):=fun h1 cs ty hb=>hc _ _ _ _ hb (fun hk=>(hC _ hk).2 ⟨_,_,h1,rfl⟩)
 have hown : ∀k,ownB β s k->L<=k:=by
  rintro k ⟨d,g,h1,rfl⟩
  obtain⟨o1,o2⟩:=h.own d g (his h1)
  by_cases hd:d<N0\/H0<=d
  ·rcases o1 hd with h2|⟨_,h2⟩
   ·omega
   ·exact hI _ h2
  ·exact hI _ (o2 (by omega) (by omega))
 refine⟨Z.z,β,?_,hown⟩
 exact {
  defers:=hd
  size:=hs
  tmps:=fun t=>hT (ht t).1 (ht t).2
  ids:=fun t d g e=>hgen (ht t).2 d g e
  objs:=fun d g cells hcs=>by
   obtain⟨us,ty,hb,hall⟩:=h.objs d g cells (ho d g cells hcs)
   refine⟨us,ty,hblk (by rw[hcs];rfl) _ _ hb,fun i x hi => ?_⟩
   obtain⟨h1,v,hv,hr⟩:=hall i x hi
   exact⟨h1,v,hv,hrep hr⟩
  own:=fun d g h1=>⟨fun _ => .inr ⟨trivial,d,g,h1,rfl⟩,fun _ _=>⟨d,g,h1,rfl⟩⟩
  room:=h.room
  inj:=fun d g d' g' h1 h2 e=>h.inj d g d' g' (his h1) (his h2) e
  gens:=fun d g h1=>by rw[hg];exact h.gens d g (his h1)
  ext:=Ext.refl _ _
  old:=fun k hk=>(hF k hk).1
  imps:=fun k hk=>⟨.inr trivial,fun _ hf=>by
   obtain⟨d,g,h1,rfl⟩:=hk
   have hlt:β d g<w.heap.size:=by
    cases e:s.obj d g with
    |none=>rw[e]at h1;cases h1
    |some cs=>
     obtain⟨us,ty,hb,_⟩:=h.objs d g cs (ho d g cs e)
     exact lt_of_heap hb
   exact((hF _ hf).2 hlt).2 ⟨d,g,h1,rfl⟩⟩
  pin:=h.pin
  ups:=fun t=>hT (hu t).1 (hu t).2
  uids:=fun t d g e=>hgen (hu t).2 d g e
  glob:=fun g v hg=>hrep (h.glob g v hg)
  hobs:=fun d g ts hts=>by
   obtain⟨h0,ts0,hts0,hall⟩:=hh d g ts hts
   obtain⟨h1,h2,us,ty,hb,hcell⟩:=h.hobs d g ts0 hts0
   have h2':s.obj d g=some []:=by
    cases e:s.obj d g with
    |none=>rw[e]at h0;cases h0
    |some cs=>have:=ho d g cs e;rw[h2]at this;exact this.symm
   refine⟨h1,h2',us,ty,hblk h0 _ _ hb,fun i t hi => ?_⟩
   obtain⟨t0,ht0,hor,hst⟩:=hall i t hi
   obtain⟨v,hv,hv1,hvr,_⟩:=hcell i t0 ht0
   refine⟨v,hv,hv1,?_,fun d' g' e=>hgen hst d' g' e⟩
   rcases hor with rfl|rfl
   ·exact hT hvr hst
   ·trivial }
def TV.cln (st:St) (v:TV):TV:=match v.id with
 |some (d,g)=>if (st.obj d g).isSome then v else .undef
 |none=>v
theorem cln_or (st:St) (v:TV):v.cln st=v\/v.cln st = .undef:=by
 unfold TV.cln
 split
 ·split
  ·exact .inl rfl
  ·exact .inr rfl
 ·exact .inl rfl
theorem cln_stands (st:St) (v:TV):(v.cln st).stands st:=by
 intro d g h
 unfold TV.cln at h
 split at h
 ·rename_i d' g' e
  split at h
  ·rename_i h1
   rw[e]at h
   cases h
   exact h1
  ·cases h
 ·rename_i e
  rw[e]at h
  cases h
theorem cln_rep {w:World} {M:Nat->Prop} {v:Value} {t:TV} (st:St) (h:RepT β w M v t):RepT β w M v (t.cln st):=by
 rcases cln_or st t with e|e
 ·rw[e];exact h
 ·rw[e];trivial
def St.with (st:St) (tm tu:Nat->TV):St:={ st with tmp:=fun t=>(tm t).cln st,up:=fun t=>(tu t).cln st,hob:=fun d g=>(st.hob d g).map fun ts=>ts.map (·.cln st) }
theorem live_with {L:Nat} (h:Rel w0 F I Z N β st a w) (hL:L<=w0.heap.size) (hI : ∀k,I k->L<=k) {s0:St} {tm tu:Nat->TV} {T:Array Value}
  (hc : ∀ (k:Nat) cs ty fz,w.heap[k]?=some (.cells cs ty fz) -> ¬C k->w'.heap[k]?=some (.cells cs ty fz)) (hC : ∀k,C k->Mut F β st k /\ ¬ownB β s0 k) (hsz:w.heap.size<=w'.heap.size)
  (hF : ∀k,F' k->k<w'.heap.size/\(k<w.heap.size->Mut F β st k /\ ¬ownB β s0 k))
  (ho : ∀d g cs,s0.obj d g=some cs->st.obj d g=some cs) (hg:s0.gen=st.gen) (hh : ∀d g ts,s0.hob d g=some ts->(s0.obj d g).isSome=true/\st.hob d g=some ts)
  (hs:T.size=N) (ht : ∀t,RepT β w (Mut F β st) (T.getD t undef) (tm t)) (hu : ∀t,RepT β w (Mut F β st) (y t) (tu t)):Live Z.gl F' L N y (s0.with tm tu) ⟨T,[]⟩ w':=by
 refine live_mk (C:=C) h hL hI hc hC hsz hF ho hg (fun d g ts hts => ?_) rfl hs (fun t=>⟨cln_rep s0 (ht t),cln_stands s0 _⟩) (fun t=>⟨cln_rep s0 (hu t),cln_stands s0 _⟩)
 have hts:(s0.hob d g).map (fun ts=>ts.map (·.cln s0))=some ts:=hts
 obtain⟨ts0,h0,rfl⟩:=map_some hts
 obtain⟨h1,h2⟩:=hh d g ts0 h0
 refine⟨h1,ts0,h2,fun i t hi => ?_⟩
 rw[List.getElem?_map]at hi
 obtain⟨t0,ht0,rfl⟩:=map_some hi
 exact⟨t0,ht0,cln_or s0 t0,cln_stands s0 t0⟩
theorem own_apart (h:Rel w0 F I Z N β st a w) (ho:Z.old) {k:Nat} (hk:F k) : ¬ownB β st k:=by
 rintro⟨d,g,h1,rfl⟩
 have hlt:=h.old _ hk
 obtain⟨o1,o2⟩:=h.own d g h1
 have hnot : ¬I (β d g):=fun hi=>(h.imps _ hi).2 ho hk
 by_cases hd:d<N0\/H0<=d
 ·rcases o1 hd with h2|⟨_,h2⟩
  ·omega
  ·exact hnot h2
 ·exact hnot (o2 (by omega) (by omega))
theorem live_again {L:Nat} (h:Rel w0 F I Z N β st a w) (hL:L<=w0.heap.size) (hI : ∀k,I k->L<=k) (hold:Z.old) {tm tu:Nat->TV} {T:Array Value}
  (hc : ∀ (k:Nat) cs ty fz,w.heap[k]?=some (.cells cs ty fz) -> ¬C k->w'.heap[k]?=some (.cells cs ty fz)) (hC : ∀k,C k->F k) (hsz:w.heap.size<=w'.heap.size)
  (hF : ∀k,F' k->k<w'.heap.size/\(k<w.heap.size->F k))
  (hs:T.size=N) (ht : ∀t,RepT β w (Mut F β st) (T.getD t undef) (tm t)) (hu : ∀t,RepT β w (Mut F β st) (y t) (tu t)):Live Z.gl F' L N y (st.with tm tu) ⟨T,[]⟩ w' :=
 live_with (C:=C) h hL hI hc (fun k hk=>⟨.inl (hC k hk),own_apart h hold (hC k hk)⟩) hsz (fun k hk=>⟨(hF k hk).1,fun hlt=>⟨.inl ((hF k hk).2 hlt),own_apart h hold ((hF k hk).2 hlt)⟩⟩)
  (fun _ _ _ h=>h) rfl (fun d g ts hts=>by
   obtain⟨_,h2,_⟩:=h.hobs d g ts hts
   exact⟨by rw[h2];rfl,hts⟩) hs ht hu
end
section
variable {P:Program} {w0:World} {F I:Nat->Prop} {Z:Zy} {N:Nat}
theorem pre_in {call:Callf} (hcall:CallAll P Z.gl call) {mu:FuncId->Bool} {D:List Deferred} {ro:Option Nat} {n:Nat} {ops:Array Oper} {Q:Exit->Act->World->Prop} (hd : ∀o∈ops.toList,∀d,o.dst=some d->d<N) (hnd : ∀o∈ops,notDefer o.op=true) {st':St} :
  ∀ {m k:Nat} {st:St} {a:Act} {w:World},execOps P call mu false ops ((ops.toList.drop k).take m) st=some st'->k+m<=ops.size->To w0 F I Z N st a w ->
   (∀a' w',To w0 F I Z N st' a' w'->wpOpsIn (fw ro) n P ops Q (List.range' (k+m) (ops.size-(k+m))) (lay D a') w')->wpOpsIn (fw ro) n P ops Q (List.range' k (ops.size-k)) (lay D a) w
 |0,k,st,a,w,he,_,hr,hK=>by
  rw[List.take_zero]at he
  cases he
  exact hK a w hr
 |m+1,k,st,a,w,he,hle,hr,hK=>by
  have hk:k<ops.size:=by omega
  have ho:ops[k]?=some ops[k]:=Array.getElem?_eq_getElem hk
  have hdr:ops.toList.drop k=ops[k]::ops.toList.drop (k+1):=by
   rw[List.drop_eq_getElem_cons (by simpa using hk)]
   simp
  rw[hdr,List.take_succ_cons]at he
  unfold execOps at he
  cases e:stepO P call mu false ops ops[k] st with
  |none=>rw[e]at he;cases he
  |some s1=>
   rw[e]at he
   obtain⟨β,hr⟩:=hr
   rw[show ops.size-k=(ops.size-(k+1))+1 by omega,List.range'_succ,wpOpsIn_cons]
   have h1:=stepO_wpOp hr hcall ho (fun d e=>hd ops[k] (by simp) d e) e (K:=To w0 F I Z N s1) (fun _ _ h=>h) (fun _ _ _=>False)
   refine opI_in hnd (fun a' w' hto => ?_) (fun _ _ _ h=>h.elim) (fun _ _ h=>h) h1
   refine pre_in hcall hd hnd he (by omega) hto fun a2 w2 h2 => ?_
   rw[show k+1+m=k+(m+1) by omega]
   exact hK a2 w2 h2
theorem callI_in {D:List Deferred} {ro:Option Nat} {n:Nat} {ops:Array Oper} {Q:Exit->Act->World->Prop} {i:Nat} {dst:Option Nat} {f:Operand} {args:Array Operand} {tys:Array TypeId} {ty:TypeId} {pos:String} {af:Array Edge} {g:FuncId} {vs:Array Value} {K:Act->World->Prop} {a:Act} {w:World}
  (ho:ops[i]?=some ⟨dst,.call { callee := .value f,args:=args,argTypes:=tys },ty,pos,af,none⟩) (hf:a.eval f = .func (.func g) #[] vs) (h:Invk P g (args.map a.eval++vs) w fun e w' => ∃v,e = .returned v/\K (lay D (a.put dst v)) w'):wpOpIn (fw ro) n P ops Q i K (lay D a) w:=by
 have hg:Goes P a ⟨dst,.call { callee := .value f,args:=args,argTypes:=tys },ty,pos,af,none⟩ w (fun a' w'=>K (lay D a') w'):=calls_goes hf (h.mono fun e w' h=>h)
 unfold wpOpIn
 rw[ho]
 dsimp only
 have hw:Region.wanted ⟨dst,.call { callee := .value f,args:=args,argTypes:=tys },ty,pos,af,none⟩ (yielded ops (lay D a).tmps)=true:=by simp[Region.wanted]
 rw[if_pos hw]
 exact op_in rfl (fun _ _ h=>h) (fun _ _ _ h=>h.elim) (fun _ _ h=>h) (hg fun _ _ _=>False)
end
end Go.Ev
namespace Go.Proofs
open Go.Shelf Go.RowKit
variable {P:Program} {ρ:Ren}
theorem append_str {w:World} (base:Nat) (t u ty e:TypeId) (i:TypeInfo) (ht:P.underlying t=some (.slice e)) (hu:P.underlying u=some .string) (hi:P.info? e=some i) (hz:i.zero=some (.int .u8 0))
  (hsize:i.size=1) (hby:i.bytes=1) (v:Value) (n:Nat) (xs:List Value) (hown:w.ownsRow base e 1 v n xs) (s:ByteArray)
  (h63:n+s.size<=maxLen) (hbytes:n+s.size<=140737488355328) (hbase:base<=w.heap.size) :
  ∃v' w',(Builtin.append_ #[t,u] ty #[v,.string s]).run P w = .ok v' w'/\w'.ownsRow base e 1 v' (n+s.size) (xs++Lib.strCells s)/\w.grownBy w' v.ownBlock/\(v'.ownBlock=v.ownBlock \/ ∀k,v'.ownBlock=some k->w.heap.size<=k):=by
 obtain⟨v',w',hr,h1,h2,_⟩:=Lib.run_append_own_string (P:=P) w base t u ty e i ht hu hi hz hsize hby v n xs hown s h63 hbytes hbase
 refine⟨v',w',hr,h1,h2,?_⟩
 rcases hown.2 with⟨rfl,rfl⟩|⟨g,cap,cur,rfl,hbg,hg,hnc,hcm,hcs,htake⟩
 ·right
  have hx:xs=[]:=List.eq_nil_of_length_eq_zero (by simpa using hown.1)
  subst hx
  obtain⟨v2,w2,hr2,h3,_,_⟩:=Lib.run_append_own_string (P:=P) w w.heap.size t u ty e i ht hu hi hz hsize hby (.slice none 0 0) 0 [] (World.ownsRow_nil w w.heap.size e 1) s h63 hbytes (Nat.le_refl _)
  rw[hr]at hr2
  cases hr2
  intro k hk
  rcases h3.2 with⟨e0,_⟩|⟨g,cap,cur,e0,hb,_⟩
  ·rw[e0]at hk;cases hk
  ·rw[e0]at hk;cases hk;exact hb
 ·have hxl:xs.length=n:=by simpa using hown.1
  by_cases hroom:n+s.size<=cap
  ·left
   have hcs':cur.size=cap:=by simpa using hcs
   have hr2:=Lib.run_append_room_string (P:=P) w t u ty e i ht hu hi hsize g n cap cur hg s hroom (by omega)
   rw[hr]at hr2
   cases hr2
   rfl
  ·right
   have holds : ∀j u,xs[j]?=some u->w.cell? ((⟨g,0,none⟩:Addr).add j)=some u:=hown.cells (g:=g) rfl
   have hr2:=Lib.run_append_grow_string (P:=P) w t u ty e i (.int .u8 0) ht hu hi hz ⟨g,0,none⟩ n cap xs (by rw[hsize];simpa using hxl) holds s (by omega) (by simp only[maxLen]at h63;omega) (by rw[hby];exact growslice_fits (by omega) (by omega))
   rw[hr]at hr2
   cases hr2
   intro k hk
   cases hk
   exact Nat.le_refl _
theorem wpList_append_str {w:World} {ops:Array Oper} {rest:List Oper} {o:Oper} {a:Act} {Q:Exit->Act->World->Prop} (hgd:o.guard=none) (sl x:Operand) (t u:TypeId)
  (ho:o.op = .call { callee := .builtin .append,args := #[sl,x],argTypes := #[t,u] })
  (base:Nat) (e:TypeId) (i:TypeInfo) (ht:P.underlying t=some (.slice e)) (hu:P.underlying u=some .string) (hi:P.info? e=some i) (hz:i.zero=some (.int .u8 0))
  (hsize:i.size=1) (hby:i.bytes=1)
  (v:Value) (n:Nat) (xs:List Value) (hs:a.eval sl=v) (hown:w.ownsRow base e 1 v n xs) (s:ByteArray) (hx:a.eval x = .string s)
  (h63:n+s.size<=maxLen) (hbytes:n+s.size<=140737488355328) (hbase:base<=w.heap.size)
  (h : ∀v' w',w'.ownsRow base e 1 v' (n+s.size) (xs++Lib.strCells s)->w.grownBy w' v.ownBlock->(v'.ownBlock=v.ownBlock \/ ∀k,v'.ownBlock=some k->w.heap.size<=k)->wpList P ops Q rest (a.put o.dst v') w'):wpList P ops Q (o::rest) a w:=by
 refine wpList_plain hgd fun K hK => ?_
 obtain⟨v',w',hr,h2,h3,h4⟩:=append_str (P:=P) base t u o.type e i ht hu hi hz hsize hby v n xs hown s h63 hbytes hbase
 unfold Oper.wp execOp
 simp only[ho,resolve,invoke,builtin,Sem.run_bind,Sem.run_pure,Result.andThen_ok,List.map_toArray,List.map_cons,List.map_nil,hs,hx,hr]
 exact hK _ _ (h v' w' h2 h3 h4)
structure KeepsBut (b:Nat) (v:Value) (w w':World):Prop where
 os:w'.os=w.os
 tape:w'.tape=w.tape
 output:w'.output=w.output
 size:w.heap.size<=w'.heap.size
 same : ∀k,k<w.heap.size->k≠b->v.ownBlock≠some k->w'.heap[k]?=w.heap[k]?
set_option maxHeartbeats 2000000 in
set_option maxRecDepth 100000 in
theorem Bld_WriteString (L:Lays.n166 P ρ) (X:Builder.Extra P ρ) (B b:Nat) (p v:Value) (bs:List Value) (s:ByteArray) (w:World) (hp:p = .pointer none\/p = .pointer (some ⟨b,0,none⟩))
  (hB:B<=b) (hbk0:w.heap[b]?=some (.cells #[p,v] (ρ.t 72) (0,0))) (hown0:w.ownsRow B (ρ.t 5) 1 v bs.length bs) (hne:v.ownBlock≠some b) (hlen:bs.length+s.size<=140737488355328) (hBw:B<=w.heap.size) :
  Calls P (ρ.f 166) #[.pointer (some ⟨b,0,none⟩),.string s] w fun e w'=>e = .returned (.tuple #[.int .i64 s.size,.nilIface]) /\
   ∃v',w'.heap[b]?=some (.cells #[.pointer (some ⟨b,0,none⟩),v'] (ρ.t 72) (0,0))/\w'.ownsRow B (ρ.t 5) 1 v' (bs++Lib.strCells s).length (bs++Lib.strCells s)/\v'.ownBlock≠some b/\(v'.ownBlock=v.ownBlock \/ ∀k,v'.ownBlock=some k->w.heap.size<=k)/\KeepsBut b v w w':=by
 obtain⟨i0,hi,hz0,hz1,hz2⟩:=info_parts X.infoByte
 have mixed:=L.mixed
 have t72:=L.t72;have a72:=L.a72;have z72:=L.z72;have v72:=L.v72;have u72:=run_underlying L.t72
 have t70:=L.t70;have a70:=L.a70;have z70:=L.z70;have v70:=L.v70;have u70:=run_underlying L.t70
 have t37:=L.t37;have a37:=L.a37;have z37:=L.z37;have v37:=L.v37;have u37:=run_underlying L.t37
 have t3:=L.t3;have a3:=L.a3;have z3:=L.z3;have v3:=L.v3;have u3:=run_underlying L.t3
 have t9:=L.t9;have a9:=L.a9;have z9:=L.z9;have v9:=L.v9;have u9:=run_underlying L.t9
 have t4:=L.t4;have a4:=L.a4;have z4:=L.z4;have v4:=L.v4;have u4:=run_underlying L.t4
 have t164:=L.t164;have a164:=L.a164;have z164:=L.z164;have v164:=L.v164;have u164:=run_underlying L.t164
 have t5:=X.t5;have a5:=X.a5;have z5:=X.z5;have v5:=X.v5;have u5:=run_underlying X.t5
 have e240 : ∀args w,(callFunc (ρ.f 240) args).run P w = .ok (.enter (ρ.f 240) args) w:=enters_of L.f240 (by kernel_rfl) rfl
 have hlt0:b<w.heap.size:=by
  rcases Nat.lt_or_ge b w.heap.size with h'|h'
  ·exact h'
  ·simp[Array.getElem?_eq_none h']at hbk0
 -- what copyCheck leaves
 have hcc:Calls P (ρ.f 240) #[.pointer (some ⟨b,0,none⟩)] w fun e w1=>e = .returned (.tuple #[])/\w1.heap[b]?=some (.cells #[.pointer (some ⟨b,0,none⟩),v] (ρ.t 72) (0,0))/\w1.ownsRow B (ρ.t 5) 1 v bs.length bs/\KeepsBut b v w w1:=by
  rcases hp with rfl|rfl
  ·have hA:Lib.BuilderAt (ρ.t 72) (ρ.t 5) B b (.pointer none) bs w:=⟨hB,v,hbk0,hown0,hne⟩
   refine(Any.Builder_copyCheck_fresh { L with } X.toX72 b w hA.cell0 hA.shape hA.frozen0).mono ?_
   rintro e w1 ⟨rfl,rfl⟩
   refine⟨rfl,?_,?_,rfl,rfl,rfl,by simp[World.setCell],fun k hk hkb _=>Below.heap_setCell _ _ _ _ (fun e=>hkb e)⟩
   ·simp[World.setCell,Array.getElem?_modify,hbk0]
   ·exact hown0.kept (row:=some b) ⟨rfl,rfl,rfl,by simp[World.setCell],fun k _ hk=>Below.heap_setCell _ _ _ _ (fun e=>hk (by simp[e]))⟩ (Or.inr hne)
  ·have hA:Lib.BuilderAt (ρ.t 72) (ρ.t 5) B b (.pointer (some ⟨b,0,none⟩)) bs w:=⟨hB,v,hbk0,hown0,hne⟩
   refine(Any.Builder_copyCheck_used { L with } X.toX72 b w hA.cell0).mono ?_
   rintro e w1 ⟨rfl,rfl⟩
   exact⟨rfl,hbk0,hown0,rfl,rfl,rfl,Nat.le_refl _,fun _ _ _ _=>rfl⟩
 go_enter L.f166,Body.n166_ntmps ρ
 go_wp2_with (go_at_fn (ρ.f 240);refine hcc.mono ?_)
 rintro e w1 ⟨rfl,hbk,hown,hk1⟩
 have c0:w1.cell? ⟨b,0,none⟩=some (.pointer (some ⟨b,0,none⟩)):=by rw[Lib.cell_of_heap hbk];rfl
 have c1:w1.cell? ⟨b,1,none⟩=some v:=by rw[Lib.cell_of_heap hbk];rfl
 go_wp2_with (at_builtin;refine wpList_append_str rfl _ _ (ρ.t 37) (ρ.t 9) rfl B (ρ.t 5) i0 L.t37 L.t9 hi hz0 hz1 hz2 _ _ _ rfl hown s rfl ?c3 ?c4 ?c5 ?_)
 case c3=>unfold maxLen;omega
 case c4=>omega
 case c5=>have:=hk1.size;omega
 intro v' w2 hown' hgrow hwhere
 have hlt:b<w1.heap.size:=Nat.lt_of_lt_of_le hlt0 hk1.size
 have hb2:w2.heap[b]?=some (.cells #[.pointer (some ⟨b,0,none⟩),v] (ρ.t 72) (0,0)):=by
  rw[hgrow.block b hlt (fun e=>hne e.symm)]
  exact hbk
 have d0:w2.cell? ⟨b,0,none⟩=some (.pointer (some ⟨b,0,none⟩)):=by rw[Lib.cell_of_heap hb2];rfl
 have d1:w2.cell? ⟨b,1,none⟩=some v:=by rw[Lib.cell_of_heap hb2];rfl
 have f1:w2.frozen? ⟨b,1,none⟩=false:=Lib.frozen_of_heap hb2 1
 obtain⟨ao,n',cap,rfl⟩ : ∃ao n' cap,v' = .slice ao n' cap:=by
  rcases hown'.2 with⟨hv,_⟩|⟨g,cap,cur,hv,_⟩
  ·exact⟨_,_,_,hv⟩
  ·exact⟨_,_,_,hv⟩
 go_wp2
 go_ret2
 refine⟨rfl,?_⟩
 have hne':=Lib.ownBlock_ne hown' hb2 X.neB5
 refine⟨_,?_,?_,hne',?_,?_⟩
 ·simp[World.setCell,Array.getElem?_modify,hb2]
 ·rw[List.length_append,Lib.strCells_length]
  exact hown'.kept (row:=some b) ⟨rfl,rfl,rfl,by simp[World.setCell],fun k _ hk=>Below.heap_setCell _ _ _ _ (fun e=>hk (by simp[e]))⟩ (Or.inr hne')
 ·exact hwhere.imp_right fun h k hk=>Nat.le_trans hk1.size (h k hk)
 refine⟨hgrow.os.trans hk1.os,hgrow.tape.trans hk1.tape,hgrow.output.trans hk1.output,?_,fun k hk hkb hkv => ?_⟩
 ·have:=hk1.size
  have:=hgrow.size
  simp[World.setCell]
  omega
 ·rw[Below.heap_setCell _ _ _ _ (fun e=>hkb e),hgrow.block k (Nat.lt_of_lt_of_le hk hk1.size) (fun e=>hkv e.symm)]
  exact hk1.same k hk hkb hkv
set_option maxHeartbeats 1000000 in
set_option maxRecDepth 100000 in
theorem Bld_String (L:Lays.n169 P ρ) (X:Builder.Extra P ρ) (B b:Nat) (p v:Value) (l:List UInt8) (w:World) (hbk:w.heap[b]?=some (.cells #[p,v] (ρ.t 72) (0,0))) (hown:w.ownsRow B (ρ.t 5) 1 v (Lib.byteCells l).length (Lib.byteCells l)) (h0:l≠[]) :
  Calls P (ρ.f 169) #[.pointer (some ⟨b,0,none⟩)] w fun e w'=>e = .returned (.string ⟨l.toArray⟩)/\KeepsBut b v w w':=by
 have hl0:l.length≠0:=by simpa using h0
 rw[Lib.byteCells_length]at hown
 obtain⟨g,cap,cur,rfl,hbg,hg,hnc,hcm,hcs,htake⟩ : ∃g cap cur,v = .slice (some ⟨g,0,none⟩) l.length cap/\B<=g/\w.heap[g]?=some (.cells cur (ρ.t 5) (0,0))/\l.length<=cap/\cap<=maxLen/\cur.size=cap*1/\cur.toList.take (l.length*1)=Lib.byteCells l:=by
  rcases hown.2 with⟨_,hz⟩|⟨g,cap,cur,hv,r⟩
  ·exact absurd hz hl0
  ·exact⟨g,cap,cur,hv,r⟩
 have c1:w.drew.cell? ⟨b,1,none⟩=some (.slice (some ⟨g,0,none⟩) l.length cap):=by
  have:w.drew.heap[b]?=some (.cells #[p,.slice (some ⟨g,0,none⟩) l.length cap] (ρ.t 72) (0,0)):=hbk
  rw[Lib.cell_of_heap this];rfl
 have hSD:(Builtin.unsafeSliceData_ #[(ρ.t 37)] (ρ.t 127) #[.slice (some ⟨g,0,none⟩) l.length cap]).run P w.drew = .ok (.pointer (some ⟨g,0,none⟩)) w.drew:=
  Lib.run_unsafeSliceData_row _ _ _ _ _ _ (by omega)
 have hUS:(Builtin.unsafeString_ #[(ρ.t 127),(ρ.t 3)] (ρ.t 9) #[.pointer (some ⟨g,0,none⟩),.int .i64 l.length]).run P w.drew = .ok (.string ⟨l.toArray⟩) (w.drew.freeze ⟨g,0,none⟩ l.length):=by
  refine Lib.run_unsafeString_row w.drew (ρ.t 127) (ρ.t 3) (ρ.t 9) (ρ.t 5) L.t127 X.cellsByte g cur.size (by have hg':w.drew.heap[g]?=some (.cells cur (ρ.t 5) (0,0)):=hg;simp[World.shape?,hg']) l h0 (by omega) (by unfold maxLen at hcm;omega) ?_
  intro j x hx
  have:=hown.cells (g:=g) rfl j (.int .u8 x.toNat) (by simp[Lib.byteCells,hx])
  exact this
 have mixed:=L.mixed
 have t72:=L.t72;have a72:=L.a72;have z72:=L.z72;have v72:=L.v72;have u72:=run_underlying L.t72
 have t70:=L.t70;have a70:=L.a70;have z70:=L.z70;have v70:=L.v70;have u70:=run_underlying L.t70
 have t37:=L.t37;have a37:=L.a37;have z37:=L.z37;have v37:=L.v37;have u37:=run_underlying L.t37
 have t127:=L.t127;have a127:=L.a127;have z127:=L.z127;have v127:=L.v127;have u127:=run_underlying L.t127
 have t3:=L.t3;have a3:=L.a3;have z3:=L.z3;have v3:=L.v3;have u3:=run_underlying L.t3
 have t9:=L.t9;have a9:=L.a9;have z9:=L.z9;have v9:=L.v9;have u9:=run_underlying L.t9
 have t5:=X.t5;have a5:=X.a5;have z5:=X.z5;have v5:=X.v5;have u5:=run_underlying X.t5
 have hkb:KeepsBut b (.slice (some ⟨g,0,none⟩) l.length cap) w (w.drew.freeze ⟨g,0,none⟩ l.length):=by
  have hb:=Lib.below_freeze (Below.drew (Below.refl 0 w)) (p:=⟨g,0,none⟩) (Nat.zero_le _) l.length
  refine⟨hb.os,hb.tape,hb.output,hb.size,fun k hk _ hkv => ?_⟩
  have hkg:k≠g:=fun e=>hkv (by rw[e];rfl)
  unfold World.freeze
  rw[if_neg hl0]
  show (w.heap.modify g _)[k]?=w.heap[k]?
  rw[Array.getElem?_modify,if_neg (fun e=>hkg e.symm)]
 go_enter L.f169,Body.n169_ntmps ρ
 go_wp2
 go_region_o
 all_goals (go_wp2;go_ret;exact⟨rfl,hkb⟩)
end Go.Proofs
namespace Go.Proofs.YtcfjiolldehegaaGreatDoor
open Go.Ev Go.RowKit
theorem lay_nil {a:Act}:lay [] a=a:=by
 obtain⟨t,d⟩:=a
 unfold lay
 simp
theorem mixed_ok:Tryz.prog.follows .mixedOrders=true:=by kernel_rfl
section
variable {F I:Nat->Prop} {Z:Zy} {st:St} {a:Act} {w0 w:World} {l k:Nat} {Q:Exit->Act->World->Prop}
theorem piece {ro:Option Nat} {c:Code} {R:Ex->St->Prop} (hG:GMet Z.gl) (hok:okCode 39 c=true) (hrd:rdCode c=true) (h:To w0 F I Z 39 st a w) (hw:WP CX c st R)
  (hQ : ∀s a' w',R .normal s->To w0 F I Z 39 s a' w'->Q .normal a' w') (hR : ∀e s,R e s->e = .normal):c.wpIn (fw ro) k Tryz.prog Q a w:=by
 obtain⟨n,e,s,he,hr⟩:=hw
 have he1:=hR e s hr
 subst he1
 have:=exec_in (Q:=Q) (callN_all (XL_ok hG) good_ok CX.mu n) mixed_ok [] ro k n hok hrd h he (fun a' w' hto=>by rw[lay_nil];exact hQ s a' w' hr hto)
 rwa [lay_nil]at this
theorem to_bool {b:Bool} {x:Nat} (h:To w0 F I Z 39 st a w) (hv:st.tmp x = .sv (.bool b)):a.eval (.tmp x) = .bool b:=by
 obtain⟨β,h⟩:=h
 have:=h.eval (.tmp x)
 rw[show st.eval (.tmp x) = .sv (.bool b) from hv]at this
 exact rep_bool this
theorem round_w {c5 c7 c8 c9:Code} {ops:Array Oper} {T:St->Prop} (hG:GMet Z.gl) (hok:okCode 39 (.seq c5 (.seq c7 c8))=true) (hrd:rdCode (.seq c5 (.seq c7 c8))=true)
  (hd:ops.toList.all (fun o=>match o.dst with|some d=>decide (d<39)|none=>true)=true) (hnd:ops.all (fun o=>notDefer o.op)=true) (hsz:ops.size=6)
  (h:To w0 F I Z 39 st a w)
  (hw:WP CX c5 st fun e s=>e = .normal/\WP CX c7 s fun e s=>e = .normal/\s.tmp 20 = .sv (.bool false)/\WP CX c8 s fun e s=>e = .normal/\s.tmp 31 = .sv (.bool false)/\WO CX false ops (ops.toList.take 5) s T)
  {K:Act->World->Prop} (hlast : ∀ (Q':Exit->Act->World->Prop),(∀a w,K a w->Q' .normal a w) -> ∀s a' w',T s->To w0 F I Z 39 s a' w'->wpOpsIn (fw (some l)) k Tryz.prog ops Q' (List.range' 5 1) a' w') (hK : ∀a w,K a w->Q .normal a w) :
  (Code.block 1 (.seq c5 (.block 2 (.seq c7 (.cond (.tmp 20) .skip (.seq c8 (.cond (.tmp 31) c9 (.region 6 ops false)))))))).wpIn (fw (some l)) k Tryz.prog Q a w:=by
 simp only[okCode,Bool.and_eq_true]at hok
 simp only[rdCode,Bool.and_eq_true]at hrd
 refine wpIn_block (wpIn_seq (piece hG hok.1 hrd.1 h hw (fun s a1 w1 hr h1 => ?_) (fun e s hr=>hr.1)))
 obtain⟨-,hw⟩:=hr
 refine wpIn_block (wpIn_seq (piece hG hok.2.1 hrd.2.1 h1 hw (fun s a1 w1 hr h1 => ?_) (fun e s hr=>hr.1)))
 obtain⟨-,e20,hw⟩:=hr
 refine wpIn_cond (t:=false) (to_bool h1 e20) ?_
 refine wpIn_seq (piece hG hok.2.2 hrd.2.2 h1 hw (fun s a1 w1 hr h1 => ?_) (fun e s hr=>hr.1))
 obtain⟨-,e31,hw⟩:=hr
 refine wpIn_cond (t:=false) (to_bool h1 e31) ?_
 obtain⟨n,s1,he,ht⟩:=hw
 refine wpIn_region ?_
 have hd' : ∀o∈ops.toList,∀d,o.dst=some d->d<39:=fun o ho d hod=>by
  have:=List.all_eq_true.1 hd o ho
  rw[hod]at this
  exact of_decide_eq_true this
 have hnd' : ∀o∈ops,notDefer o.op=true:=by
  rw[Array.all_eq_true']at hnd
  exact hnd
 rw[List.range_eq_range']
 have key:=pre_in (Q:=Exit.inBlock 2 (Exit.inBlock 1 Q)) (D:=[]) (ro:=some l) (n:=k) (callN_all (XL_ok hG) good_ok CX.mu n) (mu:=CX.mu) hd' hnd' (m:=5) (k:=0) he (by omega) h1 (fun a' w' hto=>by
  rw[lay_nil,hsz]
  exact hlast _ (fun a w ha=>hK a w ha) s1 a' w' ht hto)
 rwa [lay_nil]at key
theorem round_n {c5 c7 c:Code} (hG:GMet Z.gl) (hok:okCode 39 (.seq c5 c7)=true) (hrd:rdCode (.seq c5 c7)=true) (h:To w0 F I Z 39 st a w) {T:St->Prop}
  (hw:WP CX c5 st fun e s=>e = .normal/\WP CX c7 s fun e s=>e = .normal/\s.tmp 20 = .sv (.bool true)/\T s)
  (hK : ∀s a w,T s->To w0 F I Z 39 s a w->Q .normal a w) :
  (Code.block 1 (.seq c5 (.block 2 (.seq c7 (.cond (.tmp 20) .skip c))))).wpIn (fw (some l)) k Tryz.prog Q a w:=by
 simp only[okCode,Bool.and_eq_true]at hok
 simp only[rdCode,Bool.and_eq_true]at hrd
 refine wpIn_block (wpIn_seq (piece hG hok.1 hrd.1 h hw (fun s a1 w1 hr h1 => ?_) (fun e s hr=>hr.1)))
 obtain⟨-,hw⟩:=hr
 refine wpIn_block (wpIn_seq (piece hG hok.2 hrd.2 h1 hw (fun s a1 w1 hr h1 => ?_) (fun e s hr=>hr.1)))
 obtain⟨-,e20,ht⟩:=hr
 refine wpIn_cond (t:=true) (to_bool h1 e20) ?_
 exact wpIn_skip (hK s a1 w1 ht h1)
end
end Go.Proofs.YtcfjiolldehegaaGreatDoor
namespace Go.Proofs.YtcfjiolldehegaaGreatDoor
open Go.Ev Go.RowKit
theorem owns_same {w w':World} {base n size:Nat} {e:TypeId} {v:Value} {xs:List Value} (h:w.ownsRow base e size v n xs) (hs : ∀j,v.ownBlock=some j->w'.heap[j]?=w.heap[j]?):w'.ownsRow base e size v n xs:=by
 refine⟨h.1,?_⟩
 rcases h.2 with h2|⟨g,cap,cur,rfl,hbg,hg,hr⟩
 ·exact .inl h2
 ·exact .inr ⟨g,cap,cur,rfl,hbg,(hs g rfl).trans hg,hr⟩
theorem owns_lt {w:World} {base n size:Nat} {e:TypeId} {v:Value} {xs:List Value} (h:w.ownsRow base e size v n xs) {j:Nat} (hj:v.ownBlock=some j):j<w.heap.size/\base<=j:=by
 rcases h.2 with⟨rfl,_⟩|⟨g,cap,cur,rfl,hbg,hg,hr⟩
 ·cases hj
 ·cases hj
  exact⟨(Array.getElem?_eq_some_iff.1 hg).1,hbg⟩
structure RunS (bb:Nat) (st:St) (es:List Ent):Prop where
 box:st.hob 2000003 1=some [.ptr 2000007 1 0]
 sess:SessR st 2000007 1 es 6
 up3:st.up 3 = .ptr 2000003 1 0
 up4:st.up 4 = .sv (.con (.pointer (some ⟨bb,0,none⟩)))
 gen3:1<st.gen 2000003
theorem RunS.same {bb:Nat} {st s:St} {es:List Ent} (h:RunS bb st es) (h1:s.hob=st.hob) (h2:s.obj=st.obj) (h3:s.gen=st.gen) (h4:s.up=st.up):RunS bb s es:=
 ⟨by rw[h1];exact h.box,h.sess.of (by rw[h1]) (fun _=>by rw[h2]) (by rw[h3];exact Nat.le_refl _),by rw[h4];exact h.up3,by rw[h4];exact h.up4,by rw[h3];exact h.gen3⟩
theorem cln_keep {st:St} {v:TV} {d g:Nat} (h:v.id=some (d,g)) (ho:(st.obj d g).isSome=true):v.cln st=v:=by
 unfold TV.cln
 rw[h]
 dsimp only
 rw[if_pos ho]
theorem RunS.mk' {bb:Nat} {st:St} {es:List Ent} (hbox:st.hob 2000003 1=some [.ptr 2000007 1 0]) (hsess:SessR st 2000007 1 es 6) (hgen:1<st.gen 2000003) {tm tu:Nat->TV} (hob : ∀d g ts,st.hob d g=some ts->st.obj d g=some []) (h3:tu 3 = .ptr 2000003 1 0) (h4:tu 4 = .sv (.con (.pointer (some ⟨bb,0,none⟩)))):RunS bb (st.with tm tu) es:=by
 have o3:=hob _ _ _ hbox
 have o7:st.obj 2000007 1=some []:=by
  rcases hsess.row with⟨_,e⟩|⟨g1,_,e,_⟩
  ·exact hob _ _ _ e
  ·exact hob _ _ _ e
 refine⟨?_,⟨hsess.ob,?_⟩,?_,?_,hgen⟩
 ·show Option.map (fun ts=>ts.map (·.cln st)) (st.hob 2000003 1)=_
  rw[hbox]
  show some [TV.cln st (.ptr 2000007 1 0)]=_
  rw[cln_keep (d:=2000007) (g:=1) rfl (by rw[o7];rfl)]
 ·rcases hsess.row with⟨e0,e⟩|⟨g1,hg,e,ho⟩
  ·refine .inl ⟨e0,?_⟩
   show Option.map (fun ts=>ts.map (·.cln st)) (st.hob 2000007 1)=_
   rw[e]
   rfl
  ·refine .inr ⟨g1,hg,?_,ho⟩
   show Option.map (fun ts=>ts.map (·.cln st)) (st.hob 2000007 1)=_
   rw[e]
   show some [TV.cln st (.ref 25 g1 2 0 es.length),_]=_
   rw[cln_keep (d:=25) (g:=g1) rfl (by rw[ho];rfl)]
   rfl
 ·show (tu 3).cln st=_
  rw[h3]
  exact cln_keep (d:=2000003) (g:=1) rfl (by rw[o3];rfl)
 ·show (tu 4).cln st=_
  rw[h4]
  rfl
theorem RunS.with {bb:Nat} {st:St} {es:List Ent} (h:RunS bb st es) {tm tu:Nat->TV} (hob : ∀d g ts,st.hob d g=some ts->st.obj d g=some []) (h3:tu 3=st.up 3) (h4:tu 4=st.up 4):RunS bb (st.with tm tu) es:=
 RunS.mk' h.box h.sess h.gen3 hob (h3.trans h.up3) (h4.trans h.up4)
def ForB (bb:Nat) (v:Value) (j:Nat):Prop:=(bb<=j/\j<=bb+5)\/v.ownBlock=some j
def recB (T0:Array Value) (fn bb:Nat) (assign body:Code) (s:LoopState):Loop:={ state:=s,pending:=none,fn,tmps:=T0,params := #[11],assign,body,defers:=bb+4 }
structure Side (w0:World) (T0:Array Value) (fn bb:Nat) (assign body:Code) (s:LoopState) (p v:Value) (out:List UInt8) (W:World):Prop where
 base:Below w0.heap.size w0 W
 rc:W.heap[bb+5]?=some (.loop (recB T0 fn bb assign body s))
 dfr:W.heap[bb+4]?=some (.deferred (some []))
 bld:W.heap[bb]?=some (.cells #[p,v] 32 (0,0))
 own:W.ownsRow w0.heap.size 5 1 v (Lib.byteCells out).length (Lib.byteCells out)
section
variable {G:List (Nat×Value)} {w0 W W':World} {T0:Array Value} {fn bb:Nat} {assign body:Code} {s s':LoopState} {p v:Value} {out:List UInt8}
theorem Side.same (h:Side w0 T0 fn bb assign body s p v out W) (hb:Below w0.heap.size W W') (hs : ∀j,ForB bb v j->W'.heap[j]?=W.heap[j]?):Side w0 T0 fn bb assign body s p v out W' :=
 ⟨h.base.trans hb,(hs _ (.inl ⟨by omega,by omega⟩)).trans h.rc,(hs _ (.inl ⟨by omega,by omega⟩)).trans h.dfr,(hs _ (.inl ⟨by omega,by omega⟩)).trans h.bld,owns_same h.own fun j hj=>hs j (.inr hj)⟩
theorem Side.turn (h:Side w0 T0 fn bb assign body s p v out W) (hle:w0.heap.size<=bb) (hv : ∀j,v.ownBlock=some j->bb+6<=j):Side w0 T0 fn bb assign body s' p v out (W.putObj (bb+5) (.loop (recB T0 fn bb assign body s'))):=by
 have hlt:bb+5<W.heap.size:=(Array.getElem?_eq_some_iff.1 h.rc).1
 refine⟨h.base.trans ((Below.refl _ W).grown (grownBy_putObj' W _ _) (by omega) (fun k e=>by cases e;omega)),World.putObj_heap_same hlt,(World.putObj_heap_other (by omega)).trans h.dfr,(World.putObj_heap_other (by omega)).trans h.bld,owns_same h.own fun j hj=>World.putObj_heap_other ?_⟩
 have:=hv j hj
 omega
structure RunJ (G:List (Nat×Value)) (oF:Nat->List UInt8) (eF:Nat->List Ent) (w0:World) (T0:Array Value) (fn bb:Nat) (assign body:Code) (k:Nat) (W:World):Prop where
 le:w0.heap.size<=bb
 live : ∃p v st,(p = .pointer none\/p = .pointer (some ⟨bb,0,none⟩))/\(∀j,v.ownBlock=some j->bb+6<=j)/\Side w0 T0 fn bb assign body .ready p v (oF k) W/\RunS bb st (eF k)/\Live G (ForB bb v) w0.heap.size 39 (fun t=>T0.getD t undef) st ⟨T0,[]⟩ W
theorem far {F I:Nat->Prop} {Z:Zy} {N:Nat} {β:Nat->Nat->Nat} {st:St} {a:Act} {w1 w:World} (h:Rel w1 F I Z N β st a w) (hold:Z.old) {j:Nat} (hj:F j):w.heap[j]?=w1.heap[j]?:=h.ext.block j (h.old j hj) fun hi=>(h.imps j hi).2 hold hj
theorem far_below {F I:Nat->Prop} {Z:Zy} {N L:Nat} {β:Nat->Nat->Nat} {st:St} {a:Act} {w1 w:World} (h:Rel w1 F I Z N β st a w) (hI : ∀k,I k->L<=k) (hL:L<=w1.heap.size):Below L w1 w:=
 ⟨h.ext.os,h.ext.tape,h.ext.output,h.ext.size,fun b hb=>h.ext.block b (by omega) fun hi=>by have:=hI b hi;omega⟩
section
variable {G:List (Nat×Value)} {oF:Nat->List UInt8} {eF:Nat->List Ent} {w0 W:World} {T0:Array Value} {fn bb k:Nat} {body:Code} {ty4:TypeId} {pos4:String} {af4:Array Edge}
theorem ext_T {T0:Array Value} {t d:Nat} {x:Value} (hd:d<T0.size):(T0.setIfInBounds d x).getD t undef=if t=d then x else T0.getD t undef:=by
 rw[Array.getD_eq_getD_getElem?,Array.getElem?_setIfInBounds]
 split
 ·rename_i h
  subst h
  rw[if_pos rfl]
  simp[hd]
 ·rename_i h
  rw[if_neg fun e=>h e.symm,Array.getD_eq_getD_getElem?]
theorem round_in {Q:Ending->World->Prop} {x:ByteArray} (hG:GMet G) (hj:RunJ G oF eF w0 T0 fn bb (.region 4 #[⟨some 5,.assign (.tmp 11),ty4,pos4,af4,none⟩] false) body k W)
  (hbody : ∀p v st a w z β,(p = .pointer none\/p = .pointer (some ⟨bb,0,none⟩))->(∀j,v.ownBlock=some j->bb+6<=j)->Side w0 T0 fn bb (.region 4 #[⟨some 5,.assign (.tmp 11),ty4,pos4,af4,none⟩] false) body .busy p v (oF k) w->RunS bb st (eF k) ->
   st.tmp 3 = .ptr 2000003 1 0->st.tmp 4 = .sv (.con (.pointer (some ⟨bb,0,none⟩)))->st.tmp 5 = .sv (.str x)->(∀j,bb<=j->j<=bb+3->w.heap[j]?=W.heap[j]?)->Rel w (ForB bb v) (ownB β st) ⟨z,fun t=>T0.getD t undef,True,G⟩ 39 β st a w->(∀k,ownB β st k->w0.heap.size<=k) ->
   body.wpIn (fw (some (bb+5))) 3 Tryz.prog (roundPost Tryz.prog (bb+5) Q) a w) :
  RoundIn Fence.wide 3 Tryz.prog (bb+5) fn ((#[11].zip #[.string x]).foldl (fun tmps (t,a)=>tmps.setIfInBounds t a) T0) (.region 4 #[⟨some 5,.assign (.tmp 11),ty4,pos4,af4,none⟩] false) body W Q:=by
 refine roundIn_of_wpIn trivial ?_
 rw[show ((#[11].zip #[Value.string x]).foldl (fun tmps (t,a)=>tmps.setIfInBounds t a) T0)=T0.setIfInBounds 11 (.string x) by simp]
 obtain⟨hle,p,v,st,hp,hv6,hs,hr,z,β,hrel,hL⟩:=hj
 have hsz:T0.size=39:=hrel.size
 have hob : ∀d g ts,st.hob d g=some ts->st.obj d g=some []:=fun d g ts h=>(hrel.hobs d g ts h).2.1
 obtain⟨z1,β1,hrel1,hL1⟩:=live_again (C:=fun _=>False) (F':=ForB bb v) (w':=W) (y:=fun t=>T0.getD t undef) (T:=T0.setIfInBounds 11 (.string x)) (tm:=fun t=>if t=11 then .sv (.str x) else st.up t) (tu:=st.up) hrel hs.base.size hL trivial
  (fun _ _ _ _ h _=>h) (fun _ h=>h.elim) (Nat.le_refl _) (fun j hj=>⟨hrel.old j hj,fun _=>hj⟩) (by simp[hsz]) (fun t=>by
   rw[ext_T (by omega)]
   by_cases h:t=11
   ·rw[if_pos h,if_pos h]
    exact .str x
   ·rw[if_neg h,if_neg h]
    exact hrel.ups t) hrel.ups
 have hr1:RunS bb (st.with (fun t=>if t=11 then .sv (.str x) else st.up t) st.up) (eF k):=hr.with hob rfl rfl
 have t11:(st.with (fun t=>if t=11 then .sv (.str x) else st.up t) st.up).tmp 11 = .sv (.str x):=rfl
 have t3:(st.with (fun t=>if t=11 then .sv (.str x) else st.up t) st.up).tmp 3 = .ptr 2000003 1 0:=hr1.up3
 have t4:(st.with (fun t=>if t=11 then .sv (.str x) else st.up t) st.up).tmp 4 = .sv (.con (.pointer (some ⟨bb,0,none⟩))):=hr1.up4
 generalize st.with (fun t=>if t=11 then .sv (.str x) else st.up t) st.up=st1 at *
 have hw:WP CX (.region 4 #[⟨some 5,.assign (.tmp 11),ty4,pos4,af4,none⟩] false) st1 (fun e s=>e = .normal/\s=st1.put 5 (.sv (.str x))):=by
  repeat (first|simp only[go_sem,t11]|simp (disch:=first|exact oa|fail) only[AX,t11]|refine wki ?_|refine wqn ?_|refine vpx [] ?_)
 refine piece (ro:=some (bb+5)) (k:=3) hG (by simp[okCode]) (by simp[rdCode,notDefer]) ⟨β1,hrel1⟩ hw (fun s a' w' hq hto => ?_) (fun e s h=>h.1)
 obtain⟨-,rfl⟩:=hq
 obtain⟨β2,hrel2⟩:=hto
 have hs2:Side w0 T0 fn bb (.region 4 #[⟨some 5,.assign (.tmp 11),ty4,pos4,af4,none⟩] false) body .ready p v (oF k) w':=hs.same (far_below hrel2 hL1 hs.base.size) fun j hj=>far hrel2 trivial hj
 refine⟨_,run_beginRound hs2.rc rfl,?_⟩
 have hr2:RunS bb (st1.put 5 (.sv (.str x))) (eF k):=hr1.same rfl rfl rfl rfl
 have hdf:=hrel2.defers
 obtain⟨T',D'⟩:=a'
 cases hdf
 obtain⟨z3,β3,hrel3,hL3⟩:=live_again (C:=fun _=>False) (F':=ForB bb v) (w':=w'.putObj (bb+5) (.loop (recB T0 fn bb (.region 4 #[⟨some 5,.assign (.tmp 11),ty4,pos4,af4,none⟩] false) body .busy))) (y:=fun t=>T0.getD t undef) (T:=T') (tm:=(st1.put 5 (.sv (.str x))).tmp) (tu:=(st1.put 5 (.sv (.str x))).up) hrel2 hs.base.size hL1 trivial
  (fun j cs ty fz h _=>by
   rw[World.putObj_heap_other]
   ·exact h
   ·rintro rfl
    rw[hs2.rc]at h
    cases h) (fun _ h=>h.elim) (by simp) (fun j hj=>⟨by rw[World.putObj_size];exact Nat.lt_of_lt_of_le (hrel2.old j hj) hrel2.ext.size,fun _=>hj⟩) hrel2.size hrel2.tmps hrel2.ups
 have hob2 : ∀d g ts,(st1.put 5 (.sv (.str x))).hob d g=some ts->(st1.put 5 (.sv (.str x))).obj d g=some []:=fun d g ts h=>(hrel2.hobs d g ts h).2.1
 have hr3:=hr2.with (tm:=(st1.put 5 (.sv (.str x))).tmp) (tu:=(st1.put 5 (.sv (.str x))).up) hob2 rfl rfl
 refine hbody p v _ ⟨T',[]⟩ _ z3 β3 hp hv6 (hs2.turn hle hv6) hr3 ?_ ?_ rfl (fun j h1 h2=>(World.putObj_heap_other (by omega)).trans (far hrel2 trivial (.inl ⟨h1,by omega⟩))) hrel3 hL3
 ·show (st1.tmp 3).cln _=_
  rw[t3]
  exact cln_keep (d:=2000003) (g:=1) rfl (by rw[hob2 _ _ _ hr2.box];rfl)
 ·show (st1.tmp 4).cln _=_
  rw[t4]
  rfl
end
end
end Go.Proofs.YtcfjiolldehegaaGreatDoor
namespace Go.Proofs.YtcfjiolldehegaaGreatDoor
open Go.Ev Go.RowKit
section
variable {G:List (Nat×Value)} {oF:Nat->List UInt8} {eF:Nat->List Ent} {w0 W:World} {T0:Array Value} {fn bb k:Nat} {ty4 ty5:TypeId} {pos4 pos5:String} {af4 af5:Array Edge} {c5 c7 c8 c9:Code} {ops:Array Oper} {tys:Array TypeId} {x:ByteArray} {piece:List UInt8}
theorem done {assign body:Code} {p p' v v':Value} {s:St} {a a4:Act} {w w' w4:World} {z:Nat->Nat} {β:Nat->Nat->Nat} {I:Nat->Prop} (hle:w0.heap.size<=bb) (hv6 : ∀j,v.ownBlock=some j->bb+6<=j)
  (hs:Side w0 T0 fn bb assign body .busy p v (oF k) w') (hr:RunS bb s (eF (k+1))) (hrel:Rel w (ForB bb v) I ⟨z,fun t=>T0.getD t undef,True,G⟩ 39 β s a w') (hL : ∀k,I k->w0.heap.size<=k) (hsz:w0.heap.size<=w.heap.size)
  (hT:T0.size=39) (hout:oF (k+1)=oF k++piece) (hsame : ∀j,bb<=j->j<=bb+3->w.heap[j]?=W.heap[j]?)
  (hp':p' = .pointer none\/p' = .pointer (some ⟨bb,0,none⟩)) (hb4:w4.heap[bb]?=some (.cells #[p',v'] 32 (0,0))) (hown4:w4.ownsRow w0.heap.size 5 1 v' (Lib.byteCells (oF k)++Lib.strCells (bs piece)).length (Lib.byteCells (oF k)++Lib.strCells (bs piece)))
  (hwhere:v'.ownBlock=v.ownBlock \/ ∀k,v'.ownBlock=some k->w'.heap.size<=k) (hkeep:KeepsBut bb v w' w4) :
  roundPost Tryz.prog (bb+5) (fun e W'=>e = .returned (.bool true)/\RunJ G oF eF w0 T0 fn bb assign body (k+1) W' /\ ∀j,bb+1<=j->j<=bb+3->W'.heap[j]?=W.heap[j]?) .normal a4 w4:=by
 have hlt:bb+5<w'.heap.size:=(Array.getElem?_eq_some_iff.1 hs.rc).1
 have hsz4:=hkeep.size
 have hn : ∀j,bb<j->j<=bb+5->w4.heap[j]?=w'.heap[j]?:=fun j h1 h2=>hkeep.same j (by omega) (by omega) fun e=>by
  have:=hv6 _ e
  omega
 have hv6' : ∀j,v'.ownBlock=some j->bb+6<=j:=fun j hj=>by
  rcases hwhere with e|e
  ·exact hv6 j (e▸hj)
  ·have:=e j hj
   omega
 have hbel:Below w0.heap.size w' w4:=⟨hkeep.os,hkeep.tape,hkeep.output,hkeep.size,fun b hb=>hkeep.same b (by have:=hs.base.size;omega) (by omega) fun e=>by
  have:=hv6 _ e
  omega⟩
 have hs4:Side w0 T0 fn bb assign body .busy p' v' (oF (k+1)) w4:=by
  refine⟨hs.base.trans hbel,(hn _ (by omega) (by omega)).trans hs.rc,(hn _ (by omega) (by omega)).trans hs.dfr,hb4,?_⟩
  rw[hout,Lib.byteCells_append]
  exact hown4
 refine⟨_,_,run_endRound none hs4.rc,rfl,⟨hle,p',v',s.with s.up s.up,hp',hv6',hs4.turn hle hv6',hr.with (fun d g ts h=>(hrel.hobs d g ts h).2.1) rfl rfl,?_⟩,fun j h1 h2 => ?_⟩
 ·refine live_again (C:=fun j=>j=bb\/v.ownBlock=some j) hrel hsz hL trivial (fun j cs ty fz h hc => ?_) (fun j hj => ?_) (by rw[World.putObj_size];exact hsz4) (fun j hj=>⟨?_,fun hlt2 => ?_⟩) hT hrel.ups hrel.ups
  ·rw[World.putObj_heap_other,hkeep.same j (Array.getElem?_eq_some_iff.1 h).1 (fun e=>hc (.inl e)) (fun e=>hc (.inr e))]
   ·exact h
   ·rintro rfl
    rw[hs.rc]at h
    cases h
  ·rcases hj with rfl|hj
   ·exact .inl ⟨by omega,by omega⟩
   ·exact .inr hj
  ·rw[World.putObj_size]
   rcases hj with hj|hj
   ·omega
   ·exact(owns_lt hs4.own hj).1
  ·rcases hj with hj|hj
   ·exact .inl hj
   ·rcases hwhere with e|e
    ·exact .inr (e▸hj)
    ·have:=e j hj
     omega
 ·rw[World.putObj_heap_other (by omega),hn j (by omega) (by omega),far hrel trivial (.inl ⟨by omega,by omega⟩)]
  exact hsame j (by omega) h2
theorem yield_w (hG:GMet G) (hok:okCode 39 (.seq c5 (.seq c7 c8))=true) (hrd:rdCode (.seq c5 (.seq c7 c8))=true)
  (hd:ops.toList.all (fun o=>match o.dst with|some d=>decide (d<39)|none=>true)=true) (hnd:ops.all (fun o=>notDefer o.op)=true) (hsz:ops.size=6)
  (ho:ops[5]?=some ⟨some 19,.call { callee := .value (.func 9),args := #[.tmp 4,.tmp 18],argTypes:=tys },ty5,pos5,af5,none⟩)
  (hw : ∀st,RunS bb st (eF k)->st.tmp 3 = .ptr 2000003 1 0->st.tmp 4 = .sv (.con (.pointer (some ⟨bb,0,none⟩)))->st.tmp 5 = .sv (.str x) ->
   WP CX c5 st fun e s=>e = .normal/\WP CX c7 s fun e s=>e = .normal/\s.tmp 20 = .sv (.bool false)/\WP CX c8 s fun e s=>e = .normal/\s.tmp 31 = .sv (.bool false) /\
    WO CX false ops (ops.toList.take 5) s fun s=>RunS bb s (eF (k+1))/\s.tmp 4 = .sv (.con (.pointer (some ⟨bb,0,none⟩)))/\s.tmp 18 = .sv (.str (bs piece)))
  (hout:oF (k+1)=oF k++piece) (hlen:(oF k).length<=1000000000) (hlen2:piece.length<=1000000000)
  (hj:RunJ G oF eF w0 T0 fn bb (.region 4 #[⟨some 5,.assign (.tmp 11),ty4,pos4,af4,none⟩] false) (.block 1 (.seq c5 (.block 2 (.seq c7 (.cond (.tmp 20) .skip (.seq c8 (.cond (.tmp 31) c9 (.region 6 ops false)))))))) k W) :
  YieldAt Fence.wide 3 Tryz.prog (bb+5) #[.string x] W fun e W'=>e = .returned (.bool true)/\RunJ G oF eF w0 T0 fn bb (.region 4 #[⟨some 5,.assign (.tmp 11),ty4,pos4,af4,none⟩] false) (.block 1 (.seq c5 (.block 2 (.seq c7 (.cond (.tmp 20) .skip (.seq c8 (.cond (.tmp 31) c9 (.region 6 ops false)))))))) (k+1) W' /\ ∀j,bb+1<=j->j<=bb+3->W'.heap[j]?=W.heap[j]?:=by
 obtain⟨hle,p0,v0,st0,-,-,hs0,-,z0,β0,hrel0,-⟩:=id hj
 have hT:T0.size=39:=hrel0.size
 refine⟨fn,_,_,_,run_yield (args := #[.string x]) hs0.rc rfl,round_in hG hj ?_⟩
 clear hs0 hrel0
 generalize hA:(Code.region 4 #[⟨some 5,.assign (.tmp 11),ty4,pos4,af4,none⟩] false)=assign at *
 generalize hB:(Code.block 1 (.seq c5 (.block 2 (.seq c7 (.cond (.tmp 20) .skip (.seq c8 (.cond (.tmp 31) c9 (.region 6 ops false))))))))=body at *
 intro p v st a w z β hp hv6 hs hr t3 t4 t5 hsame hrel hL
 subst hB
 refine round_w (K:=fun a w=>roundPost Tryz.prog (bb+5) _ .normal a w) hG hok hrd hd hnd hsz ⟨β,hrel⟩ (hw st hr t3 t4 t5) ?_ (fun _ _ h=>h)
 generalize hB:(Code.block 1 (.seq c5 (.block 2 (.seq c7 (.cond (.tmp 20) .skip (.seq c8 (.cond (.tmp 31) c9 (.region 6 ops false))))))))=body at *
 intro Q' hQ' s a' w' ht hto
 obtain⟨hr',u4,u18⟩:=ht
 obtain⟨β',hrel'⟩:=hto
 rw[show List.range' 5 1=[5] from rfl,wpOpsIn_cons]
 have hs':Side w0 T0 fn bb assign body .busy p v (oF k) w':=hs.same (far_below hrel' hL hs.base.size) fun j hj=>far hrel' trivial hj
 have e4:a'.eval (.tmp 4) = .pointer (some ⟨bb,0,none⟩):=by
  have:=hrel'.eval (.tmp 4)
  rw[show s.eval (.tmp 4)=_ from u4]at this
  generalize a'.eval (.tmp 4)=y at this
  cases this
  rfl
 have e18:a'.eval (.tmp 18) = .string (bs piece):=by
  have:=hrel'.eval (.tmp 18)
  rw[show s.eval (.tmp 18)=_ from u18]at this
  exact rep_str this
 have hlt:bb+5<w'.heap.size:=(Array.getElem?_eq_some_iff.1 hs'.rc).1
 have hcall:=Bld_WriteString { Tryz.lays156 with } Tryz.Builder_Extra_156 w0.heap.size bb p v (Lib.byteCells (oF k)) (bs piece) w' hp hle hs'.bld hs'.own (fun e=>by have:=hv6 _ e;omega) (by rw[Lib.byteCells_length,bs_size];omega) hs'.base.size
 have key:=callI_in (D:=[]) (ro:=some (bb+5)) (n:=3) (Q:=Q') (K:=wpOpsIn (fw (some (bb+5))) 3 Tryz.prog ops Q' []) (a:=a') (w:=w') ho rfl (.inl ⟨enters_of (fn:=Tryz.f9) (c:=(Tryz.f9).body.get!) (by kernel_rfl) (by kernel_rfl) (by kernel_rfl),by
  rw[show (#[Operand.tmp 4,Operand.tmp 18].map a'.eval ++ #[]) = #[.pointer (some ⟨bb,0,none⟩),.string (bs piece)] by simp[e4,e18]]
  refine Calls.mono hcall ?_
  rintro e w4 ⟨rfl,v',hb4,hown4,hne4,hwhere,hkeep⟩
  refine⟨_,rfl,hQ' _ _ ?_⟩
  exact done hle hv6 hs' hr' hrel' hL hs.base.size hT hout hsame (.inr rfl) hb4 hown4 hwhere hkeep⟩)
 rwa [lay_nil]at key
theorem yield_n {c:Code} (hG:GMet G) (hok:okCode 39 (.seq c5 c7)=true) (hrd:rdCode (.seq c5 c7)=true)
  (hw : ∀st,RunS bb st (eF k)->st.tmp 3 = .ptr 2000003 1 0->st.tmp 4 = .sv (.con (.pointer (some ⟨bb,0,none⟩)))->st.tmp 5 = .sv (.str x) ->
   WP CX c5 st fun e s=>e = .normal/\WP CX c7 s fun e s=>e = .normal/\s.tmp 20 = .sv (.bool true)/\RunS bb s (eF (k+1)))
  (hout:oF (k+1)=oF k)
  (hj:RunJ G oF eF w0 T0 fn bb (.region 4 #[⟨some 5,.assign (.tmp 11),ty4,pos4,af4,none⟩] false) (.block 1 (.seq c5 (.block 2 (.seq c7 (.cond (.tmp 20) .skip c))))) k W) :
  YieldAt Fence.wide 3 Tryz.prog (bb+5) #[.string x] W fun e W'=>e = .returned (.bool true)/\RunJ G oF eF w0 T0 fn bb (.region 4 #[⟨some 5,.assign (.tmp 11),ty4,pos4,af4,none⟩] false) (.block 1 (.seq c5 (.block 2 (.seq c7 (.cond (.tmp 20) .skip c))))) (k+1) W' /\ ∀j,bb+1<=j->j<=bb+3->W'.heap[j]?=W.heap[j]?:=by
 obtain⟨hle,p0,v0,st0,-,-,hs0,-,z0,β0,hrel0,-⟩:=id hj
 have hT:T0.size=39:=hrel0.size
 refine⟨fn,_,_,_,run_yield (args := #[.string x]) hs0.rc rfl,round_in hG hj ?_⟩
 clear hs0 hrel0
 generalize hA:(Code.region 4 #[⟨some 5,.assign (.tmp 11),ty4,pos4,af4,none⟩] false)=assign at *
 generalize hB:(Code.block 1 (.seq c5 (.block 2 (.seq c7 (.cond (.tmp 20) .skip c)))))=body at *
 intro p v st a w z β hp hv6 hs hr t3 t4 t5 hsame hrel hL
 subst hB
 refine round_n hG hok hrd ⟨β,hrel⟩ (hw st hr t3 t4 t5) ?_
 generalize hB:(Code.block 1 (.seq c5 (.block 2 (.seq c7 (.cond (.tmp 20) .skip c)))))=body at *
 intro s a' w' hr' hto
 obtain⟨β',hrel'⟩:=hto
 have hs':Side w0 T0 fn bb assign body .busy p v (oF k) w':=hs.same (far_below hrel' hL hs.base.size) fun j hj=>far hrel' trivial hj
 refine done (piece:=[]) hle hv6 hs' hr' hrel' hL hs.base.size hT (by rw[hout,List.append_nil]) hsame hp hs'.bld ?_ (.inl rfl) ⟨rfl,rfl,rfl,Nat.le_refl _,fun _ _ _ _=>rfl⟩
 rw[show Lib.strCells (bs [])=[] from rfl,List.append_nil]
 exact hs'.own
end
end Go.Proofs.YtcfjiolldehegaaGreatDoor
namespace Go.Proofs.YtcfjiolldehegaaGreatDoor
open Go.Ev Go.RowKit
section
variable {P:Program} {D:List Deferred} {ro:Option Nat} {n:Nat} {Q:Exit->Act->World->Prop} {K:Act->World->Prop} {ops:Array Oper} {a:Act} {w w1:World}
theorem hand_in {i:Nat} {o:Oper} {v:Value} (ho:ops[i]?=some o) (hg:o.guard=none) (hd:notDefer o.op=true) (he:(execOp a.eval o).run P w = .ok (.value v) w1) (k:K (lay D (a.put o.dst v)) w1):wpOpIn (fw ro) n P ops Q i K (lay D a) w:=by
 unfold wpOpIn
 rw[ho]
 dsimp only
 rw[if_pos (by simp[Region.wanted,hg])]
 refine op_in (Q:=fun _ _ _=>False) (K:=fun a w=>K (lay D a) w) hd (fun _ _ h=>h) (fun _ _ _ h=>h.elim) (fun _ _ h=>h) ?_
 unfold Oper.wp
 rw[he]
 exact k
theorem hand_skip {i:Nat} {o:Oper} (ho:ops[i]?=some o) (hg:o.guard=none) (hd:notDefer o.op=true) (hdst:o.dst=none) (he:(execOp a.eval o).run P w = .ok .skip w1) (k:K (lay D a) w1):wpOpIn (fw ro) n P ops Q i K (lay D a) w:=by
 unfold wpOpIn
 rw[ho]
 dsimp only
 rw[if_pos (by simp[Region.wanted,hg])]
 refine op_in (Q:=fun _ _ _=>False) (K:=fun a w=>K (lay D a) w) hd (fun _ _ h=>h) (fun _ _ _ h=>h.elim) (fun _ _ h=>h) ?_
 unfold Oper.wp
 rw[he]
 show K (lay D (a.put o.dst undef)) w1
 rw[hdst]
 exact k
end
theorem pre_wo {ro:Option Nat} {n m:Nat} {Q:Exit->Act->World->Prop} {ops:Array Oper} {F I:Nat->Prop} {Z:Zy} {st:St} {a:Act} {w0 w:World} {T:St->Prop} (hG:GMet Z.gl)
  (hd:ops.toList.all (fun o=>match o.dst with|some d=>decide (d<39)|none=>true)=true) (hnd:ops.all (fun o=>notDefer o.op)=true) (hle:m<=ops.size)
  (h:To w0 F I Z 39 st a w) (hw:WO CX false ops (ops.toList.take m) st T) (k : ∀s a' w',T s->To w0 F I Z 39 s a' w'->wpOpsIn (fw ro) n Tryz.prog ops Q (List.range' m (ops.size-m)) a' w'):wpOpsIn (fw ro) n Tryz.prog ops Q (List.range ops.size) a w:=by
 obtain⟨N,s1,he,ht⟩:=hw
 have hd' : ∀o∈ops.toList,∀d,o.dst=some d->d<39:=fun o ho d hod=>by
  have:=List.all_eq_true.1 hd o ho
  rw[hod]at this
  exact of_decide_eq_true this
 have hnd' : ∀o∈ops,notDefer o.op=true:=by
  rw[Array.all_eq_true']at hnd
  exact hnd
 rw[List.range_eq_range',<- lay_nil (a:=a)]
 refine pre_in (D:=[]) (callN_all (XL_ok hG) good_ok CX.mu N) (mu:=CX.mu) hd' hnd' (m:=m) (k:=0) he (by omega) h (fun a' w' hto => ?_)
 rw[lay_nil,Nat.zero_add]
 exact k s1 a' w' ht hto
theorem range_go {P:Program} {n:Nat} {g:Operand} {ps:Array Tmp} {assign body:Code} {Q:Exit->Act->World->Prop} {a:Act} {w:World} {gf:Nat} {lb:Array Value} (hg:a.eval g = .func (.func gf) #[] lb) (eg:Enters P gf)
  (h : ∀fn W1,W1=(w.alloc (.deferred (some []))).alloc (.loop { state := .ready,pending:=none,fn,tmps:=a.tmps,params:=ps,assign,body,defers:=w.heap.size }) ->
   CallsIn Fence.wide (n-1) P gf (#[.func (.yield (w.heap.size+1)) #[] #[]]++lb) W1 (rangePost Fence.wide n P (w.heap.size+1) Q { a with defers:=[{ target := .collected w.heap.size,args := #[] }]++a.defers })) :
  (Code.rangeFunc g ps assign body).wpIn Fence.wide n P Q a w:=by
 refine wpIn_rangeFunc ?_
 intro fn hfn
 rw[show Fence.wide.round=none from rfl]
 obtain⟨W1,hW1⟩ : ∃W1,W1=(w.alloc (.deferred (some []))).alloc (.loop { state := .ready,pending:=none,fn,tmps:=a.tmps,params:=ps,assign,body,defers:=w.heap.size }):=⟨_,rfl⟩
 refine⟨w.heap.size+1,[{ target := .collected w.heap.size,args := #[] }],W1,{ target := .fn (.func gf) lb,args := #[.func (.yield (w.heap.size+1)) #[] #[]] },W1,gf,#[.func (.yield (w.heap.size+1)) #[] #[]]++lb,W1,?_,?_,fun _ _=>trivial,?_,(fun h=>absurd h (by decide)),?_⟩
 ·rw[hW1]
  exact run_enterLoop_outer _ _ _ _ _
 ·simp only[resolve,hg]
  simp[go_sem]
 ·exact eg _ _
 ·exact h fn W1 hW1
theorem desk_info : ∃i,Tryz.prog.info? 28=some i/\i.zero=some (.agg #[.pointer none])/\i.size=1:=⟨(Tryz.prog.info? 28).get!,by kernel_rfl,by kernel_rfl,by kernel_rfl⟩
theorem bld_info : ∃i,Tryz.prog.info? 32=some i/\i.zero=some (.agg #[.pointer none,.slice none 0 0]):=⟨(Tryz.prog.info? 32).get!,by kernel_rfl,by kernel_rfl⟩
section
variable {ro:Option Nat} {n:Nat} {Q:Exit->Act->World->Prop} {ops:Array Oper} {F I:Nat->Prop} {Z:Zy} {β:Nat->Nat->Nat} {st:St} {a:Act} {w0 w:World} {d g:Nat} {ty2 ty3:TypeId} {p2 p3:String} {af2 af3:Array Edge}
theorem desk_box (hsz:ops.size=4) (ho2:ops[2]?=some ⟨some 3,.alloc 28,ty2,p2,af2,none⟩) (ho3:ops[3]?=some ⟨none,.store 28 (.tmp 3) (.tmp 8),ty3,p3,af3,none⟩) (h:Rel w0 F I Z 39 β st a w) (h8:st.tmp 8 = .pst d g) (hg:g<st.gen d)
  (k : ∀β' a' w',Rel w0 F I Z 39 β' (st.newH 3 [.ptr d g 0]) a' w'->Q .normal a' w'):wpOpsIn (fw ro) n Tryz.prog ops Q (List.range' 2 2) a w:=by
 obtain⟨i,hi,hz,hs⟩:=desk_info
 have e8:a.tmps.getD 8 undef = .agg #[.pointer (some ⟨β d g,0,none⟩)]:=by
  have:=h.tmps 8
  rw[h8]at this
  exact this
 have hT:a.tmps.size=39:=h.size
 rw[show List.range' 2 2=[2,3] from rfl,wpOpsIn_cons,<- lay_nil (a:=a)]
 refine hand_in (D:=[]) (w1:=w.alloc (.cells #[.pointer none] 28)) (v := .pointer (some ⟨w.heap.size,0,none⟩)) ho2 rfl rfl ?_ ?_
 ·simp[execOp,Instr.alloc,run_zero hi hz,newVar,newRow]
  rfl
 rw[wpOpsIn_cons]
 obtain⟨w2,hw2⟩ : ∃w2,w2=(w.alloc (.cells #[.pointer none] 28)).setRow w.heap.size #[.pointer (some ⟨β d g,0,none⟩)]:=⟨_,rfl⟩
 have hnew:(w.alloc (.cells #[.pointer none] 28)).heap[w.heap.size]?=some (.cells #[.pointer none] 28 (0,0)):=World.alloc_heap_new w _
 refine hand_skip (D:=[]) (w1:=w2) ho3 rfl rfl rfl ?_ ?_
 ·have e3:(a.put (some 3) (.pointer (some ⟨w.heap.size,0,none⟩))).eval (.tmp 3) = .pointer (some ⟨w.heap.size,0,none⟩):=by
   show (a.tmps.setIfInBounds 3 _).getD 3 undef=_
   rw[ext_T (by omega),if_pos rfl]
  have e8':(a.put (some 3) (.pointer (some ⟨w.heap.size,0,none⟩))).eval (.tmp 8) = .agg #[.pointer (some ⟨β d g,0,none⟩)]:=by
   show (a.tmps.setIfInBounds 3 _).getD 8 undef=_
   rw[ext_T (by omega),if_neg (by omega)]
   exact e8
  have hrun:=storeVar_run (P:=Tryz.prog) (w:=w.alloc (.cells #[.pointer none] 28)) hi (v := .agg #[.pointer (some ⟨β d g,0,none⟩)]) (off:=0) (by rw[hs];rfl) (fun u hu=>by simp[Value.cells]at hu;rw[hu];rfl) hnew (by simp[Value.cells])
  simp only[execOp,e3,e8',Instr.storeAt,Instr.sureAddr,Sem.run_bind,Sem.run_pure,Result.andThen_ok,hrun]
  rw[hw2]
  rfl
 show Q .normal _ _
 have he:Ext (fun _=>False) w w2:=by
  subst hw2
  refine⟨rfl,rfl,rfl,by simp,fun b hb _ => ?_,fun _ _ _ _ h=>h.elim⟩
  rw[setRow_other _ _ _ _ (by omega)]
  exact Below.heap_alloc _ _ _ hb
 have hr:=h.adoptH (d:=3) (ts:=[.ptr d g 0]) (us := #[.pointer (some ⟨β d g,0,none⟩)]) (ty:=28) he (by omega) (Nat.le_refl _) (by subst hw2;exact setRow_heap _ _ _ _ _ _ hnew) (fun i t hi=>by
  cases i with
  |zero=>cases hi;exact⟨.inr ⟨d,g,0,rfl,hg⟩,_,rfl,rfl,rfl⟩
  |succ i=>cases hi)
 rw[lay_nil]
 exact k _ _ _ hr
end
section
variable {G:List (Nat×Value)} {oF:Nat->List UInt8} {eF:Nat->List Ent} {w:World} {T5:Array Value} {fn bb k:Nat} {ty4 ty5:TypeId} {pos4 pos5:String} {af4 af5:Array Edge} {c5 c7 c8 c9:Code} {ops:Array Oper} {tys:Array TypeId} {assign body:Code}
theorem start_J (hO:oF 0=[]) (hE:eF 0=[]) {F0 I:Nat->Prop} {β3:Nat->Nat->Nat} {s3:St} {T3:Array Value} {w3 w5 W1:World} (hrel3:Rel w F0 I ⟨fun _=>0,fun _=>undef,False,G⟩ 39 β3 s3 ⟨T3,[]⟩ w3) (hI : ∀k,I k->w.heap.size<=k) (hbb:bb=w3.heap.size)
  (hbox:s3.hob 2000003 1=some [.ptr 2000007 1 0]) (hsess:SessR s3 2000007 1 [] 6) (hgen:1<s3.gen 2000003) (t3:s3.tmp 3 = .ptr 2000003 1 0)
  (hz5T:T5.size=39) (hT5 : ∀t,t≠4->t≠9->t≠10->T5.getD t undef=T3.getD t undef) (hT54:T5.getD 4 undef = .pointer (some ⟨bb,0,none⟩))
  (hz5:w5.heap.size=bb+4) (hold5 : ∀j,j<bb->w5.heap[j]?=w3.heap[j]?) (hbld5:w5.heap[bb]?=some (.cells #[.pointer none,.slice none 0 0] 32 (0,0))) (hbel5:Below w.heap.size w w5)
  (hW1:W1=(w5.alloc (.deferred (some []))).alloc (.loop { state := .ready,pending:=none,fn,tmps:=T5,params := #[11],assign,body,defers:=w5.heap.size })):RunJ G oF eF w T5 fn bb assign body 0 W1:=by
 have hle:w.heap.size<=bb:=by rw[hbb];exact hrel3.ext.size
 have hob3 : ∀d g ts,s3.hob d g=some ts->s3.obj d g=some []:=fun d g ts h=>(hrel3.hobs d g ts h).2.1
 have hWold : ∀j,j<bb+4->W1.heap[j]?=w5.heap[j]?:=fun j hj=>by
  rw[hW1,Below.heap_alloc _ _ _ (by rw[World.size_alloc];omega),Below.heap_alloc _ _ _ (by omega)]
 have hWz:W1.heap.size=bb+6:=by rw[hW1,World.size_alloc,World.size_alloc,hz5]
 have hdfr:W1.heap[bb+4]?=some (.deferred (some [])):=by
  rw[hW1,Below.heap_alloc _ _ _ (by rw[World.size_alloc];omega),<- hz5]
  exact World.alloc_heap_new _ _
 have hrc:W1.heap[bb+5]?=some (.loop (recB T5 fn bb assign body .ready)):=by
  have:=World.alloc_heap_new (w5.alloc (.deferred (some []))) (.loop { state := .ready,pending:=none,fn,tmps:=T5,params := #[11],assign,body,defers:=w5.heap.size })
  rw[<- hW1,World.size_alloc,hz5]at this
  exact this
 have hbel:Below w.heap.size w W1:=hbel5.trans (by
  rw[hW1]
  exact(((Below.refl _ w5).alloc (by omega) _).alloc (by rw[World.size_alloc];omega) _))
 refine⟨hle,.pointer none,.slice none 0 0,s3.with (fun t=>if t=4 then .sv (.con (.pointer (some ⟨bb,0,none⟩))) else if t=9 then .undef else if t=10 then .undef else s3.tmp t) (fun t=>if t=4 then .sv (.con (.pointer (some ⟨bb,0,none⟩))) else if t=9 then .undef else if t=10 then .undef else s3.tmp t),.inl rfl,(fun j h=>by cases h),⟨hbel,hrc,hdfr,(hWold _ (by omega)).trans hbld5,by rw[hO];exact World.ownsRow_nil _ _ _ _⟩,by rw[hE];exact RunS.mk' hbox hsess hgen hob3 t3 rfl,?_⟩
 have htt : ∀t,RepT β3 w3 (Mut F0 β3 s3) (T5.getD t undef) (if t=4 then .sv (.con (.pointer (some ⟨bb,0,none⟩))) else if t=9 then .undef else if t=10 then .undef else s3.tmp t):=by
  intro t
  by_cases h4:t=4
  ·subst h4
   rw[if_pos rfl,hT54]
   exact .con _ rfl
  rw[if_neg h4]
  by_cases h9:t=9
  ·rw[if_pos h9]
   trivial
  rw[if_neg h9]
  by_cases h10:t=10
  ·rw[if_pos h10]
   trivial
  rw[if_neg h10,hT5 t h4 h9 h10]
  exact hrel3.tmps t
 refine live_with (C:=fun _=>False) hrel3 (Nat.le_refl _) hI (fun j cs ty fz h _ => ?_) (fun _ h=>h.elim) (by omega) (fun j hj=>⟨?_,fun hlt => ?_⟩) (fun _ _ _ h=>h) rfl (fun d g ts h=>⟨by rw[hob3 d g ts h];rfl,h⟩) hz5T htt htt
 ·have hlt:=(Array.getElem?_eq_some_iff.1 h).1
  rw[hWold j (by omega),hold5 j (by omega)]
  exact h
 ·rcases hj with hj|hj
  ·omega
  ·cases hj
 ·rcases hj with hj|hj
  ·omega
  ·cases hj
theorem glob_J {W:World} (h:RunJ G oF eF w T5 fn bb assign body k W):GlOk G W (fun _=>False):=by
 obtain⟨_,p,v,st,_,_,_,_,z,β,hrel,_⟩:=h
 exact fun g v hg=>Rep.mono (fun _ _ _=>rfl) (fun _ _ h=>h.elim) (hrel.glob g v hg)
theorem turn_J {W W':World} (h:RunJ G oF eF w T5 fn bb assign body k W) (hs : ∀j,j<W.heap.size->j≠bb+1->W'.heap[j]?=W.heap[j]?) (hsz:W.heap.size<=W'.heap.size) (h1:W'.os=W.os) (h2:W'.tape=W.tape) (h3:W'.output=W.output):RunJ G oF eF w T5 fn bb assign body k W':=by
 obtain⟨hle,p,v,st,hp,hv6,hside,hr,z,β,hrel,hL⟩:=h
 have hlt:bb+5<W.heap.size:=(Array.getElem?_eq_some_iff.1 hside.rc).1
 have hbel:Below w.heap.size W W':=⟨h1,h2,h3,hsz,fun j hj=>hs j (by have:=hside.base.size;omega) (by omega)⟩
 have hown : ∀j,v.ownBlock=some j->W'.heap[j]?=W.heap[j]?:=fun j hj=>hs j (owns_lt hside.own hj).1 (by have:=hv6 j hj;omega)
 refine⟨hle,p,v,st.with st.up st.up,hp,hv6,⟨hside.base.trans hbel,(hs _ hlt (by omega)).trans hside.rc,(hs _ (by omega) (by omega)).trans hside.dfr,(hs _ (by omega) (by omega)).trans hside.bld,owns_same hside.own hown⟩,hr.with (fun d g ts h=>(hrel.hobs d g ts h).2.1) rfl rfl,?_⟩
 exact live_again (C:=fun j=>j=bb+1) hrel hside.base.size hL trivial (fun j cs ty fz h hc=>(hs j (Array.getElem?_eq_some_iff.1 h).1 hc).trans h) (fun j hj => .inl ⟨by omega,by omega⟩) hsz (fun j hj=>⟨Nat.lt_of_lt_of_le (hrel.old j hj) hsz,fun _=>hj⟩) hrel.size hrel.ups hrel.ups
end
end Go.Proofs.YtcfjiolldehegaaGreatDoor
namespace Go.Proofs.YtcfjiolldehegaaGreatDoor
open Go.RowKit
theorem index_no : ∀ {l:List UInt8} {c:UInt8},c∉l->Lib.indexByte l c = -1
 | [],_,_=>rfl
 |b::l,c,h=>by
  have h1:(b==c)=false:=beq_eq_false_iff_ne.2 fun e=>h (e▸List.mem_cons_self)
  have ih:=index_no (l:=l) (c:=c) fun hm=>h (List.mem_cons_of_mem _ hm)
  unfold Lib.indexByte
  rw[h1,ih]
  rfl
theorem index_mid : ∀ {l:List UInt8} {c:UInt8} {r:List UInt8},c∉l->Lib.indexByte (l++c::r) c=(l.length:Int)
 | [],c,r,_=>by
  show Lib.indexByte (c::r) c=0
  unfold Lib.indexByte
  rw[beq_self_eq_true,if_pos rfl]
 |b::l,c,r,h=>by
  have h1:(b==c)=false:=beq_eq_false_iff_ne.2 fun e=>h (e▸List.mem_cons_self)
  have ih:=index_mid (l:=l) (c:=c) (r:=r) fun hm=>h (List.mem_cons_of_mem _ hm)
  show Lib.indexByte (b::(l++c::r)) c=_
  unfold Lib.indexByte
  rw[h1,ih]
  rw[if_neg (by simp),if_neg (by simp),List.length_cons]
  omega
theorem textB_size (l:List UInt8):(textB l).size=l.length:=by simp[textB,ByteArray.size]
theorem textB_front (l r:List UInt8):(textB (l++r)).extract 0 l.length=textB l:=by
 refine ByteArray.ext ?_
 rw[ByteArray.data_extract]
 refine Array.toList_inj.1 ?_
 simp[textB]
theorem textB_back (l r:List UInt8) (c:UInt8):(textB (l++c::r)).extract (l.length+1) (l++c::r).length=textB r:=by
 refine ByteArray.ext ?_
 rw[ByteArray.data_extract]
 refine Array.toList_inj.1 ?_
 have e:l.length+(r.length+1)-(l.length+1)=r.length:=by omega
 simp[textB,e]
theorem rounds_ind {F:Fence} {n:Nat} {P:Program} {c:Code} {Q:Exit->Act->World->Prop} {N:Nat} (I:Nat->Act->World->Prop)
  (step : ∀m k a w,k+(m+1)=N->I k a w->(∀a' w',k+1<N->I (k+1) a' w'->Code.roundsIn F n P c Q m a' w')->Code.roundsIn F n P c Q (m+1) a w) :
  ∀m k a w,k+m=N->1<=m->I k a w->Code.roundsIn F n P c Q m a w:=by
 intro m
 induction m with
 |zero=>intro k a w _ h;omega
 |succ m ih=>
  intro k a w hk _ hI
  exact step m k a w hk hI fun a' w' hlt hI'=>ih (k+1) a' w' (by omega) (by omega) hI'
set_option maxRecDepth 100000 in
set_option maxHeartbeats 4000000 in
theorem seq_runG {restF lineF:Nat->List UInt8} {N:Nat} (hN:1<=N) (hmid : ∀k,k+1<N->restF k=lineF k++10::restF (k+1)) (hno : ∀k,k<N->(10:UInt8)∉lineF k) (hlast:restF (N-1)=lineF (N-1)) (hlen : ∀k,(restF k).length<=1000000)
  (F:Fence) (n b l:Nat) (hF:F.fn 29) (hF2:F.fn 31) (hn:1<=n) (hro:F.round=none) (J:Nat->World->Prop)
  (hIx : ∀k w,J k w->CallsIn F (n-1) Tryz.prog 31 #[.string (textB (restF k)),.string ⟨#[10]⟩] w fun e w'=>e = .returned (.int .i64 (Lib.indexByte (restF k) 10))/\Below w.heap.size w w')
  (hJ : ∀k W W',J k W->(∀j,j<W.heap.size->j≠b->W'.heap[j]?=W.heap[j]?)->W.heap.size<=W'.heap.size->W'.os=W.os->W'.tape=W.tape->W'.output=W.output->J k W')
  (hY : ∀k W,k<N->J k W->Boxes b (textB (restF k)) W->YieldAt F (n-1) Tryz.prog l #[.string (textB (lineF k))] W fun e W'=>e = .returned (.bool true)/\J (k+1) W'/\Boxes b (textB (restF k)) W')
  (W:World) (h0:J 0 W) (hb:Boxes b (textB (restF 0)) W) :
  CallsIn F n Tryz.prog 29 (#[.func (.yield l) #[] #[]] ++ #[.pointer (some ⟨b+1,0,none⟩),.pointer (some ⟨b,0,none⟩),.pointer (some ⟨b+2,0,none⟩)]) W fun e W'=>(∃v,e = .returned v)/\J N W':=by
 refine callsIn_of_wp Tryz.func29 rfl hF ?_ hro
 simp only[Tryz.ntmps29,List.size_toArray,List.length_cons,List.length_nil,Nat.reduceAdd,Nat.reduceSub,Array.replicate_succ,Array.replicate_zero,List.push_toArray,List.append_toArray,List.nil_append,List.cons_append]
 obtain⟨c0,-,c1,c2⟩:=hb.cells
 have hset : ∀k W s,J k W->J k (W.setCell ⟨b,0,none⟩ s):=fun k W s h=>hJ k W _ h (fun j _ hjb=>Below.heap_setCell _ _ _ _ hjb) (by simp[World.setCell]) rfl rfl rfl
 have hstep : ∀k W W',J k W->Below W.heap.size W W'->J k W':=fun k W W' h hw=>hJ k W W' h (fun j hj _=>hw.block j hj) hw.size hw.os hw.tape hw.output
 have hbox : ∀ {s W W'},Boxes b s W->Below W.heap.size W W'->Boxes b s W':=fun h hw=>h.same fun k hk _=>hw.block k hk
 clear hJ
 gi_wp2
 clear c0 c1 c2
 refine wpIn_loop_rounds N ?_
 refine rounds_ind (N:=N) (fun k a w=>J k w/\Boxes b (textB (restF k)) w /\ ∃x4 x5 x6 x7 x8 x9 x10 x11 x12 x13 x14 x15 x16 x17 x18 x19 x20 x21 x22 x23 x24 x25 x26 x27 x28 x29 x30 x31 x32 x33 x34 x35 x36 x37 x38 x39 x40 x41 x42 x43 x44 x45 x46 x47 x48 x49 x50 x51,a=⟨#[.func (.yield l) #[] #[],.pointer (some ⟨b+1,0,none⟩),.pointer (some ⟨b,0,none⟩),.pointer (some ⟨b+2,0,none⟩),x4,x5,x6,x7,x8,x9,x10,x11,x12,x13,x14,x15,x16,x17,x18,x19,x20,x21,x22,x23,x24,x25,x26,x27,x28,x29,x30,x31,x32,x33,x34,x35,x36,x37,x38,x39,x40,x41,x42,x43,x44,x45,x46,x47,x48,x49,x50,x51],[]⟩) ?_ N 0 _ _ (by omega) hN ⟨h0,hb,_,_,_,_,_,_,_,_,_,_,_,_,_,_,_,_,_,_,_,_,_,_,_,_,_,_,_,_,_,_,_,_,_,_,_,_,_,_,_,_,_,_,_,_,_,_,_,_,rfl⟩
 clear h0 hb
 rintro m k a w hk ⟨h0,hb,x4,x5,x6,x7,x8,x9,x10,x11,x12,x13,x14,x15,x16,x17,x18,x19,x20,x21,x22,x23,x24,x25,x26,x27,x28,x29,x30,x31,x32,x33,x34,x35,x36,x37,x38,x39,x40,x41,x42,x43,x44,x45,x46,x47,x48,x49,x50,x51,rfl⟩ hnext
 rw[roundsIn_succ]
 obtain⟨c0,-,c1,c2⟩:=hb.cells
 gi_wp2_with (gi_at_call 31;refine(hIx k w h0).mono ?_)
 intro e w1 he hw1
 subst he
 replace hb:=hbox hb hw1
 replace h0:=hstep _ _ _ h0 hw1
 obtain⟨fn,tmps,assign,body,hy,hR⟩:=hY k w1 (by omega) h0 hb
 clear c0 c1 c2 hw1 h0
 obtain⟨c0,-,c1,c2⟩:=hb.cells
 by_cases hk1:k+1<N
 ·have hr:=hmid k hk1
  have ix:Lib.indexByte (restF k) 10=((lineF k).length:Int):=by rw[hr];exact index_mid (hno k (by omega))
  have zz:(textB (restF k)).size=(restF k).length:=textB_size _
  have xx:(textB (restF k)).extract 0 (lineF k).length=textB (lineF k):=by rw[hr];exact textB_front _ _
  have yy:(textB (restF k)).extract ((lineF k).length+1) (restF k).length=textB (restF (k+1)):=by rw[hr];exact textB_back _ _ _
  have hlt:(lineF k).length+1<=(restF k).length:=by rw[hr];simp
  have hle:=hlen k
  clear hr hmid hno hlast hlen
  rw[ix]
  generalize (lineF k).length=L at *
  generalize (restF k).length=M at *
  have p0 : ¬((L:Int)<0):=by omega
  have q1:L<=M:=by omega
  gi_wp2
  refine hR.mono ?_
  clear hy hR c0 c1 c2 hb
  rintro e w2 ⟨rfl,h0,hb⟩
  obtain⟨c0,c3,c1,c2⟩:=hb.cells
  gi_wp2
  clear c0 c1 c2 c3
  replace h0:=hset _ _ (.string (textB (restF (k+1)))) h0
  replace hb:=hb.set (s':=textB (restF (k+1)))
  exact hnext _ _ hk1 ⟨h0,hb,_,_,_,_,_,_,_,_,_,_,_,_,_,_,_,_,_,_,_,_,_,_,_,_,_,_,_,_,_,_,_,_,_,_,_,_,_,_,_,_,_,_,_,_,_,_,_,_,rfl⟩
 ·have ek:k=N-1:=by omega
  have ix:Lib.indexByte (restF k) 10 = -1:=by rw[ek,hlast];exact index_no (hno (N-1) (by omega))
  have ee:restF k=lineF k:=by rw[ek];exact hlast
  have em:k+1=N:=by omega
  rw[em]at hR
  rw[<- ee]at hy
  rw[ix]
  clear hmid hno hlast hlen ee ek
  gi_wp2
  refine hR.mono ?_
  rintro e w2 ⟨rfl,h0,hb⟩
  gi_wp2
  go_end0
  exact⟨⟨_,rfl⟩,h0⟩
end Go.Proofs.YtcfjiolldehegaaGreatDoor
namespace Go.Proofs.YtcfjiolldehegaaGreatDoor
open Go.Ev Go.RowKit
section
variable {G:List (Nat×Value)} {restF lineF oF:Nat->List UInt8} {eF:Nat->List Ent} {N:Nat} {w w5:World} {T5:Array Value} {bb:Nat} {ty4 ty5:TypeId} {pos4 pos5:String} {af4 af5:Array Edge} {c5 c7 c8 c9:Code} {ops:Array Oper} {tys:Array TypeId}
theorem loop_go {Q:Exit->Act->World->Prop} (hG:GMet G) (hok:okCode 39 (.seq c5 (.seq c7 c8))=true) (hrd:rdCode (.seq c5 (.seq c7 c8))=true)
  (hd:ops.toList.all (fun o=>match o.dst with|some d=>decide (d<39)|none=>true)=true) (hnd:ops.all (fun o=>notDefer o.op)=true) (hsz:ops.size=6)
  (ho:ops[5]?=some ⟨some 19,.call { callee := .value (.func 9),args := #[.tmp 4,.tmp 18],argTypes:=tys },ty5,pos5,af5,none⟩)
  (hN:1<=N) (hmid : ∀k,k+1<N->restF k=lineF k++10::restF (k+1)) (hno : ∀k,k<N->(10:UInt8)∉lineF k) (hlast:restF (N-1)=lineF (N-1)) (hlen : ∀k,(restF k).length<=1000000) (holen : ∀k,k<=N->(oF k).length<=1000000000)
  (hw : ∀k,k<N->(∃piece:List UInt8,piece.length<=1000000000/\oF (k+1)=oF k++piece /\ ∀st,RunS bb st (eF k)->st.tmp 3 = .ptr 2000003 1 0->st.tmp 4 = .sv (.con (.pointer (some ⟨bb,0,none⟩)))->st.tmp 5 = .sv (.str (textB (lineF k))) ->
   WP CX c5 st fun e s=>e = .normal/\WP CX c7 s fun e s=>e = .normal/\s.tmp 20 = .sv (.bool false)/\WP CX c8 s fun e s=>e = .normal/\s.tmp 31 = .sv (.bool false) /\
    WO CX false ops (ops.toList.take 5) s fun s=>RunS bb s (eF (k+1))/\s.tmp 4 = .sv (.con (.pointer (some ⟨bb,0,none⟩)))/\s.tmp 18 = .sv (.str (bs piece))) \/
   (oF (k+1)=oF k /\ ∀st,RunS bb st (eF k)->st.tmp 3 = .ptr 2000003 1 0->st.tmp 4 = .sv (.con (.pointer (some ⟨bb,0,none⟩)))->st.tmp 5 = .sv (.str (textB (lineF k))) ->
   WP CX c5 st fun e s=>e = .normal/\WP CX c7 s fun e s=>e = .normal/\s.tmp 20 = .sv (.bool true)/\RunS bb s (eF (k+1))))
  (h0 : ∀fn W1,W1=(w5.alloc (.deferred (some []))).alloc (.loop { state := .ready,pending:=none,fn,tmps:=T5,params := #[11],assign := .region 4 #[⟨some 5,.assign (.tmp 11),ty4,pos4,af4,none⟩] false,body := .block 1 (.seq c5 (.block 2 (.seq c7 (.cond (.tmp 20) .skip (.seq c8 (.cond (.tmp 31) c9 (.region 6 ops false))))))),defers:=w5.heap.size }) ->
   RunJ G oF eF w T5 fn bb (.region 4 #[⟨some 5,.assign (.tmp 11),ty4,pos4,af4,none⟩] false) (.block 1 (.seq c5 (.block 2 (.seq c7 (.cond (.tmp 20) .skip (.seq c8 (.cond (.tmp 31) c9 (.region 6 ops false)))))))) 0 W1)
  (hbx:Boxes (bb+1) (textB (restF 0)) w5) (hz5:w5.heap.size=bb+4) (e10:(Act.mk T5 []).eval (.tmp 10)=seqV (bb+1))
  (hQ : ∀W7 p v,(p = .pointer none\/p = .pointer (some ⟨bb,0,none⟩))->W7.heap[bb]?=some (.cells #[p,v] 32 (0,0))->W7.ownsRow w.heap.size 5 1 v (Lib.byteCells (oF N)).length (Lib.byteCells (oF N))->v.ownBlock≠some bb->v.ownBlock≠some (bb+4) ->
   W7.heap[bb+4]?=some (.deferred (some []))->Below w.heap.size w W7->w.heap.size<=bb->Q .normal ⟨T5,[⟨.collected (bb+4),#[]⟩]⟩ W7) :
  (Code.rangeFunc (.tmp 10) #[11] (.region 4 #[⟨some 5,.assign (.tmp 11),ty4,pos4,af4,none⟩] false) (.block 1 (.seq c5 (.block 2 (.seq c7 (.cond (.tmp 20) .skip (.seq c8 (.cond (.tmp 31) c9 (.region 6 ops false))))))))).wpIn Fence.wide 5 Tryz.prog Q ⟨T5,[]⟩ w5:=by
 have hok2:okCode 39 (.seq c5 c7)=true:=by
  simp only[okCode,Bool.and_eq_true]at hok ⊢
  exact⟨hok.1,hok.2.1⟩
 have hrd2:rdCode (.seq c5 c7)=true:=by
  simp only[rdCode,Bool.and_eq_true]at hrd ⊢
  exact⟨hrd.1,hrd.2.1⟩
 refine range_go e10 (enters_of (fn:=Tryz.f29) (c:=(Tryz.f29).body.get!) (by kernel_rfl) (by kernel_rfl) (by kernel_rfl)) ?_
 intro fn W1 hW1
 rw[hz5]
 have hJ0:=h0 fn W1 hW1
 have hb1:Boxes (bb+1) (textB (restF 0)) W1:=hbx.same fun k hk _=>by
  rw[hW1,Below.heap_alloc _ _ _ (by rw[World.size_alloc];omega),Below.heap_alloc _ _ _ hk]
 clear h0 hW1 hbx
 have key : ∀k W,k<N->RunJ G oF eF w T5 fn bb (.region 4 #[⟨some 5,.assign (.tmp 11),ty4,pos4,af4,none⟩] false) (.block 1 (.seq c5 (.block 2 (.seq c7 (.cond (.tmp 20) .skip (.seq c8 (.cond (.tmp 31) c9 (.region 6 ops false)))))))) k W->YieldAt Fence.wide 3 Tryz.prog (bb+5) #[.string (textB (lineF k))] W fun e W'=>e = .returned (.bool true)/\RunJ G oF eF w T5 fn bb (.region 4 #[⟨some 5,.assign (.tmp 11),ty4,pos4,af4,none⟩] false) (.block 1 (.seq c5 (.block 2 (.seq c7 (.cond (.tmp 20) .skip (.seq c8 (.cond (.tmp 31) c9 (.region 6 ops false)))))))) (k+1) W' /\ ∀j,bb+1<=j->j<=bb+3->W'.heap[j]?=W.heap[j]?:=by
  intro k W hk hj
  rcases hw k hk with⟨piece,hp,ho1,hw1⟩|⟨ho1,hw1⟩
  ·exact yield_w hG hok hrd hd hnd hsz ho hw1 ho1 (holen k (by omega)) hp hj
  ·exact yield_n hG hok2 hrd2 hw1 ho1 hj
 generalize (Code.region 4 #[⟨some 5,.assign (.tmp 11),ty4,pos4,af4,none⟩] false)=assign at *
 generalize (Code.block 1 (.seq c5 (.block 2 (.seq c7 (.cond (.tmp 20) .skip (.seq c8 (.cond (.tmp 31) c9 (.region 6 ops false))))))))=body at *
 refine(seq_runG hN hmid hno hlast hlen Fence.wide 4 (bb+1) (bb+5) trivial trivial (by omega) rfl (fun k W=>RunJ G oF eF w T5 fn bb assign body k W) ?_ ?_ ?_ W1 hJ0 hb1).mono ?_
 ·intro k W hj
  obtain⟨n,e,hn⟩:=str_Index CX_str (restF k) 10
  refine callsIn_wide.2 ((callN_calls (G:=G) (XL_ok hG) good_ok hn (enters_of (fn:=Tryz.f31) (c:=(Tryz.f31).body.get!) (by kernel_rfl) (by kernel_rfl) (by kernel_rfl)) (glob_J hj) (vals := #[.string (textB (restF k)),.string ⟨#[10]⟩]) rfl ?_).mono ?_)
  ·intro i x hx
   match i with
   |0=>simp only[List.getElem?_cons_zero,Option.some.injEq]at hx;subst hx;exact .str _
   |1=>simp only[List.getElem?_cons_zero,List.getElem?_cons_succ,Option.some.injEq]at hx;subst hx;exact .str _
   |_+2=>simp at hx
  ·rintro e' w' ⟨v,rfl,hr,hb⟩
   cases hr
   exact⟨rfl,hb⟩
 ·intro k W W' hj h1 h2 h3 h4 h5
  exact turn_J hj h1 h2 h3 h4 h5
 ·intro k W hk hj hbox
  obtain⟨fn',tmps,asg,bo,hy,hR⟩:=key k W hk hj
  exact⟨fn',tmps,asg,bo,hy,hR.mono fun e W' ⟨h1,h2,h3⟩=>⟨h1,h2,hbox.same fun j _ hj=>h3 j (by omega) (by omega)⟩⟩
 ·rintro e W' ⟨⟨v,rfl⟩,hj3⟩
  obtain⟨hle,p,v,st,hp,hv6,hside,-⟩:=hj3
  have hlt:bb+5<W'.heap.size:=(Array.getElem?_eq_some_iff.1 hside.rc).1
  refine⟨none,_,run_endLoop hside.rc (by simp[recB]),?_⟩
  refine hQ _ p v hp ((World.putObj_heap_other (by omega)).trans hside.bld) (owns_same hside.own fun j hj=>World.putObj_heap_other (by have:=hv6 j hj;omega)) (fun e=>by have:=hv6 _ e;omega) (fun e=>by have:=hv6 _ e;omega) ((World.putObj_heap_other (by omega)).trans hside.dfr) (hside.base.trans ((Below.refl _ W').grown (grownBy_putObj' W' _ _) (by have:=hside.base.size;omega) (fun k e=>by cases e;omega))) hle
end
structure LineW (line:List UInt8) (es es':List Ent) (out:List UInt8):Prop where
 w : ∃ (c:UInt8) (r:List UInt8) (ws:List (List UInt8)),c≠35/\Go.Ev.Fn CX 8 [.str (bs line)] (.sl (ws.length+1) (strK ((c::r)::ws))) /\ ∀ {ops:Array Oper} {l:List Oper} {dst:Option Nat} {st:St} {Q:St->Prop},SessR st 2000007 1 es 6 ->
  (∀st',KeepQ 2000007 st st'->SessR st' 2000007 1 es' 6->WO CX false ops l (st'.putO dst (.sv (.str (bs out)))) Q)->WN CX ops l dst st Q 11 [.pst 2000007 1,.sv (.str (bs line)),.sv (.sl (ws.length+1) (strK ((c::r)::ws)))]
 len:line.length<=1024
 ol:out.length<=10000000
def LineN (line:List UInt8):Prop:=Go.Ev.Fn CX 8 [.str (bs line)] (.sl 0 []) \/ ∃ (r:List UInt8) (ws:List (List UInt8)),Go.Ev.Fn CX 8 [.str (bs line)] (.sl (ws.length+1) (strK ((35::r)::ws)))
structure Script (restF lineF oF:Nat->List UInt8) (eF:Nat->List Ent) (N:Nat):Prop where
 hN:1<=N
 mid : ∀k,k+1<N->restF k=lineF k++10::restF (k+1)
 no : ∀k,k<N->(10:UInt8)∉lineF k
 last:restF (N-1)=lineF (N-1)
 len : ∀k,(restF k).length<=1000000
 o0:oF 0=[]
 e0:eF 0=[]
 olen : ∀k,k<=N->(oF k).length<=1000000000
 one:oF N≠[]
 lines : ∀k,k<N->(LineN (lineF k)/\oF (k+1)=oF k/\eF (k+1)=eF k) \/ ∃out,LineW (lineF k) (eF k) (eF (k+1)) out/\oF (k+1)=oF k++(out++[10])
set_option maxRecDepth 100000 in
set_option maxHeartbeats 2000000 in
theorem run_callsG {restF lineF oF:Nat->List UInt8} {eF:Nat->List Ent} {N:Nat} (hS:Script restF lineF oF eF N) {G:List (Nat×Value)} (hG:GMet G) (w:World) (F0:Nat->Prop) (hgl:GlOk G w F0) (hF0 : ∀b,F0 b->b<w.heap.size) :
  Calls Tryz.prog 5 #[.string (textB (restF 0))] w fun e w'=>e = .returned (.string (textB (oF N)))/\Below w.heap.size w w':=by
 refine(callsIn_wide (n:=5)).1 ?_
 refine callsIn_of_wp_marks Tryz.func5 rfl trivial ?_
 have hent:=entry (N:=39) (vals := #[.string (textB (restF 0))]) (args:=[.sv (.str (textB (restF 0)))]) (B:=fun _=>0) hgl (by decide) (by simp) hF0 rfl (fun i x hx=>by
  cases i with
  |zero=>cases hx;exact .str _
  |succ i=>cases hx) (fun i j x y hx _ hi=>by
  cases i with
  |zero=>cases hx;cases hi
  |succ i=>cases hx)
 rw[show (Tryz.f5).ntmps=39 from rfl]
 have hI : ∀k,impB [.sv (.str (textB (restF 0)))] (fun _=>0) k->w.heap.size<=k:=by
  rintro k ⟨i,x,hx,hi,_⟩
  cases i with
  |zero=>cases hx;cases hi
  |succ i=>cases hx
 generalize impB [.sv (.str (textB (restF 0)))] (fun _=>0)=I at hent hI
 generalize ({ tmps := #[Value.string (textB (restF 0))]++Array.replicate (39 - #[Value.string (textB (restF 0))].size) undef,defers:=[] }:Act)=a0 at hent ⊢
 refine wpIn_seq (piece (ro:=none) (Z:=⟨fun _=>0,fun _=>undef,False,G⟩) hG (by simp[okCode]) (by simp[rdCode,notDefer]) ⟨_,hent⟩ (R:=fun e s=>e = .normal/\s=(argSt [.sv (.str (textB (restF 0)))]).put 2 (.sv (.str ⟨#[]⟩))) ?_ ?_ (fun e s h=>h.1))
 ·repeat (first|simp only[go_sem]|simp (disch:=first|exact oa|fail) only[AX]|refine wki ?_|refine wqn ?_|refine vpx [] ?_)
 rintro s a1 w1 ⟨-,rfl⟩ hto
 refine wpIn_seq (wpIn_region (pre_wo (ro:=none) (m:=2) (Z:=⟨fun _=>0,fun _=>undef,False,G⟩) hG (by simp) (by simp[notDefer]) (by simp) hto (T:=fun s=>s=(((argSt [.sv (.str (textB (restF 0)))]).put 2 (.sv (.str ⟨#[]⟩))).newH 7 [.nil,.sv (.int .i64 6)]).put 8 (.pst 2000007 1)) ?_ ?_))
 ·repeat (first|simp only[go_sem]|simp (disch:=first|exact oa|fail) only[AX]|refine wki ?_|refine wqn ?_|refine vpx [] ?_)
  refine vf_heap sess_New ?_
  repeat (first|simp only[go_sem]|simp (disch:=first|exact oa|fail) only[AX]|refine wki ?_|refine wqn ?_|refine vpx [] ?_)
 rintro s a2 w2 rfl ⟨β2,hrel2⟩
 refine desk_box (ro:=none) rfl rfl rfl hrel2 rfl (Nat.le_of_ble_eq_true (by kernel_rfl)) ?_
 clear hrel2 hto hent
 intro β3 a3 w3 hrel3
 have hbox:((((((argSt [.sv (.str (textB (restF 0)))]).put 2 (.sv (.str ⟨#[]⟩))).newH 7 [.nil,.sv (.int .i64 6)]).put 8 (.pst 2000007 1)).newH 3 [.ptr 2000007 1 0])).hob 2000003 1=some [.ptr 2000007 1 0]:=by kernel_rfl
 have hsess:SessR ((((((argSt [.sv (.str (textB (restF 0)))]).put 2 (.sv (.str ⟨#[]⟩))).newH 7 [.nil,.sv (.int .i64 6)]).put 8 (.pst 2000007 1)).newH 3 [.ptr 2000007 1 0])) 2000007 1 [] 6:=⟨by decide,.inl ⟨rfl,by kernel_rfl⟩⟩
 have hgen:1<((((((argSt [.sv (.str (textB (restF 0)))]).put 2 (.sv (.str ⟨#[]⟩))).newH 7 [.nil,.sv (.int .i64 6)]).put 8 (.pst 2000007 1)).newH 3 [.ptr 2000007 1 0])).gen 2000003:=Nat.le_of_ble_eq_true (by kernel_rfl)
 have t0:((((((argSt [.sv (.str (textB (restF 0)))]).put 2 (.sv (.str ⟨#[]⟩))).newH 7 [.nil,.sv (.int .i64 6)]).put 8 (.pst 2000007 1)).newH 3 [.ptr 2000007 1 0])).tmp 0 = .sv (.str (textB (restF 0))):=by kernel_rfl
 have t3:((((((argSt [.sv (.str (textB (restF 0)))]).put 2 (.sv (.str ⟨#[]⟩))).newH 7 [.nil,.sv (.int .i64 6)]).put 8 (.pst 2000007 1)).newH 3 [.ptr 2000007 1 0])).tmp 3 = .ptr 2000003 1 0:=by kernel_rfl
 generalize ((((((argSt [.sv (.str (textB (restF 0)))]).put 2 (.sv (.str ⟨#[]⟩))).newH 7 [.nil,.sv (.int .i64 6)]).put 8 (.pst 2000007 1)).newH 3 [.ptr 2000007 1 0]))=s3 at *
 have hT3:a3.tmps.size=39:=hrel3.size
 have hD3:a3.defers=[]:=hrel3.defers
 have hob3 : ∀d g ts,s3.hob d g=some ts->s3.obj d g=some []:=fun d g ts h=>(hrel3.hobs d g ts h).2.1
 have v0:a3.tmps.getD 0 undef = .string (textB (restF 0)):=by
  have:=hrel3.tmps 0
  rw[t0]at this
  exact rep_str this
 obtain⟨T3,D3⟩:=a3
 cases hD3
 have hT3:T3.size=39:=hT3
 have v0:T3.getD 0 undef = .string (textB (restF 0)):=v0
 obtain⟨ib,hib,hzb⟩:=bld_info
 refine wpIn_seq (wpIn_region ?_)
 show wpOpsIn Fence.wide 5 _ _ _ [0] _ _
 rw[wpOpsIn_cons,<- lay_nil (a:=⟨T3,[]⟩)]
 refine hand_in (ro:=none) (D:=[]) (w1:=w3.alloc (.cells #[.pointer none,.slice none 0 0] 32)) (v := .pointer (some ⟨w3.heap.size,0,none⟩)) rfl rfl rfl ?_ ?_
 ·simp[execOp,Instr.alloc,run_zero hib hzb,newVar,newRow]
  rfl
 obtain⟨bb,hbb⟩ : ∃bb,bb=w3.heap.size:=⟨_,rfl⟩
 rw[<- hbb]
 rw[lay_nil]
 have hbld:(w3.alloc (.cells #[.pointer none,.slice none 0 0] 32)).heap[bb]?=some (.cells #[.pointer none,.slice none 0 0] 32 (0,0)):=by rw[hbb];exact World.alloc_heap_new _ _
 have hz4:(w3.alloc (.cells #[.pointer none,.slice none 0 0] 32)).heap.size=bb+1:=by rw[World.size_alloc,hbb]
 have hold4 : ∀j,j<bb->(w3.alloc (.cells #[.pointer none,.slice none 0 0] 32)).heap[j]?=w3.heap[j]?:=fun j hj=>Below.heap_alloc _ _ _ (by omega)
 have hbel4:Below w.heap.size w3 (w3.alloc (.cells #[.pointer none,.slice none 0 0] 32)):=(Below.refl _ w3).alloc (by have:=hrel3.ext.size;omega) _
 generalize w3.alloc (.cells #[.pointer none,.slice none 0 0] 32)=w4 at *
 obtain⟨T4,hT4⟩ : ∃T4,T4=T3.setIfInBounds 4 (.pointer (some ⟨bb,0,none⟩)):=⟨_,rfl⟩
 show Code.wpIn _ _ _ _ _ ⟨T3.setIfInBounds 4 _,[]⟩ _
 rw[<- hT4]
 have hz:T4.size=39:=by rw[hT4,Array.size_setIfInBounds];exact hT3
 refine wpIn_seq (wpIn_seq (wpIn_region ?_))
 show wpOpsIn Fence.wide 5 _ _ _ [0,1] _ _
 rw[wpOpsIn_cons,<- lay_nil (a:=⟨T4,[]⟩)]
 refine hand_in (ro:=none) (D:=[]) (w1:=w4) (v := .string (textB (restF 0))) rfl rfl rfl ?_ ?_
 ·have:(Act.mk T4 []).eval (.tmp 0) = .string (textB (restF 0)):=by
   show T4.getD 0 undef=_
   rw[hT4,ext_T (by omega),if_neg (by omega)]
   exact v0
  simp[execOp,this]
 rw[wpOpsIn_cons]
 refine callI_in (ro:=none) (D:=[]) rfl rfl (.inl ⟨enters_of (fn:=Tryz.f7) (c:=(Tryz.f7).body.get!) (by kernel_rfl) (by kernel_rfl) (by kernel_rfl),?_⟩)
 have e9:((Act.mk T4 []).put (some 9) (.string (textB (restF 0)))).eval (.tmp 9) = .string (textB (restF 0)):=by
  show (T4.setIfInBounds 9 _).getD 9 undef=_
  rw[ext_T (by omega),if_pos rfl]
 refine Eq.mpr (congrArg (fun vs=>Calls Tryz.prog 7 vs w4 _) (?_:_ = #[Value.string (textB (restF 0)),.string ⟨#[10]⟩])) ?_
 ·simp only[List.map_toArray,List.map_cons,List.map_nil,Array.append_empty]
  exact congrArg (fun v => #[v,Value.string ⟨#[10]⟩]) e9
 refine(callsIn_wide.1 (split_Seq Fence.wide 5 trivial trivial rfl rfl (textB (restF 0)) w4)).mono ?_
 rintro e w5 ⟨rfl,hbx,hbel5,hz5⟩
 refine⟨_,rfl,?_⟩
 rw[hz4]at hbx hz5
 obtain⟨T5,hT5⟩ : ∃T5,T5=(T4.setIfInBounds 9 (.string (textB (restF 0)))).setIfInBounds 10 (seqV w4.heap.size):=⟨_,rfl⟩
 rw[lay_nil]
 show Code.wpIn _ _ _ _ _ ⟨(T4.setIfInBounds 9 _).setIfInBounds 10 _,[]⟩ _
 rw[<- hT5]
 have hz5T:T5.size=39:=by rw[hT5,Array.size_setIfInBounds,Array.size_setIfInBounds];exact hz
 have e10:(Act.mk T5 []).eval (.tmp 10)=seqV (bb+1):=by
  show T5.getD 10 undef=_
  rw[hT5,ext_T (by rw[Array.size_setIfInBounds];omega),if_pos rfl,hz4]
 have hT5t : ∀t,t≠4->t≠9->t≠10->T5.getD t undef=T3.getD t undef:=fun t h4 h9 h10=>by
  rw[hT5,ext_T (by rw[Array.size_setIfInBounds];omega),if_neg h10,ext_T (by omega),if_neg h9,hT4,ext_T (by omega),if_neg h4]
 have hT54:T5.getD 4 undef = .pointer (some ⟨bb,0,none⟩):=by
  rw[hT5,ext_T (by rw[Array.size_setIfInBounds];omega),if_neg (by omega),ext_T (by omega),if_neg (by omega),hT4,ext_T (by omega),if_pos rfl]
 have hold5 : ∀j,j<bb->w5.heap[j]?=w3.heap[j]?:=fun j hj=>(hbel5.block j (by omega)).trans (hold4 j hj)
 have hbld5:w5.heap[bb]?=some (.cells #[.pointer none,.slice none 0 0] 32 (0,0)):=(hbel5.block bb (by omega)).trans hbld
 have hle:w.heap.size<=bb:=by rw[hbb];exact hrel3.ext.size
 have hbw:Below w.heap.size w w3:=⟨hrel3.ext.os,hrel3.ext.tape,hrel3.ext.output,hrel3.ext.size,fun b hb=>hrel3.ext.block b hb fun hi=>by have:=hI b hi;omega⟩
 have hbel:Below w.heap.size w w5:=(hbw.trans hbel4).trans (hbel5.mono (by omega))
 refine wpIn_block (loop_go (eF:=eF) (w:=w) (bb:=bb) hG (by simp[okCode]) (by simp[rdCode,notDefer]) (by simp) (by simp[notDefer]) (by simp) rfl hS.hN hS.mid hS.no hS.last hS.len hS.olen ?_ ?_ hbx (by omega) e10 ?_)
 rotate_left 1
 ·intro fn W1 hW1
  exact start_J hS.o0 hS.e0 hrel3 hI hbb hbox hsess hgen t3 hz5T hT5t hT54 (by omega) hold5 hbld5 hbel hW1
 ·intro W7 p v hp hbk hown hv1 hv2 hdf hb7 _
  refine wpIn_seq (wpIn_region ?_)
  show wpOpsIn Fence.wide 5 _ _ _ [0,1] _ _
  rw[show Act.mk T5 [⟨.collected (bb+4),#[]⟩]=lay [⟨.collected (bb+4),#[]⟩] ⟨T5,[]⟩ from rfl,wpOpsIn_cons]
  refine callI_in (ro:=none) rfl rfl (.inl ⟨enters_of (fn:=Tryz.f12) (c:=(Tryz.f12).body.get!) (by kernel_rfl) (by kernel_rfl) (by kernel_rfl),?_⟩)
  refine Eq.mpr (congrArg (fun vs=>Calls Tryz.prog 12 vs W7 _) (?_:_ = #[Value.pointer (some ⟨bb,0,none⟩)])) ?_
  ·simp only[List.map_toArray,List.map_cons,List.map_nil,Array.append_empty]
   exact congrArg (fun v => #[v]) hT54
  refine Calls.mono (Bld_String { Tryz.lays156 with } Tryz.Builder_Extra_156 w.heap.size bb p v (oF N) W7 hbk hown hS.one) ?_
  rintro e W8 ⟨rfl,hk8⟩
  refine⟨_,rfl,?_⟩
  rw[wpOpsIn_cons]
  refine hand_in (ro:=none) (w1:=W8) (v := .string (textB (oF N))) rfl rfl rfl ?_ ?_
  ·have:((Act.mk T5 []).put (some 38) (.string (textB (oF N)))).eval (.tmp 38) = .string (textB (oF N)):=by
    show (T5.setIfInBounds 38 _).getD 38 undef=_
    rw[ext_T (by omega),if_pos rfl]
   exact congrArg (fun v=>Result.ok (Next.value v) W8) this
  refine wpIn_ret ?_
  have hlt:=(Array.getElem?_eq_some_iff.1 hdf).1
  have hdf8:W8.heap[bb+4]?=some (.deferred (some [])):=(hk8.same (bb+4) hlt (by omega) hv2).trans hdf
  refine⟨(fun h=>by cases h),.inl ⟨bb+4,_,rfl,run_takeDeferred hdf8,.string (textB (oF N)),?_,rfl,?_⟩⟩
  ·have e2:((((Act.mk T5 []).put (some 38) (.string (textB (oF N)))).put (some 2) (.string (textB (oF N))))).tmps.getD 2 undef = .string (textB (oF N)):=by
    show ((T5.setIfInBounds 38 _).setIfInBounds 2 _).getD 2 undef=_
    rw[ext_T (by rw[Array.size_setIfInBounds];omega),if_pos rfl]
   refine results_list (vs:=[.string (textB (oF N))]) ?_
   show (List.mapM (resF _) [ResultVar.tmp 2]).run _ _=_
   simp only[List.mapM_cons,List.mapM_nil,resF,Sem.run_bind,Sem.run_pure,Result.andThen_ok]
   exact congrArg (fun v=>Result.ok [v] (W8.putObj (bb+4) (Obj.deferred none))) e2
  ·refine(hb7.trans ⟨hk8.os,hk8.tape,hk8.output,hk8.size,fun k hk=>hk8.same k (by have:=hb7.size;omega) (by omega) fun e => ?_⟩).trans ((Below.refl _ W8).grown (grownBy_putObj' W8 _ _) (by have:=hb7.size;have:=hk8.size;omega) (fun k e=>by cases e;omega))
   have:=(owns_lt hown e).2
   omega
 ·intro k hk
  rcases hS.lines k hk with⟨hn,ho,he⟩|⟨out,hw,ho⟩
  ·refine .inr ⟨ho,fun st hr t3 t4 t5 => ?_⟩
   have t5:st.tmp 5 = .sv (.str (bs (lineF k))):=t5
   rw[he]
   rcases hn with w1|⟨r,ws,w1⟩
   ·repeat (first|simp only[go_sem,t3,t4,t5]|simp (disch:=first|exact oa|fail) only[AX,t3,t4,t5]|refine wki ?_|refine wqn ?_|refine vpx [] ?_)
    refine vf_of (w1) ?_;repeat (first|simp only[go_sem,t3,t4,t5]|simp (disch:=first|exact oa|fail) only[AX,t3,t4,t5]|refine wki ?_|refine wqn ?_|refine vpx [] ?_)
    exact hr.same rfl rfl rfl rfl
   ·have z0:(((ws.length+1:Nat):Int)==0)=false:=beq_eq_false_iff_ne.2 (by omega)
    repeat (first|simp only[go_sem,t3,t4,t5,strK,List.map_cons,z0,List.drop_zero,List.head?_cons,Option.map_some,vo_ix,idxB_bs,List.getElem?_cons_zero]|simp (disch:=first|exact oa|fail) only[AX,t3,t4,t5,strK,List.map_cons,z0,List.drop_zero,List.head?_cons,Option.map_some,vo_ix,idxB_bs,List.getElem?_cons_zero]|refine wki ?_|refine wqn ?_|refine vpx [] ?_|refine vf_of (by first|exact w1) ?_)
    refine⟨rfl,hr.same rfl rfl rfl rfl⟩
  ·obtain⟨⟨c,r,ws,hc,w1,hl⟩,hlen,hol⟩:=hw
   refine .inl ⟨out++[10],by rw[List.length_append];simp;omega,ho,fun st hr t3 t4 t5 => ?_⟩
   have t5:st.tmp 5 = .sv (.str (bs (lineF k))):=t5
   have hb:=hr.box
   have q1:((c.toNat:Int)==35)=false:=beq_eq_false_iff_ne.2 fun e=>hc (UInt8.toNat_inj.1 (by show c.toNat=35;omega))
   have g1:decide ((((lineF k).length:Nat):Int)>1024)=false:=decide_eq_false (by omega)
   have z0:(((ws.length+1:Nat):Int)==0)=false:=beq_eq_false_iff_ne.2 (by omega)
   repeat (first|simp only[go_sem,t3,t4,t5,strK,List.map_cons,z0,List.drop_zero,List.head?_cons,Option.map_some,vo_ix,idxB_bs,List.getElem?_cons_zero,bs_size,q1,g1,hb]|simp (disch:=first|exact oa|fail) only[AX,t3,t4,t5,strK,List.map_cons,z0,List.drop_zero,List.head?_cons,Option.map_some,vo_ix,idxB_bs,List.getElem?_cons_zero,bs_size,q1,g1,hb]|refine wki ?_|refine wqn ?_|refine vpx [] ?_|refine vf_of (by first|exact w1) ?_)
   refine hl (hr.sess.of rfl (fun _=>rfl) (Nat.le_refl _)) ?_
   intro s1 hk hs1
   have ap:(Option.map TV.sv (if (bs out).size + #[(10:UInt8)].size<=9223372036854775807 then some (SV.str (bs out++ByteArray.mk #[10])) else none))=some (.sv (.str (bs (out++[10])))):=by
    rw[if_pos (by rw[bs_size];show out.length+1<=_;omega),show ByteArray.mk #[10]=bs [10] from rfl,bs_append]
    rfl
   repeat (first|simp only[go_sem,ap]|simp (disch:=first|exact oa|fail) only[AX,ap]|refine wki ?_|refine wqn ?_|refine vpx [] ?_)
   refine⟨?_,?_⟩
   ·exact⟨(hk.hob _ _ _ (by decide) hr.gen3 hb (by intro t ht;simp only[List.mem_singleton]at ht;subst ht;rfl)),hs1.of rfl (fun _=>rfl) (Nat.le_refl _),(hk.up 3 (show plQ (st.up 3)=true by rw[hr.up3];rfl)).trans hr.up3,(hk.up 4 (show plQ (st.up 4)=true by rw[hr.up4];rfl)).trans hr.up4,Nat.lt_of_lt_of_le hr.gen3 (hk.gen _)⟩
   ·exact(hk.tmp 4 (show plQ (st.tmp 4)=true by rw[t4];rfl)).trans t4
end Go.Proofs.YtcfjiolldehegaaGreatDoor
namespace Go.Proofs.YtcfjiolldehegaaGreatDoor
open Go.Ev Go.RowKit
def outK:Nat->List UInt8
 |0=>[]
 |1=>[111,107,10]
 |_=>[111,107,10,55,47,51,10]
def esK:Nat->List Ent
 |0=>[]
 |_=>entA
theorem script_K:Script restK lineK outK esK 3 where
 hN:=by omega
 mid:=fun k hk=>by
  match k,hk with
  |0,_=>rfl
  |1,_=>rfl
  |k+2,hk=>omega
 no:=fun k hk=>by
  match k,hk with
  |0,_=>decide
  |1,_=>decide
  |2,_=>decide
  |k+3,hk=>omega
 last:=rfl
 len:=fun k=>by
  match k with
  |0=>decide
  |1=>decide
  |k+2=>exact Nat.zero_le _
 o0:=rfl
 e0:=rfl
 olen:=fun k _=>by
  match k with
  |0=>decide
  |1=>decide
  |k+2=>show (7:Nat)<=_;omega
 one:=by decide
 lines:=fun k hk=>by
  match k,hk with
  |0,_=>exact .inr ⟨[111,107],⟨⟨108,[101,116],[[97],[61],[49],[50],[52]],by decide,words_A,fun h k=>desk_lineA (by decide) (by decide) h k⟩,by decide,by decide⟩,rfl⟩
  |1,_=>exact .inr ⟨[55,47,51],⟨⟨118,[97,114],[[97]],by decide,words_B,fun h k=>desk_lineB (by decide) (by decide) (by decide) h k⟩,by decide,by decide⟩,rfl⟩
  |2,_=>exact .inl ⟨.inl words_C,rfl,rfl⟩
  |k+3,hk=>omega
end Go.Proofs.YtcfjiolldehegaaGreatDoor
namespace Go.Proofs.YtcfjiolldehegaaGreatDoor
open Go.Ev
section
variable {ops:Array Oper} {l:List Oper} {dst:Option Nat} {st:St} {Q:St->Prop} {d g p:Nat} {es:List Ent} {t:List UInt8} {D:Int}
theorem sess_Set_full {m:Nat} {cs:List SV} (ht:t.length<=1048576) (hn:nameP t=true) (hp:PosAt es t p) (hl:es.length<=100000) (h16:16<=es.length) (hat:isAt es t p=false) {tl:TV} (htl:tl = .sv (.sl m cs)\/(tl = .nil/\m=0/\cs=[])) (h:SessR st d g es D)
  (k : ∀st',Keep d st st'->SessR st' d g es D->WO CX false ops l (st'.putO dst (.sv (.int .i64 7))) Q) :
  WN CX ops l dst st Q 68 [.ptr d g 0,.sv (.str (bs t)),tl]:=by
 have nm:=sess_Name t ht
 rw[hn]at nm
 have hd':2000000<=d:=h.ob
 have hpt:plV tl=true:=by rcases htl with rfl|⟨rfl,_,_⟩<;>rfl
 have hpl:plV (.ptr d g 0)=true:=pl_ob h.ob
 refine wni Tryz.f68 ?_;unfold Tryz.f68;simp only[Option.get!_some]
 repeat (first|simp only[go_sem,hd',Bool.not_true]|simp (disch:=first|exact oa|fail) only[AX,hd',Bool.not_true]|refine wki ?_|refine wqn ?_|refine vpd 10 [2] ?_|refine vf_of (by first|exact nm) ?_)
 refine sess_at hp hl (h.of rfl (fun _=>rfl) (Nat.le_refl _)) ?_
 intro s1 hk hs1
 have k0:s1.tmp 0 = .ptr d g 0:=hk.tmp 0 hpl
 have k2:s1.tmp 2=tl:=hk.tmp 2 hpt
 have hu:=hk.kp
 clear hk h
 have hm:256<m \/ ¬256<m:=by omega
 rcases htl with rfl|⟨rfl,rfl,rfl⟩
 all_goals
  have hs:=hs1
  obtain⟨_,hrow⟩:=hs1
  rcases hrow with⟨rfl,ho⟩|⟨g1,hg1,ho,hobj⟩
  ·simp at h16
  rcases hm with hm|hm
  ·repeat (first|simp only[go_sem,hd',k0,k2,hat,ho,hobj,Bool.not_true,Bool.not_false]|simp (disch:=first|exact oa|fail) only[AX,hd',k0,k2,hat,ho,hobj,Bool.not_true,Bool.not_false]|refine wki ?_|refine wqn ?_|refine vpd 10 [2] ?_)
   exact k _ (keep_of (by repeat (first|exact Kp.refl|exact hu|refine Kp.trans ?_ hu|refine Kp.put ?_|refine Kp.setH ?_|refine Kp.newset ?_|refine Kp.set rfl ?_|refine Kp.set (by assumption) ?_|refine Kp.new ?_|refine Kp.grow rfl ?_|refine Kp.frzd rfl ?_|refine Kp.ins rfl ?_))) (hs.of rfl (fun _=>rfl) (Nat.le_refl _))
  ·repeat (first|simp only[go_sem,hd',k0,k2,hat,ho,hobj,Bool.not_true,Bool.not_false]|simp (disch:=first|exact oa|fail) only[AX,hd',k0,k2,hat,ho,hobj,Bool.not_true,Bool.not_false]|refine wki ?_|refine wqn ?_|refine vpd 10 [2] ?_)
   exact k _ (keep_of (by repeat (first|exact Kp.refl|exact hu|refine Kp.trans ?_ hu|refine Kp.put ?_|refine Kp.setH ?_|refine Kp.newset ?_|refine Kp.set rfl ?_|refine Kp.set (by assumption) ?_|refine Kp.new ?_|refine Kp.grow rfl ?_|refine Kp.frzd rfl ?_|refine Kp.ins rfl ?_))) (hs.of rfl (fun _=>rfl) (Nat.le_refl _))
def namC (es:List Ent):List SV:=es.map fun e => .str (bs e.1)
end
end Go.Proofs.YtcfjiolldehegaaGreatDoor
namespace Go.Proofs.YtcfjiolldehegaaGreatDoor
open Go.Ev
section
variable {ops:Array Oper} {l:List Oper} {dst:Option Nat} {st:St} {Q:St->Prop} {d g p:Nat} {es:List Ent} {t:List UInt8} {D:Int}
theorem sess_Get_noneS (hp:PosAt es t p) (hl:es.length<=100000) (hat:isAt es t p=false) (h:SessR st d g es D)
  (k : ∀st',Same st st'->WO CX false ops l (st'.putO dst (.sv (.tup [.sl 0 [],.int .i64 6]))) Q) :
  WN CX ops l dst st Q 102 [.ptr d g 0,.sv (.str (bs t))]:=by
 have hd':2000000<=d:=h.ob
 have hpl:plV (.ptr d g 0)=true:=pl_ob h.ob
 refine wni Tryz.f102 ?_;unfold Tryz.f102;simp only[Option.get!_some]
 repeat (first|simp only[go_sem,hd']|simp (disch:=first|exact oa|fail) only[AX,hd']|refine wki ?_|refine wqn ?_)
 refine sess_atS hp hl (h.of rfl (fun _=>rfl) (Nat.le_refl _)) ?_
 intro s1 hk
 have k0:s1.tmp 0 = .ptr d g 0:=hk.tmp 0
 repeat (first|simp only[go_sem,hd',k0,hat,Bool.not_false]|simp (disch:=first|exact oa|fail) only[AX,hd',k0,hat,Bool.not_false]|refine wki ?_|refine wqn ?_)
 exact k _ (same_leave (vs:=[.ptr d g 0,.sv (.str (bs t))]) hk rfl rfl rfl rfl rfl rfl rfl rfl)
theorem sess_Set_name {tl:TV} (ht:t.length<=1048576) (hn:nameP t=false) (h:SessR st d g es D)
  (k : ∀st',Keep d st st'->SessR st' d g es D->WO CX false ops l (st'.putO dst (.sv (.int .i64 6))) Q) :
  WN CX ops l dst st Q 68 [.ptr d g 0,.sv (.str (bs t)),tl]:=by
 have nm:=sess_Name t ht
 rw[hn]at nm
 have hd':2000000<=d:=h.ob
 refine wni Tryz.f68 ?_;unfold Tryz.f68;simp only[Option.get!_some]
 repeat (first|simp only[go_sem,hd',Bool.not_false]|simp (disch:=first|exact oa|fail) only[AX,hd',Bool.not_false]|refine wki ?_|refine wqn ?_|refine vpd 10 [2] ?_|refine vf_of (by first|exact nm) ?_)
 exact k _ (keep_of (by repeat (first|exact Kp.refl|refine Kp.put ?_|refine Kp.setH ?_|refine Kp.newset ?_|refine Kp.set rfl ?_|refine Kp.set (by assumption) ?_|refine Kp.new ?_|refine Kp.grow rfl ?_|refine Kp.frzd rfl ?_|refine Kp.ins rfl ?_))) (h.of rfl (fun _=>rfl) (Nat.le_refl _))
theorem sess_Let_name {x:List UInt8} (ht:t.length<=1048576) (hn:nameP t=false) (h:SessR st d g es D)
  (k : ∀st',Keep d st st'->SessR st' d g es D->WO CX false ops l (st'.putO dst (.sv (.int .i64 6))) Q) :
  WN CX ops l dst st Q 36 [.ptr d g 0,.sv (.str (bs t)),.sv (.str (bs x))]:=by
 have nm:=sess_Name t ht
 rw[hn]at nm
 have hd':2000000<=d:=h.ob
 refine wni Tryz.f36 ?_;unfold Tryz.f36;simp only[Option.get!_some]
 repeat (first|simp only[go_sem,hd',Bool.not_false]|simp (disch:=first|exact oa|fail) only[AX,hd',Bool.not_false]|refine wki ?_|refine wqn ?_|refine vf_of (by first|exact nm) ?_)
 exact k _ (keep_of (by repeat (first|exact Kp.refl|refine Kp.put ?_|refine Kp.setH ?_|refine Kp.newset ?_|refine Kp.set rfl ?_|refine Kp.set (by assumption) ?_|refine Kp.new ?_|refine Kp.grow rfl ?_|refine Kp.frzd rfl ?_|refine Kp.ins rfl ?_))) (h.of rfl (fun _=>rfl) (Nat.le_refl _))
theorem sess_Set_long {m:Nat} {cs:List SV} (ht:t.length<=1048576) (hn:nameP t=true) (hp:PosAt es t p) (hl:es.length<=100000) (hm:256<m) (h:SessR st d g es D)
  (k : ∀st',Keep d st st'->SessR st' d g es D->WO CX false ops l (st'.putO dst (.sv (.int .i64 7))) Q) :
  WN CX ops l dst st Q 68 [.ptr d g 0,.sv (.str (bs t)),.sv (.sl m cs)]:=by
 have nm:=sess_Name t ht
 rw[hn]at nm
 have hd':2000000<=d:=h.ob
 have hpl:plV (.ptr d g 0)=true:=pl_ob h.ob
 refine wni Tryz.f68 ?_;unfold Tryz.f68;simp only[Option.get!_some]
 repeat (first|simp only[go_sem,hd',Bool.not_true]|simp (disch:=first|exact oa|fail) only[AX,hd',Bool.not_true]|refine wki ?_|refine wqn ?_|refine vpd 10 [2] ?_|refine vf_of (by first|exact nm) ?_)
 refine sess_at hp hl (h.of rfl (fun _=>rfl) (Nat.le_refl _)) ?_
 intro s1 hk hs1
 have k0:s1.tmp 0 = .ptr d g 0:=hk.tmp 0 hpl
 have k2:s1.tmp 2 = .sv (.sl m cs):=hk.tmp 2 rfl
 have hu:=hk.kp
 clear hk h
 have hs:=hs1
 obtain⟨_,hrow⟩:=hs1
 generalize isAt es t p=b at *
 rcases hrow with⟨rfl,ho⟩|⟨g1,hg1,ho,hobj⟩
 all_goals
  cases b
  all_goals
   repeat (first|simp only[go_sem,hd',k0,k2,ho,Bool.not_true,Bool.not_false]|simp (disch:=first|exact oa|fail) only[AX,hd',k0,k2,ho,Bool.not_true,Bool.not_false]|refine wki ?_|refine wqn ?_|refine vpd 10 [2] ?_)
   exact k _ (keep_of (by repeat (first|exact Kp.refl|exact hu|refine Kp.trans ?_ hu|refine Kp.put ?_|refine Kp.setH ?_|refine Kp.newset ?_|refine Kp.set rfl ?_|refine Kp.set (by assumption) ?_|refine Kp.new ?_|refine Kp.grow rfl ?_|refine Kp.frzd rfl ?_|refine Kp.ins rfl ?_))) (hs.of rfl (fun _=>rfl) (Nat.le_refl _))
end
end Go.Proofs.YtcfjiolldehegaaGreatDoor
namespace Go.Proofs.YtcfjiolldehegaaGreatDoor
open Go.Ev Go.RowKit Go.WideShapes
abbrev InR:=Bool×List Nat×List Nat
def InR.cells (p:InR):List SV:=[.bool p.1,natV p.2.1,natV p.2.2]
def InR.q (p:InR):Rat:=mkRat (sgn p.1 (wth p.2.1)) (wth p.2.2)
def InR.ok (p:InR):Prop:=okL p.2.1/\okL p.2.2
def ratsC (ps:List InR):List SV:=ps.flatMap InR.cells
abbrev rowV (ps:List InR):SV := .sl ps.length (ratsC ps)
end Go.Proofs.YtcfjiolldehegaaGreatDoor
namespace Go.Proofs.YtcfjiolldehegaaGreatDoor
open Go.Ev
structure ActI where
 k:Int
 t:List UInt8
 x:List UInt8
 ps:List InR
 n:Int
 deriving Inhabited
def ActI.cells (a:ActI):List SV:=[.int .i64 a.k,.str (bs a.t),.str (bs a.x),rowV a.ps,.int .i64 a.n]
end Go.Proofs.YtcfjiolldehegaaGreatDoor
namespace Go.Proofs.YtcfjiolldehegaaGreatDoor
open Go.Ev
theorem cb_swap : ∀a b:List UInt8,Lib.compareBytes b a = - Lib.compareBytes a b
 | [],[]=>rfl
 | [],_::_=>rfl
 |_::_,[]=>rfl
 |x::a,y::b=>by
  unfold Lib.compareBytes
  by_cases h1:x<y
  ·rw[if_neg (by rw[UInt8.lt_iff_toNat_lt]at *;omega),if_pos h1,if_pos h1];rfl
  ·by_cases h2:y<x
   ·rw[if_pos h2,if_neg h1,if_pos h2]
   ·rw[if_neg h2,if_neg h1,if_neg h1,if_neg h2,cb_swap a b]
theorem cb_trans : ∀ {a b c:List UInt8},Lib.compareBytes a b<0->Lib.compareBytes b c<0->Lib.compareBytes a c<0
 | [],[],_,h,_=>by simp[Lib.compareBytes]at h
 | [],_::_,[],_,h=>by simp[Lib.compareBytes]at h
 | [],_::_,_::_,_,_=>by simp[Lib.compareBytes]
 |_::_,[],_,h,_=>by simp[Lib.compareBytes]at h
 |_::_,_::_,[],_,h=>by simp[Lib.compareBytes]at h
 |x::a,y::b,z::c,h,k=>by
  unfold Lib.compareBytes at h k ⊢
  by_cases h1:x<y
  ·by_cases k1:y<z
   ·rw[if_pos (by rw[UInt8.lt_iff_toNat_lt]at *;omega)];decide
   ·rw[if_neg k1]at k
    by_cases k2:z<y
    ·rw[if_pos k2]at k;simp at k
    ·have:y=z:=by
      apply UInt8.toNat.inj
      rw[UInt8.lt_iff_toNat_lt]at *;omega
     subst this
     rw[if_pos h1];decide
  ·rw[if_neg h1]at h
   by_cases h2:y<x
   ·rw[if_pos h2]at h;simp at h
   ·rw[if_neg h2]at h
    have:x=y:=by
     apply UInt8.toNat.inj
     rw[UInt8.lt_iff_toNat_lt]at *;omega
    subst this
    by_cases k1:x<z
    ·rw[if_pos k1];decide
    ·rw[if_neg k1]at k ⊢
     by_cases k2:z<x
     ·rw[if_pos k2]at k;simp at k
     ·rw[if_neg k2]at k ⊢
      exact cb_trans h k
theorem cmp_zero0 : ∀ {a b:List UInt8},Lib.compareBytes a b=0->a=b
 | [],[],_=>rfl
 | [],_::_,h=>by simp[Lib.compareBytes]at h
 |_::_,[],h=>by simp[Lib.compareBytes]at h
 |x::a,y::b,h=>by
  unfold Lib.compareBytes at h
  split at h
  ·cases h
  ·rename_i h1
   split at h
   ·cases h
   ·rename_i h2
    have e:x=y:=UInt8.le_antisymm (UInt8.not_lt.1 h2) (UInt8.not_lt.1 h1)
    rw[e,cmp_zero0 h]
def Srt (es:List Ent):Prop:=es.Pairwise fun a b=>Lib.compareBytes a.1 b.1<0
theorem pos_ex : ∀ {es:List Ent},Srt es -> ∀t:List UInt8,∃p,PosAt es t p
 | [],_,t=>⟨0,by simp,fun k h=>absurd h (Nat.not_lt_zero k),fun k _ h=>absurd h (Nat.not_lt_zero k)⟩
 |e::es,h,t=>by
  unfold Srt at h
  rw[List.pairwise_cons]at h
  by_cases hc:Lib.compareBytes e.1 t<0
  ·obtain⟨p,h1,h2,h3⟩:=pos_ex h.2 t
   refine⟨p+1,by simpa using h1,fun k hk => ?_,fun k hk hk2 => ?_⟩
   ·cases k with
    |zero=>exact hc
    |succ k=>exact h2 k (by omega)
   ·cases k with
    |zero=>omega
    |succ k=>exact h3 k (by omega) (by simpa using hk2)
  ·refine⟨0,by simp,fun k hk=>absurd hk (Nat.not_lt_zero k),fun k _ hk2 hlt => ?_⟩
   cases k with
   |zero=>exact hc hlt
   |succ k=>
    have hk3:k<es.length:=by simpa using hk2
    have hm:es.getD k default∈es:=by
     rw[List.getD_eq_getElem?_getD,List.getElem?_eq_getElem hk3]
     exact List.getElem_mem hk3
    exact hc (cb_trans (h.1 _ hm) hlt)
theorem take_mem {es:List Ent} {p:Nat} {x:Ent} (h:x∈es.take p) : ∃k,k<p/\k<es.length/\es.getD k default=x:=by
 obtain⟨k,hk,e⟩:=List.mem_iff_getElem.1 h
 have hk':k<p/\k<es.length:=by rw[List.length_take]at hk;omega
 refine⟨k,hk'.1,hk'.2,?_⟩
 rw[List.getD_eq_getElem?_getD,List.getElem?_eq_getElem hk'.2]
 rw[List.getElem_take]at e
 exact e
theorem drop_mem {es:List Ent} {p:Nat} {x:Ent} (h:x∈es.drop p) : ∃k,p<=k/\k<es.length/\es.getD k default=x:=by
 obtain⟨k,hk,e⟩:=List.mem_iff_getElem.1 h
 have hk':p+k<es.length:=by rw[List.length_drop]at hk;omega
 refine⟨p+k,by omega,hk',?_⟩
 rw[List.getD_eq_getElem?_getD,List.getElem?_eq_getElem hk']
 rw[List.getElem_drop]at e
 exact e
theorem srt_ins {es:List Ent} {t:List UInt8} {p m:Nat} {cs:List SV} (h:Srt es) (hp:PosAt es t p) (hat:isAt es t p=false):Srt (insE es p (t,m,cs)):=by
 have hgt : ∀x∈es.drop p,Lib.compareBytes t x.1<0:=by
  intro x hx
  obtain⟨k,h1,h2,rfl⟩:=drop_mem hx
  have hk:=hp.hi k h1 h2
  unfold cmpAt at hk
  rw[cb_swap]
  have hne:Lib.compareBytes (es.getD k default).1 t≠0:=by
   intro e0
   by_cases hkp:k=p
   ·subst hkp
    unfold isAt cmpAt at hat
    rw[decide_eq_true h2,Bool.true_and,e0]at hat
    cases hat
   ·have hlt:Lib.compareBytes (es.getD p default).1 (es.getD k default).1<0:=by
     have:=List.pairwise_iff_getElem.1 h p k (by omega) h2 (by omega)
     rw[List.getD_eq_getElem?_getD,List.getElem?_eq_getElem (show p<es.length by omega),List.getD_eq_getElem?_getD,List.getElem?_eq_getElem h2]
     exact this
    have hp':=hp.hi p (Nat.le_refl _) (by omega)
    unfold cmpAt at hp'
    rw[cmp_zero0 e0]at hlt
    exact hp' hlt
  omega
 unfold Srt insE
 rw[List.pairwise_append,List.pairwise_cons]
 refine⟨List.Pairwise.sublist (List.take_sublist p es) h,⟨hgt,List.Pairwise.sublist (List.drop_sublist p es) h⟩,fun a ha b hb => ?_⟩
 obtain⟨k,h1,h2,rfl⟩:=take_mem ha
 have hk:=hp.lo k h1
 unfold cmpAt at hk
 rcases List.mem_cons.1 hb with rfl|hb
 ·exact hk
 ·exact cb_trans hk (hgt b hb)
theorem srt_set {es:List Ent} {t:List UInt8} {p m:Nat} {cs:List SV} (h:Srt es) (hn:(es.getD p default).1=t) (hp:p<es.length):Srt (es.set p (t,m,cs)):=by
 have e:(es.set p (t,m,cs)).map (·.1)=es.map (·.1):=by
  rw[List.map_set]
  refine List.ext_getElem? fun k => ?_
  rw[List.getElem?_set]
  split
  ·rename_i e
   subst e
   rw[if_pos (by simpa using hp),List.getElem?_map,List.getElem?_eq_getElem hp]
   rw[List.getD_eq_getElem?_getD,List.getElem?_eq_getElem hp]at hn
   simpa using hn.symm
  ·rfl
 unfold Srt at h ⊢
 have h1:=(List.pairwise_map (f:=fun e:Ent=>e.1) (R:=fun a b=>Lib.compareBytes a b<0)).2 h
 rw[<- e]at h1
 exact(List.pairwise_map (f:=fun e:Ent=>e.1) (R:=fun a b=>Lib.compareBytes a b<0)).1 h1
end Go.Proofs.YtcfjiolldehegaaGreatDoor
namespace Go.Proofs.YtcfjiolldehegaaGreatDoor
open Go.Ev
section
variable {ops:Array Oper} {l:List Oper} {dst:Option Nat} {st:St} {Q:St->Prop} {d g p:Nat} {es:List Ent} {t:List UInt8} {D:Int}
end
end Go.Proofs.YtcfjiolldehegaaGreatDoor
namespace Go.Proofs.YtcfjiolldehegaaGreatDoor
open Go.Ev
end Go.Proofs.YtcfjiolldehegaaGreatDoor
namespace Go.Proofs.YtcfjiolldehegaaGreatDoor
open Go.Ev
end Go.Proofs.YtcfjiolldehegaaGreatDoor
namespace Go.Proofs.YtcfjiolldehegaaGreatDoor
open Go.Ev
def TD (n:Nat):Bool:=Nat.beq n 16||(Nat.beq n 35||(Nat.beq n 50||(Nat.beq n 59||Nat.beq n 70)))
def rowL (es:List Ent):List SV:=es.map fun e => .sl e.2.1 e.2.2
structure SessD (st:St) (d g:Nat) (es:List Ent) (D:Int):Prop where
 ob:H0<=d
 row:(es=[]/\st.hob d g=some [.nil,.nil,.sv (.int .i64 D)]) \/ ∃dn gn dl gl,(dn=16\/dn=59)/\(dl=35\/dl=70)/\gn<st.gen dn/\gl<st.gen dl /\
  st.hob d g=some [.ref dn gn 1 0 es.length,.ref dl gl 1 0 es.length,.sv (.int .i64 D)]/\st.obj dn gn=some (namC es)/\st.obj dl gl=some (rowL es)
theorem SessD.same {st s:St} {d g:Nat} {es:List Ent} {D:Int} (h:SessD st d g es D) (h1:s.hob=st.hob) (h2:s.obj=st.obj) (h3:s.gen=st.gen):SessD s d g es D:=by
 obtain⟨a,b⟩:=h
 refine⟨a,?_⟩
 rw[h1,h2,h3]
 exact b
theorem SessD.keep {st s:St} {d d' g:Nat} {es:List Ent} {D:Int} (h:SessD st d g es D) (k:Kp TP d' st s) (hd:d≠d'):SessD s d g es D:=by
 obtain⟨ho,hrow⟩:=h
 refine⟨ho,?_⟩
 rcases hrow with⟨e,h1⟩|⟨dn,gn,dl,gl,en,el,gn1,gl1,h1,h2,h3⟩
 ·refine .inl ⟨e,k.hob d g _ hd h1 fun t ht => ?_⟩
  simp only[List.mem_cons,List.not_mem_nil,or_false]at ht
  rcases ht with rfl|rfl|rfl<;>rfl
 ·refine .inr ⟨dn,gn,dl,gl,en,el,Nat.lt_of_lt_of_le gn1 (k.gen _),Nat.lt_of_lt_of_le gl1 (k.gen _),k.hob d g _ hd h1 fun t ht => ?_,(k.obj dn gn ?_ gn1).trans h2,(k.obj dl gl ?_ gl1).trans h3⟩
  ·simp only[List.mem_cons,List.not_mem_nil,or_false]at ht
   rcases ht with rfl|rfl|rfl
   ·rcases en with rfl|rfl<;>rfl
   ·rcases el with rfl|rfl<;>rfl
   ·rfl
  ·rcases en with rfl|rfl<;>rfl
  ·rcases el with rfl|rfl<;>rfl
theorem SessR.keep {st s:St} {d d' g:Nat} {es:List Ent} {D:Int} (h:SessR st d g es D) (k:Kp TD d' st s) (hd:d≠d'):SessR s d g es D:=by
 obtain⟨ho,hrow⟩:=h
 refine⟨ho,?_⟩
 rcases hrow with⟨e,h1⟩|⟨g1,hg1,h1,h2⟩
 ·refine .inl ⟨e,k.hob d g _ hd h1 fun t ht => ?_⟩
  simp only[List.mem_cons,List.not_mem_nil,or_false]at ht
  rcases ht with rfl|rfl<;>rfl
 ·refine .inr ⟨g1,Nat.lt_of_lt_of_le hg1 (k.gen _),k.hob d g _ hd h1 fun t ht => ?_,(k.obj 25 g1 rfl hg1).trans h2⟩
  simp only[List.mem_cons,List.not_mem_nil,or_false]at ht
  rcases ht with rfl|rfl<;>rfl
section
variable {ops:Array Oper} {l:List Oper} {dst:Option Nat} {st:St} {Q:St->Prop} {d g p:Nat} {es:List Ent} {t:List UInt8} {D:Int}
end
end Go.Proofs.YtcfjiolldehegaaGreatDoor
namespace Go.Proofs.YtcfjiolldehegaaGreatDoor
open Go.Ev
end Go.Proofs.YtcfjiolldehegaaGreatDoor
set_option maxHeartbeats 4000000
namespace Go.Proofs.YtcfjiolldehegaaGreatDoor
open Go.Ev
section
variable {ops:Array Oper} {l:List Oper} {dst:Option Nat} {st:St} {Q:St->Prop} {d g p:Nat} {es:List Ent} {t:List UInt8} {D:Int}
end
end Go.Proofs.YtcfjiolldehegaaGreatDoor
set_option maxHeartbeats 4000000
namespace Go.Proofs.YtcfjiolldehegaaGreatDoor
open Go.Ev
section
variable {ops:Array Oper} {l:List Oper} {dst:Option Nat} {st:St} {Q:St->Prop} {d g p:Nat} {es:List Ent} {t:List UInt8} {D:Int}
end
end Go.Proofs.YtcfjiolldehegaaGreatDoor
set_option maxHeartbeats 4000000
namespace Go.Proofs.YtcfjiolldehegaaGreatDoor
open Go.Ev
section
variable {ops:Array Oper} {l:List Oper} {dst:Option Nat} {st:St} {Q:St->Prop} {d g p:Nat} {es:List Ent} {t:List UInt8} {D:Int}
end
end Go.Proofs.YtcfjiolldehegaaGreatDoor
namespace Go.Proofs.YtcfjiolldehegaaGreatDoor
open Go.Ev
def setP (es:List Ent) (t:List UInt8) (p m:Nat) (rs:List SV):Int×List Ent:=
 if nameP t=false then (6,es) else if 256<m\/(isAt es t p=false/\16<=es.length) then (7,es) else if isAt es t p=true then (0,es.set p (t,m,rs)) else (0,insE es p (t,m,rs))
theorem at_lt {es:List Ent} {t:List UInt8} {p:Nat} (h:isAt es t p=true):p<es.length:=by
 unfold isAt at h
 rw[Bool.and_eq_true]at h
 exact of_decide_eq_true h.1
theorem setP_ok {es:List Ent} {t:List UInt8} {p m:Nat} {rs:List SV} (hs:Srt es) (hl:es.length<=16) (hp:PosAt es t p):Srt (setP es t p m rs).2/\(setP es t p m rs).2.length<=16:=by
 unfold setP
 split
 ·exact⟨hs,hl⟩
 ·split
  ·exact⟨hs,hl⟩
  ·rename_i h7
   split
   ·rename_i hat
    exact⟨srt_set hs (name_at hat) (at_lt hat),by rw[List.length_set];exact hl⟩
   ·rename_i hat
    have hat:isAt es t p=false:=by simpa using hat
    refine⟨srt_ins hs hp hat,?_⟩
    show (insE es p (t,m,rs)).length<=16
    rw[insE_len hp.le]
    have : ¬16<=es.length:=fun h=>h7 (.inr ⟨hat,h⟩)
    omega
section
variable {ops:Array Oper} {l:List Oper} {dst:Option Nat} {st:St} {Q:St->Prop} {d g p:Nat} {es:List Ent} {t:List UInt8} {D:Int}
theorem sess_Set_is {m:Nat} {cs rs:List SV} (ht:t.length<=1048576) (h16:es.length<=16) (hp:PosAt es t p) (hc:m<=256->Go.Ev.Fn CX 129 [.sl m cs] (.sl m rs)) (h:SessR st d g es D)
  (k : ∀st',Keep d st st'->SessR st' d g (setP es t p m rs).2 D->WO CX false ops l (st'.putO dst (.sv (.int .i64 (setP es t p m rs).1))) Q) :
  WN CX ops l dst st Q 68 [.ptr d g 0,.sv (.str (bs t)),.sv (.sl m cs)]:=by
 unfold setP at k
 cases hn:nameP t with
 |false=>
  rw[hn,if_pos rfl]at k
  exact sess_Set_name ht hn h k
 |true=>
  rw[hn,if_neg (by simp)]at k
  by_cases hm:256<m
  ·rw[if_pos (.inl hm)]at k
   exact sess_Set_long ht hn hp (by omega) hm h k
  ·cases hat:isAt es t p with
   |true=>
    rw[hat,if_neg (by simp[hm]),if_pos rfl]at k
    exact sess_Set_at ht hn hp (by omega) (by omega) hat (hc (by omega)) (.inl rfl) h k
   |false=>
    rw[hat]at k
    by_cases hf:es.length<16
    ·rw[if_neg (by simp[hm];omega),if_neg (by simp)]at k
     exact sess_Set_new ht hn hp hat hf (by omega) (hc (by omega)) (.inl rfl) h k
    ·rw[if_pos (.inr ⟨rfl,by omega⟩)]at k
     exact sess_Set_full ht hn hp (by omega) (by omega) hat (.inl rfl) h k
end
end Go.Proofs.YtcfjiolldehegaaGreatDoor
namespace Go.Ev
end Go.Ev
set_option maxHeartbeats 4000000
namespace Go.Proofs.YtcfjiolldehegaaGreatDoor
open Go.Ev
end Go.Proofs.YtcfjiolldehegaaGreatDoor
namespace Go.Proofs.YtcfjiolldehegaaGreatDoor
open Go.Ev
end Go.Proofs.YtcfjiolldehegaaGreatDoor
set_option maxHeartbeats 4000000
namespace Go.Proofs.YtcfjiolldehegaaGreatDoor
open Go.Ev
end Go.Proofs.YtcfjiolldehegaaGreatDoor
set_option maxHeartbeats 4000000
namespace Go.Proofs.YtcfjiolldehegaaGreatDoor
open Go.Ev
end Go.Proofs.YtcfjiolldehegaaGreatDoor
set_option maxHeartbeats 4000000
namespace Go.Proofs.YtcfjiolldehegaaGreatDoor
open Go.Ev
end Go.Proofs.YtcfjiolldehegaaGreatDoor
set_option maxHeartbeats 4000000
namespace Go.Proofs.YtcfjiolldehegaaGreatDoor
open Go.Ev
def letP (es:List Ent) (t x:List UInt8) (p:Nat):Int×List Ent:=
 if nameP t=false then (6,es) else if (parseP x).1=0 then setP es t p (parseP x).2.length (rvsC (parseP x).2) else ((parseP x).1,es)
theorem letP_ok {es:List Ent} {t x:List UInt8} {p:Nat} (hs:Srt es) (hl:es.length<=16) (hp:PosAt es t p):Srt (letP es t x p).2/\(letP es t x p).2.length<=16:=by
 unfold letP
 split
 ·exact⟨hs,hl⟩
 ·split
  ·exact setP_ok hs hl hp
  ·exact⟨hs,hl⟩
section
variable {ops:Array Oper} {l:List Oper} {dst:Option Nat} {st:St} {Q:St->Prop} {d g p:Nat} {es:List Ent} {t:List UInt8} {D:Int}
theorem sess_Let_is {x:List UInt8} (ht:t.length<=1048576) (hx:x.length<=100000) (h16:es.length<=16) (hp:PosAt es t p) (h:SessR st d g es D)
  (k : ∀st',Keep d st st'->SessR st' d g (letP es t x p).2 D->WO CX false ops l (st'.putO dst (.sv (.int .i64 (letP es t x p).1))) Q) :
  WN CX ops l dst st Q 36 [.ptr d g 0,.sv (.str (bs t)),.sv (.str (bs x))]:=by
 unfold letP at k
 cases hn:nameP t with
 |false=>
  rw[hn,if_pos rfl]at k
  exact sess_Let_name ht hn h k
 |true=>
  rw[hn,if_neg (by simp)]at k
  have nm:=sess_Name t ht
  rw[hn]at nm
  have hP:=data_Parse x hx
  have hz : ∀q∈(parseP x).2,szR q 500:=parse_sz
  have hd':2000000<=d:=h.ob
  generalize parseP x=r at *
  obtain⟨e,qs⟩:=r
  have hc:qs.length<=256->Go.Ev.Fn CX 129 [.sl qs.length (rvsC qs)] (.sl qs.length (rvsC qs)):=fun hm=>sess_copied (rvsC_row (L:=500) qs hz) (by omega) (by omega) (by omega)
  dsimp only at k
  refine wni Tryz.f36 ?_;unfold Tryz.f36;simp only[Option.get!_some]
  by_cases he:e=0
  ·subst he
   rw[if_pos rfl]at k
   repeat (first|simp only[go_sem,hd',Bool.not_true]|simp (disch:=first|exact oa|fail) only[AX,hd',Bool.not_true]|refine wki ?_|refine wqn ?_|refine vf_of (by first|exact nm|exact hP) ?_)
   refine sess_Set_is ht h16 hp hc (h.of rfl (fun _=>rfl) (Nat.le_refl _)) ?_
   intro s1 hk hs1
   repeat (first|simp only[go_sem]|simp (disch:=first|exact oa|fail) only[AX]|refine wki ?_|refine wqn ?_)
   exact k _ (keep_of (by repeat (first|exact Kp.refl|exact hk.kp|refine Kp.trans ?_ hk.kp|refine Kp.put ?_|refine Kp.setH ?_|refine Kp.newset ?_|refine Kp.set rfl ?_|refine Kp.set (by assumption) ?_|refine Kp.new ?_|refine Kp.grow rfl ?_|refine Kp.frzd rfl ?_|refine Kp.ins rfl ?_))) (hs1.of rfl (fun _=>rfl) (Nat.le_refl _))
  ·rw[if_neg he]at k
   repeat (first|simp only[go_sem,hd',Bool.not_true]|simp (disch:=first|exact oa|fail) only[AX,hd',Bool.not_true]|refine wki ?_|refine wqn ?_|refine vf_of (by first|exact nm|exact hP) ?_)
   exact k _ (keep_of (by repeat (first|exact Kp.refl|refine Kp.put ?_|refine Kp.setH ?_|refine Kp.newset ?_|refine Kp.set rfl ?_|refine Kp.set (by assumption) ?_|refine Kp.new ?_|refine Kp.grow rfl ?_|refine Kp.frzd rfl ?_|refine Kp.ins rfl ?_))) (h.of rfl (fun _=>rfl) (Nat.le_refl _))
end
end Go.Proofs.YtcfjiolldehegaaGreatDoor
