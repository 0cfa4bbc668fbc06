/- Part 9 of the proof: the evaluator, contracts of functions and their plain laws (joined by program). No condition. -/
import Derived.Test.YtheclpmgipiejaaGreatDoorPart8
import Derived.WalkKit
import Derived.OwnWalkIn
import Derived.TacticsInMore
import Derived.RegionIn
import Derived.LoopNIn
import Derived.LoopIn
import Derived.RangeFuncSeq
import Derived.Lib.Builder
import Derived.Lib.Bytealg
import Derived.OrdersIn
import Derived.RangeFuncCalls
set_option linter.unusedVariables false
set_option linter.unusedSimpArgs false
set_option maxRecDepth 100000
set_option maxHeartbeats 4000000
namespace Go.Proofs.YtheclpmgipiejaaGreatDoor
open Go.Ev
theorem th65:(((65:UInt8).toNat:Nat):Int)=65:=_root_.id rfl
theorem th66:(((66:UInt8).toNat:Nat):Int)=66:=_root_.id rfl
theorem th77:(((77:UInt8).toNat:Nat):Int)=77:=_root_.id rfl
theorem th78:(((78:UInt8).toNat:Nat):Int)=78:=_root_.id rfl
theorem rv_form (q:Rat) : ∃s a1 b1 a2 b2,rv q = .agg [.bool s,.sl a1 b1,.sl a2 b2]:=⟨_,_,_,_,_,rfl⟩
theorem num_eq0 (n:Nat):((n:Int)==0)=decide (n=0):=by
 by_cases h:n=0
 ·rw[h];rfl
 ·rw[decide_eq_false h];simpa using h
theorem shapeP_cases (w:List UInt8):(shapeP w).1=0\/(shapeP w).1≠0/\((shapeP w).2=[65,66]\/(shapeP w).2=[65]\/(shapeP w).2=[78,65]\/(shapeP w).2=[78]\/(shapeP w).2=[78,77]):=by
 unfold shapeP
 repeat' split
 all_goals simp
theorem shapeP_len (w:List UInt8):(shapeP w).2.length<=2:=by
 unfold shapeP
 repeat' split
 all_goals simp
theorem doc_none:Go.Ev.Fn CX 5 [.sl 0 []] (.tup [.agg (zC 0),.sl 0 [],.bool false]):=by
 refine fni Tryz.f5 ?_;unfold Tryz.f5;simp only[Option.get!_some]
 repeat (first|simp only[go_sem]|simp (disch:=first|exact oa|fail) only[AX]|refine wki ?_|refine wqn ?_|refine vpd 23 [] ?_)
theorem doc_bad {w:List UInt8} {ws:List (List UInt8)} (hws:ws.length<=11) (h:(shapeP w).1=0\/ws.length<(shapeP w).2.length):Go.Ev.Fn CX 5 [.sl (ws.length+1) (wC (w::ws))] (.tup [.agg (zC 0),.sl 0 [],.bool false]):=by
 have hs:=ref23_shape w
 have hlen:=wC_len ws
 have hsl:=shapeP_len w
 by_cases c1:(shapeP w).1=0
 ·have e1:((shapeP w).1==0)=true:=by rw[c1];rfl
  refine fni Tryz.f5 ?_;unfold Tryz.f5;simp only[Option.get!_some]
  repeat (first|simp only[go_sem,wC_cons,e1]|simp (disch:=first|exact oa|fail) only[AX,wC_cons,e1]|refine wki ?_|refine wqn ?_|refine vpd 23 [] ?_|refine vf_of (by first|exact hs) ?_)
 ·have e1:((shapeP w).1==0)=false:=by simpa using c1
  refine fni Tryz.f5 ?_;unfold Tryz.f5;simp only[Option.get!_some]
  repeat (first|simp only[go_sem,wC_cons,e1,bs_size]|simp (disch:=first|exact oa|fail) only[AX,wC_cons,e1,bs_size]|refine wki ?_|refine wqn ?_|refine vpd 23 [] ?_|refine vf_of (by first|exact hs) ?_)
section
variable {w x y:List UInt8} {ws:List (List UInt8)} {k:Int} {s t:Bool} {a1 a2 p1 p2:Nat} {b1 b2 q1 q2:List SV}
theorem doc_A (hx:x.length<=100) (hws:ws.length<=10) (hs:shapeP w=(k,[65])) (hk:k≠0) (hv:rv (numP x).2 = .agg [.bool s,.sl a1 b1,.sl a2 b2]):Go.Ev.Fn CX 5 [.sl (ws.length+2) (wC (w::x::ws))] (if (numP x).1=0 then .tup [.agg (dC k 0 0 s a1 b1 a2 b2 false 0 [] 0 []),.sl ws.length (wC ws),.bool true] else .tup [.agg (zC 0),.sl 0 [],.bool false]):=by
 have hf:=ref23_shape w
 rw[hs]at hf
 have hn:=ref23_num x (by omega)
 have hd:=ref16_Number x (by omega)
 rw[hv]at hd
 have hlen:=wC_len ws
 have htk:=take_wC ws
 have e1:(k==0)=false:=by simpa using hk
 have e2:decide (((ws.length+2:Nat):Int)<2)=false:=decide_eq_false (by omega)
 have htk2:List.take (ws.length+1) (.str (bs x)::wC ws) = .str (bs x)::wC ws:=by rw[List.take_succ_cons,htk]
 have h0:=num_eq0 (numP x).1
 by_cases e:(numP x).1=0
 ·rw[if_pos e]
  rw[e]at hd
  clear h0
  refine fni Tryz.f5 ?_;unfold Tryz.f5;simp only[Option.get!_some]
  repeat (first|simp only[go_sem,wC_cons,e1,th65,th66,th77,th78,Nat.add_sub_cancel,htk2,bs_size,e2,Nat.reduceSubDiff,vo_ix,idxB_bs,List.getElem?_cons_zero,List.getElem?_cons_succ,Option.map_some,List.drop_zero,List.head?_cons,Int.reduceAdd,List.contains_nil,Bool.not_false,Bool.not_true,Int.zero_add,List.drop_succ_cons,List.length_cons,List.length_nil,htk]|simp (disch:=first|exact oa|fail) only[AX,wC_cons,e1,th65,th66,th77,th78,Nat.add_sub_cancel,htk2,bs_size,e2,Nat.reduceSubDiff,vo_ix,idxB_bs,List.getElem?_cons_zero,List.getElem?_cons_succ,Option.map_some,List.drop_zero,List.head?_cons,Int.reduceAdd,List.contains_nil,Bool.not_false,Bool.not_true,Int.zero_add,List.drop_succ_cons,List.length_cons,List.length_nil,htk]|refine wki ?_|refine wqn ?_|refine vpd 23 [] ?_|refine vf_of (by first|exact hf) ?_)
  rw[vp_loop]
  repeat (first|simp only[go_sem,th65,th66,th77,th78,wC_cons,e1,Nat.add_sub_cancel,htk2,bs_size,e2,Nat.reduceSubDiff,vo_ix,idxB_bs,List.getElem?_cons_zero,List.getElem?_cons_succ,Option.map_some,List.drop_zero,List.head?_cons,Int.reduceAdd,List.contains_nil,Bool.not_false,Bool.not_true,Int.zero_add,List.drop_succ_cons,List.length_cons,List.length_nil,htk]|simp (disch:=first|exact oa|fail) only[AX,th65,th66,th77,th78,wC_cons,e1,Nat.add_sub_cancel,htk2,bs_size,e2,Nat.reduceSubDiff,vo_ix,idxB_bs,List.getElem?_cons_zero,List.getElem?_cons_succ,Option.map_some,List.drop_zero,List.head?_cons,Int.reduceAdd,List.contains_nil,Bool.not_false,Bool.not_true,Int.zero_add,List.drop_succ_cons,List.length_cons,List.length_nil,htk]|refine wki ?_|refine wqn ?_|refine vpd 23 [] ?_|refine vf_of (by first|exact hn|exact hd) ?_)
  rw[vp_loop]
  repeat (first|simp only[go_sem,th65,th66,th77,th78,wC_cons,e1,Nat.add_sub_cancel,htk2,bs_size,e2,Nat.reduceSubDiff,vo_ix,idxB_bs,List.getElem?_cons_zero,List.getElem?_cons_succ,Option.map_some,List.drop_zero,List.head?_cons,Int.reduceAdd,List.contains_nil,Bool.not_false,Bool.not_true,Int.zero_add,List.drop_succ_cons,List.length_cons,List.length_nil,htk]|simp (disch:=first|exact oa|fail) only[AX,th65,th66,th77,th78,wC_cons,e1,Nat.add_sub_cancel,htk2,bs_size,e2,Nat.reduceSubDiff,vo_ix,idxB_bs,List.getElem?_cons_zero,List.getElem?_cons_succ,Option.map_some,List.drop_zero,List.head?_cons,Int.reduceAdd,List.contains_nil,Bool.not_false,Bool.not_true,Int.zero_add,List.drop_succ_cons,List.length_cons,List.length_nil,htk]|refine wki ?_|refine wqn ?_|refine vpd 23 [] ?_)
  show SV.sl (ws.length+2-2) (List.take (ws.length+2-2) (wC ws))=_
  rw[Nat.add_sub_cancel,htk]
 ·rw[if_neg e]
  rw[decide_eq_false e]at h0
  refine fni Tryz.f5 ?_;unfold Tryz.f5;simp only[Option.get!_some]
  repeat (first|simp only[go_sem,wC_cons,e1,th65,th66,th77,th78,Nat.add_sub_cancel,htk2,bs_size,e2,Nat.reduceSubDiff,vo_ix,idxB_bs,List.getElem?_cons_zero,List.getElem?_cons_succ,Option.map_some,List.drop_zero,List.head?_cons,Int.reduceAdd,List.contains_nil,Bool.not_false,Bool.not_true,Int.zero_add,List.drop_succ_cons,List.length_cons,List.length_nil,htk]|simp (disch:=first|exact oa|fail) only[AX,wC_cons,e1,th65,th66,th77,th78,Nat.add_sub_cancel,htk2,bs_size,e2,Nat.reduceSubDiff,vo_ix,idxB_bs,List.getElem?_cons_zero,List.getElem?_cons_succ,Option.map_some,List.drop_zero,List.head?_cons,Int.reduceAdd,List.contains_nil,Bool.not_false,Bool.not_true,Int.zero_add,List.drop_succ_cons,List.length_cons,List.length_nil,htk]|refine wki ?_|refine wqn ?_|refine vpd 23 [] ?_|refine vf_of (by first|exact hf) ?_)
  rw[vp_loop]
  repeat (first|simp only[go_sem,th65,th66,th77,th78,wC_cons,e1,Nat.add_sub_cancel,htk2,bs_size,e2,Nat.reduceSubDiff,vo_ix,idxB_bs,List.getElem?_cons_zero,List.getElem?_cons_succ,Option.map_some,List.drop_zero,List.head?_cons,Int.reduceAdd,List.contains_nil,Bool.not_false,Bool.not_true,Int.zero_add,List.drop_succ_cons,List.length_cons,List.length_nil,htk,h0]|simp (disch:=first|exact oa|fail) only[AX,th65,th66,th77,th78,wC_cons,e1,Nat.add_sub_cancel,htk2,bs_size,e2,Nat.reduceSubDiff,vo_ix,idxB_bs,List.getElem?_cons_zero,List.getElem?_cons_succ,Option.map_some,List.drop_zero,List.head?_cons,Int.reduceAdd,List.contains_nil,Bool.not_false,Bool.not_true,Int.zero_add,List.drop_succ_cons,List.length_cons,List.length_nil,htk,h0]|refine wki ?_|refine wqn ?_|refine vpd 23 [] ?_|refine vf_of (by first|exact hn|exact hd) ?_)
theorem doc_N (hx:x.length<=100) (hws:ws.length<=10) (hs:shapeP w=(k,[78])) (hk:k≠0):Go.Ev.Fn CX 5 [.sl (ws.length+2) (wC (w::x::ws))] (if (wholeP x).2=true then .tup [.agg (dC k (wholeP x).1 0 false 0 [] 0 [] false 0 [] 0 []),.sl ws.length (wC ws),.bool true] else .tup [.agg (zC 0),.sl 0 [],.bool false]):=by
 have hf:=ref23_shape w
 rw[hs]at hf
 have hn:=ref23_num x (by omega)
 have hd:=ref16_Number x (by omega)
 obtain⟨s,a1,b1,a2,b2,hv⟩:=rv_form (numP x).2
 rw[hv]at hd
 have hlen:=wC_len ws
 have htk:=take_wC ws
 have e1:(k==0)=false:=by simpa using hk
 have e2:decide (((ws.length+2:Nat):Int)<2)=false:=decide_eq_false (by omega)
 have htk2:List.take (ws.length+1) (.str (bs x)::wC ws) = .str (bs x)::wC ws:=by rw[List.take_succ_cons,htk]
 cases e:(wholeP x).2 with
 |true=>
  rw[if_pos rfl]
  rw[e]at hn
  refine fni Tryz.f5 ?_;unfold Tryz.f5;simp only[Option.get!_some]
  repeat (first|simp only[go_sem,wC_cons,e1,th65,th66,th77,th78,Nat.add_sub_cancel,htk2,bs_size,e2,Nat.reduceSubDiff,vo_ix,idxB_bs,List.getElem?_cons_zero,List.getElem?_cons_succ,Option.map_some,List.drop_zero,List.head?_cons,Int.reduceAdd,List.contains_nil,Bool.not_false,Bool.not_true,Int.zero_add,List.drop_succ_cons,List.length_cons,List.length_nil,htk]|simp (disch:=first|exact oa|fail) only[AX,wC_cons,e1,th65,th66,th77,th78,Nat.add_sub_cancel,htk2,bs_size,e2,Nat.reduceSubDiff,vo_ix,idxB_bs,List.getElem?_cons_zero,List.getElem?_cons_succ,Option.map_some,List.drop_zero,List.head?_cons,Int.reduceAdd,List.contains_nil,Bool.not_false,Bool.not_true,Int.zero_add,List.drop_succ_cons,List.length_cons,List.length_nil,htk]|refine wki ?_|refine wqn ?_|refine vpd 23 [] ?_|refine vf_of (by first|exact hf) ?_)
  rw[vp_loop]
  repeat (first|simp only[go_sem,th65,th66,th77,th78,wC_cons,e1,Nat.add_sub_cancel,htk2,bs_size,e2,Nat.reduceSubDiff,vo_ix,idxB_bs,List.getElem?_cons_zero,List.getElem?_cons_succ,Option.map_some,List.drop_zero,List.head?_cons,Int.reduceAdd,List.contains_nil,Bool.not_false,Bool.not_true,Int.zero_add,List.drop_succ_cons,List.length_cons,List.length_nil,htk]|simp (disch:=first|exact oa|fail) only[AX,th65,th66,th77,th78,wC_cons,e1,Nat.add_sub_cancel,htk2,bs_size,e2,Nat.reduceSubDiff,vo_ix,idxB_bs,List.getElem?_cons_zero,List.getElem?_cons_succ,Option.map_some,List.drop_zero,List.head?_cons,Int.reduceAdd,List.contains_nil,Bool.not_false,Bool.not_true,Int.zero_add,List.drop_succ_cons,List.length_cons,List.length_nil,htk]|refine wki ?_|refine wqn ?_|refine vpd 23 [] ?_|refine vf_of (by first|exact hn|exact hd) ?_)
  rw[vp_loop]
  repeat (first|simp only[go_sem,th65,th66,th77,th78,wC_cons,e1,Nat.add_sub_cancel,htk2,bs_size,e2,Nat.reduceSubDiff,vo_ix,idxB_bs,List.getElem?_cons_zero,List.getElem?_cons_succ,Option.map_some,List.drop_zero,List.head?_cons,Int.reduceAdd,List.contains_nil,Bool.not_false,Bool.not_true,Int.zero_add,List.drop_succ_cons,List.length_cons,List.length_nil,htk]|simp (disch:=first|exact oa|fail) only[AX,th65,th66,th77,th78,wC_cons,e1,Nat.add_sub_cancel,htk2,bs_size,e2,Nat.reduceSubDiff,vo_ix,idxB_bs,List.getElem?_cons_zero,List.getElem?_cons_succ,Option.map_some,List.drop_zero,List.head?_cons,Int.reduceAdd,List.contains_nil,Bool.not_false,Bool.not_true,Int.zero_add,List.drop_succ_cons,List.length_cons,List.length_nil,htk]|refine wki ?_|refine wqn ?_|refine vpd 23 [] ?_)
  show SV.sl (ws.length+2-2) (List.take (ws.length+2-2) (wC ws))=_
  rw[Nat.add_sub_cancel,htk]
 |false=>
  rw[if_neg (by decide)]
  rw[e]at hn
  refine fni Tryz.f5 ?_;unfold Tryz.f5;simp only[Option.get!_some]
  repeat (first|simp only[go_sem,wC_cons,e1,th65,th66,th77,th78,Nat.add_sub_cancel,htk2,bs_size,e2,Nat.reduceSubDiff,vo_ix,idxB_bs,List.getElem?_cons_zero,List.getElem?_cons_succ,Option.map_some,List.drop_zero,List.head?_cons,Int.reduceAdd,List.contains_nil,Bool.not_false,Bool.not_true,Int.zero_add,List.drop_succ_cons,List.length_cons,List.length_nil,htk]|simp (disch:=first|exact oa|fail) only[AX,wC_cons,e1,th65,th66,th77,th78,Nat.add_sub_cancel,htk2,bs_size,e2,Nat.reduceSubDiff,vo_ix,idxB_bs,List.getElem?_cons_zero,List.getElem?_cons_succ,Option.map_some,List.drop_zero,List.head?_cons,Int.reduceAdd,List.contains_nil,Bool.not_false,Bool.not_true,Int.zero_add,List.drop_succ_cons,List.length_cons,List.length_nil,htk]|refine wki ?_|refine wqn ?_|refine vpd 23 [] ?_|refine vf_of (by first|exact hf) ?_)
  rw[vp_loop]
  repeat (first|simp only[go_sem,th65,th66,th77,th78,wC_cons,e1,Nat.add_sub_cancel,htk2,bs_size,e2,Nat.reduceSubDiff,vo_ix,idxB_bs,List.getElem?_cons_zero,List.getElem?_cons_succ,Option.map_some,List.drop_zero,List.head?_cons,Int.reduceAdd,List.contains_nil,Bool.not_false,Bool.not_true,Int.zero_add,List.drop_succ_cons,List.length_cons,List.length_nil,htk]|simp (disch:=first|exact oa|fail) only[AX,th65,th66,th77,th78,wC_cons,e1,Nat.add_sub_cancel,htk2,bs_size,e2,Nat.reduceSubDiff,vo_ix,idxB_bs,List.getElem?_cons_zero,List.getElem?_cons_succ,Option.map_some,List.drop_zero,List.head?_cons,Int.reduceAdd,List.contains_nil,Bool.not_false,Bool.not_true,Int.zero_add,List.drop_succ_cons,List.length_cons,List.length_nil,htk]|refine wki ?_|refine wqn ?_|refine vpd 23 [] ?_|refine vf_of (by first|exact hn|exact hd) ?_)
theorem doc_AB (hx:x.length<=100) (hy:y.length<=100) (hws:ws.length<=9) (hs:shapeP w=(k,[65,66])) (hk:k≠0) (hv:rv (numP x).2 = .agg [.bool s,.sl a1 b1,.sl a2 b2]) (hu:rv (numP y).2 = .agg [.bool t,.sl p1 q1,.sl p2 q2]):Go.Ev.Fn CX 5 [.sl (ws.length+3) (wC (w::x::y::ws))] (if (numP x).1=0/\(numP y).1=0 then .tup [.agg (dC k 0 0 s a1 b1 a2 b2 t p1 q1 p2 q2),.sl ws.length (wC ws),.bool true] else .tup [.agg (zC 0),.sl 0 [],.bool false]):=by
 have hf:=ref23_shape w
 rw[hs]at hf
 have hn:=ref23_num x (by omega)
 have hd:=ref16_Number x (by omega)
 have gn:=ref23_num y (by omega)
 have gd:=ref16_Number y (by omega)
 rw[hv]at hd
 rw[hu]at gd
 have hlen:=wC_len ws
 have htk:=take_wC ws
 have e1:(k==0)=false:=by simpa using hk
 have e2:decide (((ws.length+3:Nat):Int)<3)=false:=decide_eq_false (by omega)
 have htk2:List.take (ws.length+2) (.str (bs x) :: .str (bs y)::wC ws) = .str (bs x) :: .str (bs y)::wC ws:=by rw[List.take_succ_cons,List.take_succ_cons,htk]
 have h0:=num_eq0 (numP x).1
 have g0:=num_eq0 (numP y).1
 by_cases ex:(numP x).1=0
 case neg=>
  rw[if_neg fun h=>ex h.1]
  rw[decide_eq_false ex]at h0
  refine fni Tryz.f5 ?_;unfold Tryz.f5;simp only[Option.get!_some]
  repeat (first|simp only[go_sem,wC_cons,e1,th65,th66,th77,th78,Nat.add_sub_cancel,htk2,bs_size,e2,Nat.reduceSubDiff,vo_ix,idxB_bs,List.getElem?_cons_zero,List.getElem?_cons_succ,Option.map_some,List.drop_zero,List.head?_cons,Int.reduceAdd,List.contains_nil,Bool.not_false,Bool.not_true,Int.zero_add,List.drop_succ_cons,List.length_cons,List.length_nil,htk]|simp (disch:=first|exact oa|fail) only[AX,wC_cons,e1,th65,th66,th77,th78,Nat.add_sub_cancel,htk2,bs_size,e2,Nat.reduceSubDiff,vo_ix,idxB_bs,List.getElem?_cons_zero,List.getElem?_cons_succ,Option.map_some,List.drop_zero,List.head?_cons,Int.reduceAdd,List.contains_nil,Bool.not_false,Bool.not_true,Int.zero_add,List.drop_succ_cons,List.length_cons,List.length_nil,htk]|refine wki ?_|refine wqn ?_|refine vpd 23 [] ?_|refine vf_of (by first|exact hf) ?_)
  rw[vp_loop]
  repeat (first|simp only[go_sem,th65,th66,th77,th78,wC_cons,e1,Nat.add_sub_cancel,htk2,bs_size,e2,Nat.reduceSubDiff,vo_ix,idxB_bs,List.getElem?_cons_zero,List.getElem?_cons_succ,Option.map_some,List.drop_zero,List.head?_cons,Int.reduceAdd,List.contains_nil,Bool.not_false,Bool.not_true,Int.zero_add,List.drop_succ_cons,List.length_cons,List.length_nil,htk,h0]|simp (disch:=first|exact oa|fail) only[AX,th65,th66,th77,th78,wC_cons,e1,Nat.add_sub_cancel,htk2,bs_size,e2,Nat.reduceSubDiff,vo_ix,idxB_bs,List.getElem?_cons_zero,List.getElem?_cons_succ,Option.map_some,List.drop_zero,List.head?_cons,Int.reduceAdd,List.contains_nil,Bool.not_false,Bool.not_true,Int.zero_add,List.drop_succ_cons,List.length_cons,List.length_nil,htk,h0]|refine wki ?_|refine wqn ?_|refine vpd 23 [] ?_|refine vf_of (by first|exact hn|exact hd) ?_)
 by_cases ey:(numP y).1=0
 case neg=>
  rw[if_neg fun h=>ey h.2]
  rw[ex]at hd
  rw[decide_eq_false ey]at g0
  refine fni Tryz.f5 ?_;unfold Tryz.f5;simp only[Option.get!_some]
  repeat (first|simp only[go_sem,wC_cons,e1,th65,th66,th77,th78,Nat.add_sub_cancel,htk2,bs_size,e2,Nat.reduceSubDiff,vo_ix,idxB_bs,List.getElem?_cons_zero,List.getElem?_cons_succ,Option.map_some,List.drop_zero,List.head?_cons,Int.reduceAdd,List.contains_nil,Bool.not_false,Bool.not_true,Int.zero_add,List.drop_succ_cons,List.length_cons,List.length_nil,htk]|simp (disch:=first|exact oa|fail) only[AX,wC_cons,e1,th65,th66,th77,th78,Nat.add_sub_cancel,htk2,bs_size,e2,Nat.reduceSubDiff,vo_ix,idxB_bs,List.getElem?_cons_zero,List.getElem?_cons_succ,Option.map_some,List.drop_zero,List.head?_cons,Int.reduceAdd,List.contains_nil,Bool.not_false,Bool.not_true,Int.zero_add,List.drop_succ_cons,List.length_cons,List.length_nil,htk]|refine wki ?_|refine wqn ?_|refine vpd 23 [] ?_|refine vf_of (by first|exact hf) ?_)
  rw[vp_loop]
  repeat (first|simp only[go_sem,th65,th66,th77,th78,wC_cons,e1,Nat.add_sub_cancel,htk2,bs_size,e2,Nat.reduceSubDiff,vo_ix,idxB_bs,List.getElem?_cons_zero,List.getElem?_cons_succ,Option.map_some,List.drop_zero,List.head?_cons,Int.reduceAdd,List.contains_nil,Bool.not_false,Bool.not_true,Int.zero_add,List.drop_succ_cons,List.length_cons,List.length_nil,htk]|simp (disch:=first|exact oa|fail) only[AX,th65,th66,th77,th78,wC_cons,e1,Nat.add_sub_cancel,htk2,bs_size,e2,Nat.reduceSubDiff,vo_ix,idxB_bs,List.getElem?_cons_zero,List.getElem?_cons_succ,Option.map_some,List.drop_zero,List.head?_cons,Int.reduceAdd,List.contains_nil,Bool.not_false,Bool.not_true,Int.zero_add,List.drop_succ_cons,List.length_cons,List.length_nil,htk]|refine wki ?_|refine wqn ?_|refine vpd 23 [] ?_|refine vf_of (by first|exact hn|exact hd) ?_)
  rw[vp_loop]
  repeat (first|simp only[go_sem,th65,th66,th77,th78,wC_cons,e1,Nat.add_sub_cancel,htk2,bs_size,e2,Nat.reduceSubDiff,vo_ix,idxB_bs,List.getElem?_cons_zero,List.getElem?_cons_succ,Option.map_some,List.drop_zero,List.head?_cons,Int.reduceAdd,List.contains_nil,Bool.not_false,Bool.not_true,Int.zero_add,List.drop_succ_cons,List.length_cons,List.length_nil,htk,g0]|simp (disch:=first|exact oa|fail) only[AX,th65,th66,th77,th78,wC_cons,e1,Nat.add_sub_cancel,htk2,bs_size,e2,Nat.reduceSubDiff,vo_ix,idxB_bs,List.getElem?_cons_zero,List.getElem?_cons_succ,Option.map_some,List.drop_zero,List.head?_cons,Int.reduceAdd,List.contains_nil,Bool.not_false,Bool.not_true,Int.zero_add,List.drop_succ_cons,List.length_cons,List.length_nil,htk,g0]|refine wki ?_|refine wqn ?_|refine vpd 23 [] ?_|refine vf_of (by first|exact gn|exact gd) ?_)
 case pos=>
  rw[if_pos ⟨ex,ey⟩]
  rw[ex]at hd
  rw[ey]at gd
  refine fni Tryz.f5 ?_;unfold Tryz.f5;simp only[Option.get!_some]
  repeat (first|simp only[go_sem,wC_cons,e1,th65,th66,th77,th78,Nat.add_sub_cancel,htk2,bs_size,e2,Nat.reduceSubDiff,vo_ix,idxB_bs,List.getElem?_cons_zero,List.getElem?_cons_succ,Option.map_some,List.drop_zero,List.head?_cons,Int.reduceAdd,List.contains_nil,Bool.not_false,Bool.not_true,Int.zero_add,List.drop_succ_cons,List.length_cons,List.length_nil,htk]|simp (disch:=first|exact oa|fail) only[AX,wC_cons,e1,th65,th66,th77,th78,Nat.add_sub_cancel,htk2,bs_size,e2,Nat.reduceSubDiff,vo_ix,idxB_bs,List.getElem?_cons_zero,List.getElem?_cons_succ,Option.map_some,List.drop_zero,List.head?_cons,Int.reduceAdd,List.contains_nil,Bool.not_false,Bool.not_true,Int.zero_add,List.drop_succ_cons,List.length_cons,List.length_nil,htk]|refine wki ?_|refine wqn ?_|refine vpd 23 [] ?_|refine vf_of (by first|exact hf) ?_)
  rw[vp_loop]
  repeat (first|simp only[go_sem,th65,th66,th77,th78,wC_cons,e1,Nat.add_sub_cancel,htk2,bs_size,e2,Nat.reduceSubDiff,vo_ix,idxB_bs,List.getElem?_cons_zero,List.getElem?_cons_succ,Option.map_some,List.drop_zero,List.head?_cons,Int.reduceAdd,List.contains_nil,Bool.not_false,Bool.not_true,Int.zero_add,List.drop_succ_cons,List.length_cons,List.length_nil,htk]|simp (disch:=first|exact oa|fail) only[AX,th65,th66,th77,th78,wC_cons,e1,Nat.add_sub_cancel,htk2,bs_size,e2,Nat.reduceSubDiff,vo_ix,idxB_bs,List.getElem?_cons_zero,List.getElem?_cons_succ,Option.map_some,List.drop_zero,List.head?_cons,Int.reduceAdd,List.contains_nil,Bool.not_false,Bool.not_true,Int.zero_add,List.drop_succ_cons,List.length_cons,List.length_nil,htk]|refine wki ?_|refine wqn ?_|refine vpd 23 [] ?_|refine vf_of (by first|exact hn|exact hd) ?_)
  rw[vp_loop]
  repeat (first|simp only[go_sem,th65,th66,th77,th78,wC_cons,e1,Nat.add_sub_cancel,htk2,bs_size,e2,Nat.reduceSubDiff,vo_ix,idxB_bs,List.getElem?_cons_zero,List.getElem?_cons_succ,Option.map_some,List.drop_zero,List.head?_cons,Int.reduceAdd,List.contains_nil,Bool.not_false,Bool.not_true,Int.zero_add,List.drop_succ_cons,List.length_cons,List.length_nil,htk]|simp (disch:=first|exact oa|fail) only[AX,th65,th66,th77,th78,wC_cons,e1,Nat.add_sub_cancel,htk2,bs_size,e2,Nat.reduceSubDiff,vo_ix,idxB_bs,List.getElem?_cons_zero,List.getElem?_cons_succ,Option.map_some,List.drop_zero,List.head?_cons,Int.reduceAdd,List.contains_nil,Bool.not_false,Bool.not_true,Int.zero_add,List.drop_succ_cons,List.length_cons,List.length_nil,htk]|refine wki ?_|refine wqn ?_|refine vpd 23 [] ?_|refine vf_of (by first|exact gn|exact gd) ?_)
  rw[vp_loop]
  repeat (first|simp only[go_sem,th65,th66,th77,th78,wC_cons,e1,Nat.add_sub_cancel,htk2,bs_size,e2,Nat.reduceSubDiff,vo_ix,idxB_bs,List.getElem?_cons_zero,List.getElem?_cons_succ,Option.map_some,List.drop_zero,List.head?_cons,Int.reduceAdd,List.contains_nil,Bool.not_false,Bool.not_true,Int.zero_add,List.drop_succ_cons,List.length_cons,List.length_nil,htk]|simp (disch:=first|exact oa|fail) only[AX,th65,th66,th77,th78,wC_cons,e1,Nat.add_sub_cancel,htk2,bs_size,e2,Nat.reduceSubDiff,vo_ix,idxB_bs,List.getElem?_cons_zero,List.getElem?_cons_succ,Option.map_some,List.drop_zero,List.head?_cons,Int.reduceAdd,List.contains_nil,Bool.not_false,Bool.not_true,Int.zero_add,List.drop_succ_cons,List.length_cons,List.length_nil,htk]|refine wki ?_|refine wqn ?_|refine vpd 23 [] ?_)
  show SV.sl (ws.length+3-3) (List.take (ws.length+3-3) (wC ws))=_
  rw[Nat.add_sub_cancel,htk]
theorem doc_NA (hx:x.length<=100) (hy:y.length<=100) (hws:ws.length<=9) (hs:shapeP w=(k,[78,65])) (hk:k≠0) (hu:rv (numP y).2 = .agg [.bool t,.sl p1 q1,.sl p2 q2]):Go.Ev.Fn CX 5 [.sl (ws.length+3) (wC (w::x::y::ws))] (if (wholeP x).2=true/\(numP y).1=0 then .tup [.agg (dC k (wholeP x).1 0 t p1 q1 p2 q2 false 0 [] 0 []),.sl ws.length (wC ws),.bool true] else .tup [.agg (zC 0),.sl 0 [],.bool false]):=by
 have hf:=ref23_shape w
 rw[hs]at hf
 have hn:=ref23_num x (by omega)
 have hd:=ref16_Number x (by omega)
 have gn:=ref23_num y (by omega)
 have gd:=ref16_Number y (by omega)
 obtain⟨s,a1,b1,a2,b2,hv⟩:=rv_form (numP x).2
 rw[hv]at hd
 rw[hu]at gd
 have hlen:=wC_len ws
 have htk:=take_wC ws
 have e1:(k==0)=false:=by simpa using hk
 have e2:decide (((ws.length+3:Nat):Int)<3)=false:=decide_eq_false (by omega)
 have htk2:List.take (ws.length+2) (.str (bs x) :: .str (bs y)::wC ws) = .str (bs x) :: .str (bs y)::wC ws:=by rw[List.take_succ_cons,List.take_succ_cons,htk]
 have h0:=num_eq0 (numP x).1
 have g0:=num_eq0 (numP y).1
 by_cases ex:(wholeP x).2=true
 case neg=>
  rw[if_neg fun h=>ex h.1]
  rw[Bool.eq_false_iff.2 ex]at hn
  refine fni Tryz.f5 ?_;unfold Tryz.f5;simp only[Option.get!_some]
  repeat (first|simp only[go_sem,wC_cons,e1,th65,th66,th77,th78,Nat.add_sub_cancel,htk2,bs_size,e2,Nat.reduceSubDiff,vo_ix,idxB_bs,List.getElem?_cons_zero,List.getElem?_cons_succ,Option.map_some,List.drop_zero,List.head?_cons,Int.reduceAdd,List.contains_nil,Bool.not_false,Bool.not_true,Int.zero_add,List.drop_succ_cons,List.length_cons,List.length_nil,htk]|simp (disch:=first|exact oa|fail) only[AX,wC_cons,e1,th65,th66,th77,th78,Nat.add_sub_cancel,htk2,bs_size,e2,Nat.reduceSubDiff,vo_ix,idxB_bs,List.getElem?_cons_zero,List.getElem?_cons_succ,Option.map_some,List.drop_zero,List.head?_cons,Int.reduceAdd,List.contains_nil,Bool.not_false,Bool.not_true,Int.zero_add,List.drop_succ_cons,List.length_cons,List.length_nil,htk]|refine wki ?_|refine wqn ?_|refine vpd 23 [] ?_|refine vf_of (by first|exact hf) ?_)
  rw[vp_loop]
  repeat (first|simp only[go_sem,th65,th66,th77,th78,wC_cons,e1,Nat.add_sub_cancel,htk2,bs_size,e2,Nat.reduceSubDiff,vo_ix,idxB_bs,List.getElem?_cons_zero,List.getElem?_cons_succ,Option.map_some,List.drop_zero,List.head?_cons,Int.reduceAdd,List.contains_nil,Bool.not_false,Bool.not_true,Int.zero_add,List.drop_succ_cons,List.length_cons,List.length_nil,htk]|simp (disch:=first|exact oa|fail) only[AX,th65,th66,th77,th78,wC_cons,e1,Nat.add_sub_cancel,htk2,bs_size,e2,Nat.reduceSubDiff,vo_ix,idxB_bs,List.getElem?_cons_zero,List.getElem?_cons_succ,Option.map_some,List.drop_zero,List.head?_cons,Int.reduceAdd,List.contains_nil,Bool.not_false,Bool.not_true,Int.zero_add,List.drop_succ_cons,List.length_cons,List.length_nil,htk]|refine wki ?_|refine wqn ?_|refine vpd 23 [] ?_|refine vf_of (by first|exact hn|exact hd) ?_)
 by_cases ey:(numP y).1=0
 case neg=>
  rw[if_neg fun h=>ey h.2]
  rw[ex]at hn
  rw[decide_eq_false ey]at g0
  refine fni Tryz.f5 ?_;unfold Tryz.f5;simp only[Option.get!_some]
  repeat (first|simp only[go_sem,wC_cons,e1,th65,th66,th77,th78,Nat.add_sub_cancel,htk2,bs_size,e2,Nat.reduceSubDiff,vo_ix,idxB_bs,List.getElem?_cons_zero,List.getElem?_cons_succ,Option.map_some,List.drop_zero,List.head?_cons,Int.reduceAdd,List.contains_nil,Bool.not_false,Bool.not_true,Int.zero_add,List.drop_succ_cons,List.length_cons,List.length_nil,htk]|simp (disch:=first|exact oa|fail) only[AX,wC_cons,e1,th65,th66,th77,th78,Nat.add_sub_cancel,htk2,bs_size,e2,Nat.reduceSubDiff,vo_ix,idxB_bs,List.getElem?_cons_zero,List.getElem?_cons_succ,Option.map_some,List.drop_zero,List.head?_cons,Int.reduceAdd,List.contains_nil,Bool.not_false,Bool.not_true,Int.zero_add,List.drop_succ_cons,List.length_cons,List.length_nil,htk]|refine wki ?_|refine wqn ?_|refine vpd 23 [] ?_|refine vf_of (by first|exact hf) ?_)
  rw[vp_loop]
  repeat (first|simp only[go_sem,th65,th66,th77,th78,wC_cons,e1,Nat.add_sub_cancel,htk2,bs_size,e2,Nat.reduceSubDiff,vo_ix,idxB_bs,List.getElem?_cons_zero,List.getElem?_cons_succ,Option.map_some,List.drop_zero,List.head?_cons,Int.reduceAdd,List.contains_nil,Bool.not_false,Bool.not_true,Int.zero_add,List.drop_succ_cons,List.length_cons,List.length_nil,htk]|simp (disch:=first|exact oa|fail) only[AX,th65,th66,th77,th78,wC_cons,e1,Nat.add_sub_cancel,htk2,bs_size,e2,Nat.reduceSubDiff,vo_ix,idxB_bs,List.getElem?_cons_zero,List.getElem?_cons_succ,Option.map_some,List.drop_zero,List.head?_cons,Int.reduceAdd,List.contains_nil,Bool.not_false,Bool.not_true,Int.zero_add,List.drop_succ_cons,List.length_cons,List.length_nil,htk]|refine wki ?_|refine wqn ?_|refine vpd 23 [] ?_|refine vf_of (by first|exact hn|exact hd) ?_)
  rw[vp_loop]
  repeat (first|simp only[go_sem,th65,th66,th77,th78,wC_cons,e1,Nat.add_sub_cancel,htk2,bs_size,e2,Nat.reduceSubDiff,vo_ix,idxB_bs,List.getElem?_cons_zero,List.getElem?_cons_succ,Option.map_some,List.drop_zero,List.head?_cons,Int.reduceAdd,List.contains_nil,Bool.not_false,Bool.not_true,Int.zero_add,List.drop_succ_cons,List.length_cons,List.length_nil,htk,g0]|simp (disch:=first|exact oa|fail) only[AX,th65,th66,th77,th78,wC_cons,e1,Nat.add_sub_cancel,htk2,bs_size,e2,Nat.reduceSubDiff,vo_ix,idxB_bs,List.getElem?_cons_zero,List.getElem?_cons_succ,Option.map_some,List.drop_zero,List.head?_cons,Int.reduceAdd,List.contains_nil,Bool.not_false,Bool.not_true,Int.zero_add,List.drop_succ_cons,List.length_cons,List.length_nil,htk,g0]|refine wki ?_|refine wqn ?_|refine vpd 23 [] ?_|refine vf_of (by first|exact gn|exact gd) ?_)
 case pos=>
  rw[if_pos ⟨ex,ey⟩]
  rw[ex]at hn
  rw[ey]at gd
  refine fni Tryz.f5 ?_;unfold Tryz.f5;simp only[Option.get!_some]
  repeat (first|simp only[go_sem,wC_cons,e1,th65,th66,th77,th78,Nat.add_sub_cancel,htk2,bs_size,e2,Nat.reduceSubDiff,vo_ix,idxB_bs,List.getElem?_cons_zero,List.getElem?_cons_succ,Option.map_some,List.drop_zero,List.head?_cons,Int.reduceAdd,List.contains_nil,Bool.not_false,Bool.not_true,Int.zero_add,List.drop_succ_cons,List.length_cons,List.length_nil,htk]|simp (disch:=first|exact oa|fail) only[AX,wC_cons,e1,th65,th66,th77,th78,Nat.add_sub_cancel,htk2,bs_size,e2,Nat.reduceSubDiff,vo_ix,idxB_bs,List.getElem?_cons_zero,List.getElem?_cons_succ,Option.map_some,List.drop_zero,List.head?_cons,Int.reduceAdd,List.contains_nil,Bool.not_false,Bool.not_true,Int.zero_add,List.drop_succ_cons,List.length_cons,List.length_nil,htk]|refine wki ?_|refine wqn ?_|refine vpd 23 [] ?_|refine vf_of (by first|exact hf) ?_)
  rw[vp_loop]
  repeat (first|simp only[go_sem,th65,th66,th77,th78,wC_cons,e1,Nat.add_sub_cancel,htk2,bs_size,e2,Nat.reduceSubDiff,vo_ix,idxB_bs,List.getElem?_cons_zero,List.getElem?_cons_succ,Option.map_some,List.drop_zero,List.head?_cons,Int.reduceAdd,List.contains_nil,Bool.not_false,Bool.not_true,Int.zero_add,List.drop_succ_cons,List.length_cons,List.length_nil,htk]|simp (disch:=first|exact oa|fail) only[AX,th65,th66,th77,th78,wC_cons,e1,Nat.add_sub_cancel,htk2,bs_size,e2,Nat.reduceSubDiff,vo_ix,idxB_bs,List.getElem?_cons_zero,List.getElem?_cons_succ,Option.map_some,List.drop_zero,List.head?_cons,Int.reduceAdd,List.contains_nil,Bool.not_false,Bool.not_true,Int.zero_add,List.drop_succ_cons,List.length_cons,List.length_nil,htk]|refine wki ?_|refine wqn ?_|refine vpd 23 [] ?_|refine vf_of (by first|exact hn|exact hd) ?_)
  rw[vp_loop]
  repeat (first|simp only[go_sem,th65,th66,th77,th78,wC_cons,e1,Nat.add_sub_cancel,htk2,bs_size,e2,Nat.reduceSubDiff,vo_ix,idxB_bs,List.getElem?_cons_zero,List.getElem?_cons_succ,Option.map_some,List.drop_zero,List.head?_cons,Int.reduceAdd,List.contains_nil,Bool.not_false,Bool.not_true,Int.zero_add,List.drop_succ_cons,List.length_cons,List.length_nil,htk]|simp (disch:=first|exact oa|fail) only[AX,th65,th66,th77,th78,wC_cons,e1,Nat.add_sub_cancel,htk2,bs_size,e2,Nat.reduceSubDiff,vo_ix,idxB_bs,List.getElem?_cons_zero,List.getElem?_cons_succ,Option.map_some,List.drop_zero,List.head?_cons,Int.reduceAdd,List.contains_nil,Bool.not_false,Bool.not_true,Int.zero_add,List.drop_succ_cons,List.length_cons,List.length_nil,htk]|refine wki ?_|refine wqn ?_|refine vpd 23 [] ?_|refine vf_of (by first|exact gn|exact gd) ?_)
  rw[vp_loop]
  repeat (first|simp only[go_sem,th65,th66,th77,th78,wC_cons,e1,Nat.add_sub_cancel,htk2,bs_size,e2,Nat.reduceSubDiff,vo_ix,idxB_bs,List.getElem?_cons_zero,List.getElem?_cons_succ,Option.map_some,List.drop_zero,List.head?_cons,Int.reduceAdd,List.contains_nil,Bool.not_false,Bool.not_true,Int.zero_add,List.drop_succ_cons,List.length_cons,List.length_nil,htk]|simp (disch:=first|exact oa|fail) only[AX,th65,th66,th77,th78,wC_cons,e1,Nat.add_sub_cancel,htk2,bs_size,e2,Nat.reduceSubDiff,vo_ix,idxB_bs,List.getElem?_cons_zero,List.getElem?_cons_succ,Option.map_some,List.drop_zero,List.head?_cons,Int.reduceAdd,List.contains_nil,Bool.not_false,Bool.not_true,Int.zero_add,List.drop_succ_cons,List.length_cons,List.length_nil,htk]|refine wki ?_|refine wqn ?_|refine vpd 23 [] ?_)
  show SV.sl (ws.length+3-3) (List.take (ws.length+3-3) (wC ws))=_
  rw[Nat.add_sub_cancel,htk]
theorem doc_NM (hx:x.length<=100) (hy:y.length<=100) (hws:ws.length<=9) (hs:shapeP w=(k,[78,77])) (hk:k≠0):Go.Ev.Fn CX 5 [.sl (ws.length+3) (wC (w::x::y::ws))] (if (wholeP x).2=true/\(wholeP y).2=true then .tup [.agg (dC k (wholeP x).1 (wholeP y).1 false 0 [] 0 [] false 0 [] 0 []),.sl ws.length (wC ws),.bool true] else .tup [.agg (zC 0),.sl 0 [],.bool false]):=by
 have hf:=ref23_shape w
 rw[hs]at hf
 have hn:=ref23_num x (by omega)
 have hd:=ref16_Number x (by omega)
 have gn:=ref23_num y (by omega)
 have gd:=ref16_Number y (by omega)
 obtain⟨s,a1,b1,a2,b2,hv⟩:=rv_form (numP x).2
 obtain⟨t,p1,q1,p2,q2,hu⟩:=rv_form (numP y).2
 rw[hv]at hd
 rw[hu]at gd
 have hlen:=wC_len ws
 have htk:=take_wC ws
 have e1:(k==0)=false:=by simpa using hk
 have e2:decide (((ws.length+3:Nat):Int)<3)=false:=decide_eq_false (by omega)
 have htk2:List.take (ws.length+2) (.str (bs x) :: .str (bs y)::wC ws) = .str (bs x) :: .str (bs y)::wC ws:=by rw[List.take_succ_cons,List.take_succ_cons,htk]
 have h0:=num_eq0 (numP x).1
 have g0:=num_eq0 (numP y).1
 by_cases ex:(wholeP x).2=true
 case neg=>
  rw[if_neg fun h=>ex h.1]
  rw[Bool.eq_false_iff.2 ex]at hn
  refine fni Tryz.f5 ?_;unfold Tryz.f5;simp only[Option.get!_some]
  repeat (first|simp only[go_sem,wC_cons,e1,th65,th66,th77,th78,Nat.add_sub_cancel,htk2,bs_size,e2,Nat.reduceSubDiff,vo_ix,idxB_bs,List.getElem?_cons_zero,List.getElem?_cons_succ,Option.map_some,List.drop_zero,List.head?_cons,Int.reduceAdd,List.contains_nil,Bool.not_false,Bool.not_true,Int.zero_add,List.drop_succ_cons,List.length_cons,List.length_nil,htk]|simp (disch:=first|exact oa|fail) only[AX,wC_cons,e1,th65,th66,th77,th78,Nat.add_sub_cancel,htk2,bs_size,e2,Nat.reduceSubDiff,vo_ix,idxB_bs,List.getElem?_cons_zero,List.getElem?_cons_succ,Option.map_some,List.drop_zero,List.head?_cons,Int.reduceAdd,List.contains_nil,Bool.not_false,Bool.not_true,Int.zero_add,List.drop_succ_cons,List.length_cons,List.length_nil,htk]|refine wki ?_|refine wqn ?_|refine vpd 23 [] ?_|refine vf_of (by first|exact hf) ?_)
  rw[vp_loop]
  repeat (first|simp only[go_sem,th65,th66,th77,th78,wC_cons,e1,Nat.add_sub_cancel,htk2,bs_size,e2,Nat.reduceSubDiff,vo_ix,idxB_bs,List.getElem?_cons_zero,List.getElem?_cons_succ,Option.map_some,List.drop_zero,List.head?_cons,Int.reduceAdd,List.contains_nil,Bool.not_false,Bool.not_true,Int.zero_add,List.drop_succ_cons,List.length_cons,List.length_nil,htk]|simp (disch:=first|exact oa|fail) only[AX,th65,th66,th77,th78,wC_cons,e1,Nat.add_sub_cancel,htk2,bs_size,e2,Nat.reduceSubDiff,vo_ix,idxB_bs,List.getElem?_cons_zero,List.getElem?_cons_succ,Option.map_some,List.drop_zero,List.head?_cons,Int.reduceAdd,List.contains_nil,Bool.not_false,Bool.not_true,Int.zero_add,List.drop_succ_cons,List.length_cons,List.length_nil,htk]|refine wki ?_|refine wqn ?_|refine vpd 23 [] ?_|refine vf_of (by first|exact hn|exact hd) ?_)
 by_cases ey:(wholeP y).2=true
 case neg=>
  rw[if_neg fun h=>ey h.2]
  rw[ex]at hn
  rw[Bool.eq_false_iff.2 ey]at gn
  refine fni Tryz.f5 ?_;unfold Tryz.f5;simp only[Option.get!_some]
  repeat (first|simp only[go_sem,wC_cons,e1,th65,th66,th77,th78,Nat.add_sub_cancel,htk2,bs_size,e2,Nat.reduceSubDiff,vo_ix,idxB_bs,List.getElem?_cons_zero,List.getElem?_cons_succ,Option.map_some,List.drop_zero,List.head?_cons,Int.reduceAdd,List.contains_nil,Bool.not_false,Bool.not_true,Int.zero_add,List.drop_succ_cons,List.length_cons,List.length_nil,htk]|simp (disch:=first|exact oa|fail) only[AX,wC_cons,e1,th65,th66,th77,th78,Nat.add_sub_cancel,htk2,bs_size,e2,Nat.reduceSubDiff,vo_ix,idxB_bs,List.getElem?_cons_zero,List.getElem?_cons_succ,Option.map_some,List.drop_zero,List.head?_cons,Int.reduceAdd,List.contains_nil,Bool.not_false,Bool.not_true,Int.zero_add,List.drop_succ_cons,List.length_cons,List.length_nil,htk]|refine wki ?_|refine wqn ?_|refine vpd 23 [] ?_|refine vf_of (by first|exact hf) ?_)
  rw[vp_loop]
  repeat (first|simp only[go_sem,th65,th66,th77,th78,wC_cons,e1,Nat.add_sub_cancel,htk2,bs_size,e2,Nat.reduceSubDiff,vo_ix,idxB_bs,List.getElem?_cons_zero,List.getElem?_cons_succ,Option.map_some,List.drop_zero,List.head?_cons,Int.reduceAdd,List.contains_nil,Bool.not_false,Bool.not_true,Int.zero_add,List.drop_succ_cons,List.length_cons,List.length_nil,htk]|simp (disch:=first|exact oa|fail) only[AX,th65,th66,th77,th78,wC_cons,e1,Nat.add_sub_cancel,htk2,bs_size,e2,Nat.reduceSubDiff,vo_ix,idxB_bs,List.getElem?_cons_zero,List.getElem?_cons_succ,Option.map_some,List.drop_zero,List.head?_cons,Int.reduceAdd,List.contains_nil,Bool.not_false,Bool.not_true,Int.zero_add,List.drop_succ_cons,List.length_cons,List.length_nil,htk]|refine wki ?_|refine wqn ?_|refine vpd 23 [] ?_|refine vf_of (by first|exact hn|exact hd) ?_)
  rw[vp_loop]
  repeat (first|simp only[go_sem,th65,th66,th77,th78,wC_cons,e1,Nat.add_sub_cancel,htk2,bs_size,e2,Nat.reduceSubDiff,vo_ix,idxB_bs,List.getElem?_cons_zero,List.getElem?_cons_succ,Option.map_some,List.drop_zero,List.head?_cons,Int.reduceAdd,List.contains_nil,Bool.not_false,Bool.not_true,Int.zero_add,List.drop_succ_cons,List.length_cons,List.length_nil,htk]|simp (disch:=first|exact oa|fail) only[AX,th65,th66,th77,th78,wC_cons,e1,Nat.add_sub_cancel,htk2,bs_size,e2,Nat.reduceSubDiff,vo_ix,idxB_bs,List.getElem?_cons_zero,List.getElem?_cons_succ,Option.map_some,List.drop_zero,List.head?_cons,Int.reduceAdd,List.contains_nil,Bool.not_false,Bool.not_true,Int.zero_add,List.drop_succ_cons,List.length_cons,List.length_nil,htk]|refine wki ?_|refine wqn ?_|refine vpd 23 [] ?_|refine vf_of (by first|exact gn|exact gd) ?_)
 case pos=>
  rw[if_pos ⟨ex,ey⟩]
  rw[ex]at hn
  rw[ey]at gn
  refine fni Tryz.f5 ?_;unfold Tryz.f5;simp only[Option.get!_some]
  repeat (first|simp only[go_sem,wC_cons,e1,th65,th66,th77,th78,Nat.add_sub_cancel,htk2,bs_size,e2,Nat.reduceSubDiff,vo_ix,idxB_bs,List.getElem?_cons_zero,List.getElem?_cons_succ,Option.map_some,List.drop_zero,List.head?_cons,Int.reduceAdd,List.contains_nil,Bool.not_false,Bool.not_true,Int.zero_add,List.drop_succ_cons,List.length_cons,List.length_nil,htk]|simp (disch:=first|exact oa|fail) only[AX,wC_cons,e1,th65,th66,th77,th78,Nat.add_sub_cancel,htk2,bs_size,e2,Nat.reduceSubDiff,vo_ix,idxB_bs,List.getElem?_cons_zero,List.getElem?_cons_succ,Option.map_some,List.drop_zero,List.head?_cons,Int.reduceAdd,List.contains_nil,Bool.not_false,Bool.not_true,Int.zero_add,List.drop_succ_cons,List.length_cons,List.length_nil,htk]|refine wki ?_|refine wqn ?_|refine vpd 23 [] ?_|refine vf_of (by first|exact hf) ?_)
  rw[vp_loop]
  repeat (first|simp only[go_sem,th65,th66,th77,th78,wC_cons,e1,Nat.add_sub_cancel,htk2,bs_size,e2,Nat.reduceSubDiff,vo_ix,idxB_bs,List.getElem?_cons_zero,List.getElem?_cons_succ,Option.map_some,List.drop_zero,List.head?_cons,Int.reduceAdd,List.contains_nil,Bool.not_false,Bool.not_true,Int.zero_add,List.drop_succ_cons,List.length_cons,List.length_nil,htk]|simp (disch:=first|exact oa|fail) only[AX,th65,th66,th77,th78,wC_cons,e1,Nat.add_sub_cancel,htk2,bs_size,e2,Nat.reduceSubDiff,vo_ix,idxB_bs,List.getElem?_cons_zero,List.getElem?_cons_succ,Option.map_some,List.drop_zero,List.head?_cons,Int.reduceAdd,List.contains_nil,Bool.not_false,Bool.not_true,Int.zero_add,List.drop_succ_cons,List.length_cons,List.length_nil,htk]|refine wki ?_|refine wqn ?_|refine vpd 23 [] ?_|refine vf_of (by first|exact hn|exact hd) ?_)
  rw[vp_loop]
  repeat (first|simp only[go_sem,th65,th66,th77,th78,wC_cons,e1,Nat.add_sub_cancel,htk2,bs_size,e2,Nat.reduceSubDiff,vo_ix,idxB_bs,List.getElem?_cons_zero,List.getElem?_cons_succ,Option.map_some,List.drop_zero,List.head?_cons,Int.reduceAdd,List.contains_nil,Bool.not_false,Bool.not_true,Int.zero_add,List.drop_succ_cons,List.length_cons,List.length_nil,htk]|simp (disch:=first|exact oa|fail) only[AX,th65,th66,th77,th78,wC_cons,e1,Nat.add_sub_cancel,htk2,bs_size,e2,Nat.reduceSubDiff,vo_ix,idxB_bs,List.getElem?_cons_zero,List.getElem?_cons_succ,Option.map_some,List.drop_zero,List.head?_cons,Int.reduceAdd,List.contains_nil,Bool.not_false,Bool.not_true,Int.zero_add,List.drop_succ_cons,List.length_cons,List.length_nil,htk]|refine wki ?_|refine wqn ?_|refine vpd 23 [] ?_|refine vf_of (by first|exact gn|exact gd) ?_)
  rw[vp_loop]
  repeat (first|simp only[go_sem,th65,th66,th77,th78,wC_cons,e1,Nat.add_sub_cancel,htk2,bs_size,e2,Nat.reduceSubDiff,vo_ix,idxB_bs,List.getElem?_cons_zero,List.getElem?_cons_succ,Option.map_some,List.drop_zero,List.head?_cons,Int.reduceAdd,List.contains_nil,Bool.not_false,Bool.not_true,Int.zero_add,List.drop_succ_cons,List.length_cons,List.length_nil,htk]|simp (disch:=first|exact oa|fail) only[AX,th65,th66,th77,th78,wC_cons,e1,Nat.add_sub_cancel,htk2,bs_size,e2,Nat.reduceSubDiff,vo_ix,idxB_bs,List.getElem?_cons_zero,List.getElem?_cons_succ,Option.map_some,List.drop_zero,List.head?_cons,Int.reduceAdd,List.contains_nil,Bool.not_false,Bool.not_true,Int.zero_add,List.drop_succ_cons,List.length_cons,List.length_nil,htk]|refine wki ?_|refine wqn ?_|refine vpd 23 [] ?_)
  show SV.sl (ws.length+3-3) (List.take (ws.length+3-3) (wC ws))=_
  rw[Nat.add_sub_cancel,htk]
end
end Go.Proofs.YtheclpmgipiejaaGreatDoor
namespace Go.Proofs.YtheclpmgipiejaaGreatDoor
open Go.Ev
theorem x_cmp (a b:List UInt8):Go.Ev.Fn CX 341 [.str (bs a),.str (bs b)] (.int .i64 (Lib.compareBytes a b)):=by
 refine⟨1,List.replicate 2 none,?_⟩
 have h4:CX.X 341 ([SV.str (bs a),.str (bs b)].map Arg.sv)=some (.sv (.int .i64 (Lib.compareBytes a b)),List.replicate 2 none):=by
  show xCmp [.sv (.str (bs a)),.sv (.str (bs b))]=_
  unfold xCmp
  simp only[bs_toList]
 unfold callN
 rw[stq_sv,h4]
theorem str_Compare (a b:List UInt8):Go.Ev.Fn CX 241 [.str (bs a),.str (bs b)] (.int .i64 (Lib.compareBytes a b)):=by
 have h0:=x_cmp a b
 have h1:Go.Ev.Fn CX 306 [.str (bs a),.str (bs b)] (.int .i64 (Lib.compareBytes a b)):=by
  refine fni Tryz.f306 ?_;unfold Tryz.f306;simp only[Option.get!_some]
  simp only[go_sem]
  refine vf_of (h0) ?_;simp only[go_sem]
 refine fni Tryz.f241 ?_;unfold Tryz.f241;simp only[Option.get!_some]
 simp only[go_sem]
 refine vf_of (h1) ?_;simp only[go_sem]
theorem sess_by (a b:List UInt8) (n:Nat) (rs:List SV):Go.Ev.Fn CX 240 [.agg [.str (bs a),.sl n rs],.str (bs b)] (.int .i64 (Lib.compareBytes a b)):=by
 have h0:=str_Compare a b
 refine fni Tryz.f240 ?_;unfold Tryz.f240;simp only[Option.get!_some]
 simp only[go_sem]
 refine vf_of (h0) ?_;simp only[go_sem]
def letB:List UInt8:=[97,98,99,100,101,102,103,104,105,106,107,108,109,110,111,112,113,114,115,116,117,118,119,120,121,122]
def sgnB:List UInt8:=letB++[48,49,50,51,52,53,54,55,56,57]
def nameP (l:List UInt8):Bool:=match l with
 | []=>false
 |b::r=>decide (r.length<12)&&(decide (0<=Lib.indexByte letB b)&&(Lib.trimS (b::r) sgnB).isEmpty)
theorem isEmpty_beq (l:List UInt8):(l==[])=l.isEmpty:=by cases l<;>rfl
theorem sess_Name (l:List UInt8) (hl:l.length<=1048576):Go.Ev.Fn CX 143 [.str (bs l)] (.bool (nameP l)):=by
 cases l with
 |nil=>
  have h0:(([]:List UInt8)==[])=true:=rfl
  refine fni Tryz.f143 ?_;unfold Tryz.f143;simp only[Option.get!_some]
  repeat (first|simp only[go_sem,mk_bs,bs_eq,h0,Bool.not_true]|simp (disch:=first|exact oa|fail) only[AX,mk_bs,bs_eq,h0,Bool.not_true]|refine wki ?_|refine wqn ?_)
  rfl
 |cons b r=>
  have hi:=str_IndexByte letB b
  have ht:=x_trim (b::r) sgnB (by omega) (by decide) (by decide)
  have hn:((b::r)==([]:List UInt8))=false:=rfl
  have hx:(b::r)[0]?=some b:=rfl
  have hsz:(b::r).length=r.length+1:=rfl
  have hnp:nameP (b::r)=(decide (r.length<12)&&(decide (0<=Lib.indexByte letB b)&&(Lib.trimS (b::r) sgnB).isEmpty)):=rfl
  rw[hnp]
  generalize (b::r)=l at *
  generalize hT:Lib.trimS l sgnB=T at *
  generalize hI:Lib.indexByte letB b=z at *
  rw[show letB=[97,98,99,100,101,102,103,104,105,106,107,108,109,110,111,112,113,114,115,116,117,118,119,120,121,122] from rfl]at hi
  rw[show sgnB=[97,98,99,100,101,102,103,104,105,106,107,108,109,110,111,112,113,114,115,116,117,118,119,120,121,122,48,49,50,51,52,53,54,55,56,57] from rfl]at ht
  clear hT hI
  by_cases h1:r.length<12
  ·have d1:=decide_eq_true h1
   by_cases h2:0<=z
   ·have d2:=decide_eq_true h2
    refine fni Tryz.f143 ?_;unfold Tryz.f143;simp only[Option.get!_some]
    repeat (first|simp only[go_sem,mk_bs,bs_eq,bs_size,hn,hsz,hx,vo_ix,idxB_bs,Bool.not_false,d1,d2,ge_iff_le,isEmpty_beq,Option.map_some]|simp (disch:=first|exact oa|fail) only[AX,mk_bs,bs_eq,bs_size,hn,hsz,hx,vo_ix,idxB_bs,Bool.not_false,d1,d2,ge_iff_le,isEmpty_beq,Option.map_some]|refine wki ?_|refine wqn ?_|refine vf_of (by first|exact hi|exact ht) ?_)
   ·have d2:=decide_eq_false h2
    refine fni Tryz.f143 ?_;unfold Tryz.f143;simp only[Option.get!_some]
    repeat (first|simp only[go_sem,mk_bs,bs_eq,bs_size,hn,hsz,hx,vo_ix,idxB_bs,Bool.not_false,d1,d2,ge_iff_le,isEmpty_beq,Option.map_some]|simp (disch:=first|exact oa|fail) only[AX,mk_bs,bs_eq,bs_size,hn,hsz,hx,vo_ix,idxB_bs,Bool.not_false,d1,d2,ge_iff_le,isEmpty_beq,Option.map_some]|refine wki ?_|refine wqn ?_|refine vf_of (by first|exact hi) ?_)
    rw[Bool.false_and]
  ·refine fni Tryz.f143 ?_;unfold Tryz.f143;simp only[Option.get!_some]
   repeat (first|simp only[go_sem,mk_bs,bs_eq,bs_size,hn,hsz,Bool.not_false]|simp (disch:=first|exact oa|fail) only[AX,mk_bs,bs_eq,bs_size,hn,hsz,Bool.not_false]|refine wki ?_|refine wqn ?_)
   simp[h1]
theorem rvs_snocA {l:List Rat} {i:Nat} (h:i<l.length):rvsC (l.take i)++rvC (l.getD i 0)=rvsC (l.take (i+1)):=by rw[take_snoc l h,rvsC_snoc]
theorem sess_copied {cs:List SV} {l:List Rat} {L:Nat} (h:RowC cs l L) (hL:1<=L) (hL2:L<=10000) (hl:l.length<=100000):Go.Ev.Fn CX 206 [.sl l.length cs] (.sl l.length (rvsC l)):=by
 have hlen:=row_len h
 refine fni Tryz.f206 ?_;unfold Tryz.f206;simp only[Option.get!_some]
 repeat (first|simp only[go_sem]|simp (disch:=first|exact oa|fail) only[AX]|refine wki ?_|refine wqn ?_)
 refine vp_loop_inv (fun s=>s.tmp 6 = .sv (.sl l.length cs)/\s.tmp 7 = .sv (.int .i64 (l.length:Int)) /\ ∃i:Nat,s.tmp 8 = .sv (.int .i64 (i:Int))/\i<=l.length /\
   ((i=0/\s.tmp 3 = .nil/\s.gen 16=0)\/(0<i/\s.tmp 3 = .ref 16 0 3 0 i/\s.obj 16 0=some (rvsC (l.take i)))))
  (fun s=>match s.tmp 8 with | .sv (.int _ i)=>l.length-i.toNat|_=>0) ⟨rfl,rfl,0,rfl,by omega,.inl ⟨rfl,rfl,rfl⟩⟩ ?_
 rintro s2 ⟨i6,i7,i,i8,hi,hcase⟩
 by_cases hend:i=l.length
 ·subst hend
  rw[List.take_length]at hcase
  rcases hcase with⟨h0,i3,_⟩|⟨h0,i3,iO⟩
  ·have:l=[]:=List.eq_nil_of_length_eq_zero h0
   subst this
   repeat (first|simp only[go_sem,i6,i7,i8,i3]|simp (disch:=first|exact oa|fail) only[AX,i6,i7,i8,i3]|refine wki ?_|refine wqn ?_)
   first|rfl|skip
  ·have hrl:=rvsC_len l
   repeat (first|simp only[go_sem,i6,i7,i8,i3,iO]|simp (disch:=first|exact oa|fail) only[AX,i6,i7,i8,i3,iO]|refine wki ?_|refine wqn ?_)
   refine ro_ref (cs:=rvsC l) (by decide) ?_ ?_
   ·simp only[go_sem,i3,iO]
   ·rw[List.drop_zero,List.take_of_length_le (by omega)]
 ·obtain⟨s,n,d,rest,hat,hA⟩:=row_at (i:=i) h (by omega)
  have a:=rat_Norm hA (by omega)
  have hsn:=rvs_snocA (l:=l) (i:=i) (by omega)
  have hrl:=rvsC_len (l.take i)
  rw[List.length_take,Nat.min_eq_left (by omega)]at hrl
  clear h hA
  rcases hcase with⟨h00,i3,ig⟩|⟨h00,i3,iO⟩
  ·subst h00
   rw[List.take_zero,rvsC_nil,List.nil_append]at hsn
   rw[Nat.zero_mul,List.drop_zero]at hat
   subst hat
   repeat (first|simp only[go_sem,i6,i7,i3,i8,ig,N0,rvC]|simp (disch:=first|exact oa|fail) only[AX,i6,i7,i3,i8,ig,N0,rvC]|refine wki ?_|refine wqn ?_|refine vf_of (by first|exact a) ?_)
   exact⟨⟨1,rfl,by omega,.inr ⟨by omega,rfl,by first|(rw[<- hsn];rfl)|rw[<- hsn]⟩⟩,by omega⟩
  ·unfold rvC at hsn
   repeat (first|simp only[go_sem,i6,i7,i3,i8,iO,hat,hlen,N0,hsn,hrl,rvC]|simp (disch:=first|exact oa|fail) only[AX,i6,i7,i3,i8,iO,hat,hlen,N0,hsn,hrl,rvC]|refine wki ?_|refine wqn ?_|refine vf_of (by first|exact a) ?_)
   exact⟨⟨i+1,rfl,by omega,.inr ⟨by omega,rfl,by first|(rw[<- hsn];rfl)|rw[<- hsn]⟩⟩,by omega⟩
theorem sess_New:FnH CX 28 [] [.nil,.sv (.int .i64 6)]:=⟨20,[],by kernel_rfl⟩
end Go.Proofs.YtheclpmgipiejaaGreatDoor
namespace Go.Proofs.YtheclpmgipiejaaGreatDoor
open Go.Ev
abbrev Ent:=List UInt8×Nat×List SV
def entC (es:List Ent):List SV:=es.flatMap fun e=>[.str (bs e.1),.sl e.2.1 e.2.2]
theorem entC_cons (e:Ent) (es:List Ent):entC (e::es) = .str (bs e.1) :: .sl e.2.1 e.2.2::entC es:=by unfold entC;simp
theorem entC_len : ∀es:List Ent,(entC es).length=es.length*2
 | []=>rfl
 |e::es=>by rw[entC_cons,List.length_cons,List.length_cons,entC_len es,List.length_cons];omega
theorem entC_one : ∀es:List Ent,oneAll (entC es)=true
 | []=>rfl
 |e::es=>by
  have:=entC_one es
  unfold oneAll at this ⊢
  rw[entC_cons,List.all_cons,List.all_cons,this]
  rfl
theorem entC_app (a b:List Ent):entC (a++b)=entC a++entC b:=by unfold entC;simp
theorem ent_at : ∀ {es:List Ent} {k:Nat},k<es.length -> ∃rest,(entC es).drop (k*2) = .str (bs (es.getD k default).1) :: .sl (es.getD k default).2.1 (es.getD k default).2.2::rest
 |e::es,0,_=>⟨entC es,by rw[Nat.zero_mul,List.drop_zero,entC_cons];rfl⟩
 |e::es,k+1,h=>by
  obtain⟨rest,hr⟩:=ent_at (es:=es) (k:=k) (by simpa using h)
  refine⟨rest,?_⟩
  rw[entC_cons,show (k+1)*2=k*2+2 by omega,List.drop_succ_cons,List.drop_succ_cons,hr]
  rfl
def cmpAt (es:List Ent) (k:Nat) (t:List UInt8):Int:=Lib.compareBytes (es.getD k default).1 t
structure PosAt (es:List Ent) (t:List UInt8) (p:Nat):Prop where
 le:p<=es.length
 lo : ∀k,k<p->cmpAt es k t<0
 hi : ∀k,p<=k->k<es.length -> ¬cmpAt es k t<0
def isAt (es:List Ent) (t:List UInt8) (p:Nat):Bool:=decide (p<es.length)&&(cmpAt es p t==0)
theorem exp_search {s:St} {cs:List SV} {n:Nat} {x y:SV}:expOf s [.impref cs 2 0 n,.sv x,.sv y]=[s.obj 1000000 0,none,none]:=rfl
theorem sess_search {es:List Ent} {t:List UInt8} {p:Nat} (hp:PosAt es t p) (hl:es.length<=100000) :
  FnI CX 239 [.impref (entC es) 2 0 es.length,.sv (.str (bs t)),.sv (.fn 240 [])] (.tup [.int .i64 p,.bool (isAt es t p)]) [some (entC es),none,none]:=by
 have key : ∃r exps,(r = .tup [.int .i64 p,.bool (isAt es t p)]/\exps=[some (entC es),none,none])/\FnI CX 239 [.impref (entC es) 2 0 es.length,.sv (.str (bs t)),.sv (.fn 240 [])] r exps:=by
  refine FnI_of (fn:=Tryz.f239) (body:=(Tryz.f239).body.get!) (by kernel_rfl) (by kernel_rfl) (by kernel_rfl) (fun _=>rfl) (Nat.le_of_ble_eq_true (by kernel_rfl)) ?_
  unfold Tryz.f239
  simp only[Option.get!_some,exp_search]
  repeat (first|simp only[go_sem,N0]|simp (disch:=first|exact oa|fail) only[AX,N0]|refine wki ?_|refine wqn ?_)
  refine vp_loop_inv (fun s=>s.tmp 0 = .ref 1000000 0 2 0 es.length/\s.tmp 1 = .sv (.str (bs t))/\s.tmp 2 = .sv (.fn 240 [])/\s.obj 1000000 0=some (entC es)/\s.tmp 8 = .sv (.int .i64 (es.length:Int)) /\
    ∃i j:Nat,s.tmp 9 = .sv (.int .i64 (i:Int))/\s.tmp 10 = .sv (.int .i64 (j:Int))/\i<=p/\p<=j/\j<=es.length)
   (fun s=>match s.tmp 9,s.tmp 10 with | .sv (.int _ i),.sv (.int _ j)=>j.toNat-i.toNat|_,_=>0) ⟨rfl,rfl,rfl,rfl,rfl,0,es.length,rfl,rfl,by omega,hp.le,by omega⟩ ?_
  rintro s ⟨i0,i1,i2,iO,i8,i,j,i9,i10,hi,hj,hjl⟩
  by_cases hend:i=j
  ·have:i=p:=by omega
   subst this
   subst hend
   by_cases hlt:i<es.length
   ·obtain⟨rest,hat⟩:=ent_at hlt
    have c:=sess_by (es.getD i default).1 t (es.getD i default).2.1 (es.getD i default).2.2
    have hfi:isAt es t i=(Lib.compareBytes (es.getD i default).1 t==0):=by unfold isAt cmpAt;rw[decide_eq_true hlt,Bool.true_and]
    rw[hfi]
    generalize Lib.compareBytes (es.getD i default).1 t=z at *
    repeat (first|simp only[go_sem,i0,i1,i2,iO,i8,i9,i10,hat]|simp (disch:=first|exact oa|fail) only[AX,i0,i1,i2,iO,i8,i9,i10,hat]|refine wki ?_|refine wqn ?_)
    refine vf_of (c) ?_;repeat (first|simp only[go_sem,i0,i1,i2,iO,i8,i9,i10,hat]|simp (disch:=first|exact oa|fail) only[AX,i0,i1,i2,iO,i8,i9,i10,hat]|refine wki ?_|refine wqn ?_)
    refine⟨_,_,⟨rfl,rfl⟩,?_,rfl⟩
    simp only[go_sem]
   ·have hfi:isAt es t i=false:=by unfold isAt;rw[decide_eq_false hlt,Bool.false_and]
    rw[hfi]
    repeat (first|simp only[go_sem,i0,i1,i2,iO,i8,i9,i10]|simp (disch:=first|exact oa|fail) only[AX,i0,i1,i2,iO,i8,i9,i10]|refine wki ?_|refine wqn ?_)
    refine⟨_,_,⟨rfl,rfl⟩,?_,rfl⟩
    simp only[go_sem]
  ·have hh : ∃h,(i+j)/2=h:=⟨_,rfl⟩
   obtain⟨h,hh⟩:=hh
   have hhj:h<j:=by omega
   have hih:i<=h:=by omega
   obtain⟨rest,hat⟩:=ent_at (es:=es) (k:=h) (by omega)
   have c:=sess_by (es.getD h default).1 t (es.getD h default).2.1 (es.getD h default).2.2
   have hlo:=hp.lo h
   have hhi:=hp.hi h
   unfold cmpAt at hlo hhi
   generalize Lib.compareBytes (es.getD h default).1 t=z at *
   have hlen:=entC_len es
   by_cases hz:z<0
   ·have dz:=decide_eq_true hz
    repeat (first|simp only[go_sem,i0,i1,i2,iO,i8,i9,i10,hh,hlen,hat]|simp (disch:=first|exact oa|fail) only[AX,i0,i1,i2,iO,i8,i9,i10,hh,hlen,hat]|refine wki ?_|refine wqn ?_)
    refine vf_of (c) ?_;repeat (first|simp only[go_sem,i0,i1,i2,iO,i8,i9,i10,hh,hlen,hat,dz]|simp (disch:=first|exact oa|fail) only[AX,i0,i1,i2,iO,i8,i9,i10,hh,hlen,hat,dz]|refine wki ?_|refine wqn ?_)
    exact⟨⟨h+1,j,rfl,rfl,by omega,hj,hjl⟩,by omega⟩
   ·have dz:=decide_eq_false hz
    repeat (first|simp only[go_sem,i0,i1,i2,iO,i8,i9,i10,hh,hlen,hat]|simp (disch:=first|exact oa|fail) only[AX,i0,i1,i2,iO,i8,i9,i10,hh,hlen,hat]|refine wki ?_|refine wqn ?_)
    refine vf_of (c) ?_;repeat (first|simp only[go_sem,i0,i1,i2,iO,i8,i9,i10,hh,hlen,hat,dz]|simp (disch:=first|exact oa|fail) only[AX,i0,i1,i2,iO,i8,i9,i10,hh,hlen,hat,dz]|refine wki ?_|refine wqn ?_)
    exact⟨⟨i,h,rfl,rfl,hi,by omega,by omega⟩,by omega⟩
 obtain⟨r,exps,⟨rfl,rfl⟩,h⟩:=key
 exact h
end Go.Proofs.YtheclpmgipiejaaGreatDoor
namespace Go.Proofs.YtheclpmgipiejaaGreatDoor
open Go.Ev
def TP (n:Nat):Bool:=Nat.beq n 21||(Nat.beq n 25||Nat.beq n 51)
def plT (T:Nat->Bool):TV->Bool
 | .sv _=>true
 | .nil=>true
 | .undef=>true
 | .ptr d _ _ => !T d
 | .ref d _ _ _ _ => !T d
 | .rfc d _ _ _ _ _ => !T d
 | .pst d _ => !T d
 | .skip=>true
abbrev plV:TV->Bool:=plT TP
theorem nbeq {a b:Nat} (h:a≠b):Nat.beq a b=false:=by
 cases e:Nat.beq a b with
 |false=>rfl
 |true=>exact absurd (Nat.eq_of_beq_eq_true e) h
theorem tp_ob {d:Nat} (h:H0<=d):TP d=false:=by
 have h:2000000<=d:=h
 unfold TP
 rw[nbeq (a:=d) (b:=21) (by omega),nbeq (a:=d) (b:=25) (by omega),nbeq (a:=d) (b:=51) (by omega)]
 rfl
theorem pl_ob {d g o:Nat} (h:H0<=d):plV (.ptr d g o)=true:=by
 show (!TP d)=true
 rw[tp_ob h]
 rfl
section
variable {T:Nat->Bool}
theorem kill_pl {v:TV} {d g:Nat} (h:plT T v=true) (hd:T d=true):v.kill d g=v:=by
 have key : ∀d',(!T d')=true -> ¬(d'=d /\ ∃x:Nat,x=g):=fun d' h e=>by rw[e.1,hd]at h;cases h
 cases v with
 |ptr d' g' off=>exact if_neg fun e=>key d' h ⟨e.1,_,e.2⟩
 |ref d' g' a b c=>exact if_neg fun e=>key d' h ⟨e.1,_,e.2⟩
 |rfc d' g' a b c e'=>exact if_neg fun e=>key d' h ⟨e.1,_,e.2⟩
 |pst d' g'=>exact if_neg fun e=>key d' h ⟨e.1,_,e.2⟩
 |_=>rfl
theorem frz_pl {v:TV} {d g:Nat} {cs:List SV} (h:plT T v=true) (hd:T d=true):v.frz d g cs=v:=by
 have key : ∀d',(!T d')=true -> ¬(d'=d /\ ∃x:Nat,x=g):=fun d' h e=>by rw[e.1,hd]at h;cases h
 cases v with
 |ptr d' g' off=>exact if_neg fun e=>key d' h ⟨e.1,_,e.2⟩
 |ref d' g' a b c=>exact if_neg fun e=>key d' h ⟨e.1,_,e.2⟩
 |rfc d' g' a b c e'=>exact if_neg fun e=>key d' h ⟨e.1,_,e.2⟩
 |pst d' g'=>exact if_neg fun e=>key d' h ⟨e.1,_,e.2⟩
 |_=>rfl
end
theorem up_even {st:St} {vs:List TV} {t:Nat}:(st.enter vs).up (2*t)=st.tmp t:=by
 rw[up_enter,if_pos (by omega),show 2*t/2=t by omega]
theorem up_odd {st:St} {vs:List TV} {t:Nat}:(st.enter vs).up (2*t+1)=st.up t:=by
 rw[up_enter,if_neg (by omega),show (2*t+1)/2=t by omega]
structure Kp (T:Nat->Bool) (d:Nat) (st s:St):Prop where
 up : ∀u,plT T (st.up u)=true->s.up u=st.up u
 obj : ∀n g,T n=false->g<st.gen n->s.obj n g=st.obj n g
 gen : ∀n,st.gen n<=s.gen n
 hob : ∀d' g' ts,d'≠d->st.hob d' g'=some ts->(∀t∈ts,plT T t=true)->s.hob d' g'=some ts
structure KeepT (T:Nat->Bool) (d:Nat) (st st':St):Prop extends Kp T d st st' where
 tmp : ∀t,plT T (st.tmp t)=true->st'.tmp t=st.tmp t
abbrev Keep:=KeepT TP
section
variable {T:Nat->Bool} {d:Nat} {st s:St}
theorem Kp.refl:Kp T d st st:=⟨fun _ _=>rfl,fun _ _ _ _=>rfl,fun _=>Nat.le_refl _,fun _ _ _ _ h _=>h⟩
theorem Kp.trans {a b c:St} (h:Kp T d a b) (k:Kp T d b c):Kp T d a c:=
 ⟨fun u hu=>(k.up u (by rw[h.up u hu];exact hu)).trans (h.up u hu),fun n g hn hg=>(k.obj n g hn (Nat.lt_of_lt_of_le hg (h.gen n))).trans (h.obj n g hn hg),fun n=>Nat.le_trans (h.gen n) (k.gen n),
  fun d' g' ts hd ho hp=>k.hob d' g' ts hd (h.hob d' g' ts hd ho hp) hp⟩
theorem Kp.put {t:Nat} {v:TV} (h:Kp T d st s):Kp T d st (s.put t v):=⟨h.up,h.obj,h.gen,h.hob⟩
theorem Kp.set {n g:Nat} {cs:List SV} (hn:T n=true) (h:Kp T d st s):Kp T d st (s.set n g cs):=
 ⟨h.up,fun n' g' hn' hg=>(if_neg fun e=>by rw[e.1,hn]at hn';cases hn').trans (h.obj n' g' hn' hg),h.gen,h.hob⟩
theorem Kp.new {t:Nat} {cs:List SV} {v:TV} (h:Kp T d st s):Kp T d st (s.new t cs v):=
 ⟨h.up,fun n g hn hg=>(if_neg fun e=>absurd (h.gen n) (by rw[e.1]at hg ⊢;omega)).trans (h.obj n g hn hg),fun n=>Nat.le_trans (h.gen n) (by rw[gen_new];split<;>rename_i e<;>(try rw[e])<;>omega),h.hob⟩
theorem Kp.newset {t:Nat} {cs cs':List SV} {v:TV} (h:Kp T d st s):Kp T d st ((s.new t cs v).set t (s.gen t) cs'):=
 ⟨h.up,fun n g hn hg=>(if_neg fun e=>absurd (h.gen n) (by rw[e.1]at hg ⊢;omega)).trans ((h.new (t:=t) (cs:=cs) (v:=v)).obj n g hn hg),(h.new (t:=t) (cs:=cs) (v:=v)).gen,h.hob⟩
theorem Kp.setH {g:Nat} {ts:List TV} (h:Kp T d st s):Kp T d st (s.setH d g ts):=
 ⟨h.up,h.obj,h.gen,fun d' g' ts hd ho hp=>(if_neg fun e=>hd e.1).trans (h.hob d' g' ts hd ho hp)⟩
theorem map_kill {n g:Nat} {ts:List TV} (hn:T n=true) (hp : ∀t∈ts,plT T t=true):(ts.map fun t=>t.kill n g)=ts:=by
 refine(List.map_congr_left fun t ht=>kill_pl (hp t ht) hn).trans (List.map_id' ts)
theorem map_frz {n g:Nat} {cs:List SV} {ts:List TV} (hn:T n=true) (hp : ∀t∈ts,plT T t=true):(ts.map fun t=>t.frz n g cs)=ts:=by
 refine(List.map_congr_left fun t ht=>frz_pl (hp t ht) hn).trans (List.map_id' ts)
theorem Kp.frzd {n g:Nat} {cs:List SV} (hn:T n=true) (h:Kp T d st s):Kp T d st (s.frzd n g cs):=
 ⟨fun u hu=>(congrArg (TV.frz n g cs) (h.up u hu)).trans (frz_pl hu hn),fun n' g' hn' hg=>(if_neg fun e=>by rw[e.1,hn]at hn';cases hn').trans (h.obj n' g' hn' hg),h.gen,
  fun d' g' ts hd ho hp=>by
   show Option.map (fun ts=>ts.map fun t=>t.frz n g cs) (s.hob d' g')=some ts
   rw[h.hob d' g' ts hd ho hp]
   exact congrArg some (map_frz hn hp)⟩
theorem Kp.grow {t n g a b c:Nat} {cs:List SV} (hn:T n=true) (h:Kp T d st s):Kp T d st (s.grow t n g a b c cs):=
 ⟨fun u hu=>(congrArg (TV.kill n g) (h.up u hu)).trans (kill_pl hu hn),fun n' g' hn' hg=>(if_neg fun e=>by rw[e.1,hn]at hn';cases hn').trans (h.obj n' g' hn' hg),h.gen,
  fun d' g' ts hd ho hp=>by
   show Option.map (fun ts=>ts.map fun t=>t.kill n g) (s.hob d' g')=some ts
   rw[h.hob d' g' ts hd ho hp]
   exact congrArg some (map_kill hn hp)⟩
theorem Kp.ins {n g:Nat} {cs:List SV} (hn:T n=true) (h:Kp T d st s):Kp T d st (insSt s n g cs):=
 ⟨fun u hu=>(congrArg (TV.kill n g) (h.up u hu)).trans (kill_pl hu hn),fun n' g' hn' hg=>(if_neg fun e=>by rw[e.1,hn]at hn';cases hn').trans (h.obj n' g' hn' hg),fun n=>Nat.le_succ_of_le (h.gen n),
  fun d' g' ts hd ho hp=>by
   show Option.map (fun ts=>ts.map fun t=>t.kill n g) (s.hob d' g')=some ts
   rw[h.hob d' g' ts hd ho hp]
   exact congrArg some (map_kill hn hp)⟩
theorem KeepT.kp {st':St} (h:KeepT T d st st'):Kp T d st st':=h.toKp
theorem keep_of {vs:List TV} (h:Kp T d (st.enter vs) s):KeepT T d st s.leave:=
 {up:=fun t ht=>by rw[up_leave,h.up (2*t+1) (by rw[up_odd];exact ht),up_odd]
  tmp:=fun t ht=>by rw[tmp_leave,h.up (2*t) (by rw[up_even];exact ht),up_even]
  obj:=h.obj
  gen:=h.gen
  hob:=h.hob }
theorem KeepT.trans {a b c:St} (h:KeepT T d a b) (k:KeepT T d b c):KeepT T d a c:=
 {h.kp.trans k.kp with tmp:=fun t ht=>by rw[k.tmp t (by rw[h.tmp t ht];exact ht),h.tmp t ht] }
end
structure SessR (st:St) (d g:Nat) (es:List Ent) (D:Int):Prop where
 ob:H0<=d
 row:(es=[]/\st.hob d g=some [.nil,.sv (.int .i64 D)]) \/ ∃g1,g1<st.gen 25/\st.hob d g=some [.ref 25 g1 2 0 es.length,.sv (.int .i64 D)]/\st.obj 25 g1=some (entC es)
theorem SessR.of {st s:St} {d g:Nat} {es:List Ent} {D:Int} (h:SessR st d g es D) (h1:s.hob d g=st.hob d g) (h2 : ∀g1,s.obj 25 g1=st.obj 25 g1) (h3:st.gen 25<=s.gen 25):SessR s d g es D:=by
 obtain⟨hd,hrow⟩:=h
 refine⟨hd,?_⟩
 rcases hrow with⟨e,ho⟩|⟨g1,hg1,ho,hobj⟩
 ·exact .inl ⟨e,h1.trans ho⟩
 ·exact .inr ⟨g1,Nat.lt_of_lt_of_le hg1 h3,h1.trans ho,(h2 g1).trans hobj⟩
theorem search_nil (t:List UInt8):Go.Ev.Fn CX 239 [.sl 0 [],.str (bs t),.fn 240 []] (.tup [.int .i64 0,.bool false]):=by
 refine fni Tryz.f239 ?_;unfold Tryz.f239;simp only[Option.get!_some]
 repeat (first|simp only[go_sem]|simp (disch:=first|exact oa|fail) only[AX]|refine wki ?_|refine wqn ?_)
 refine vp_loop_inv (fun s=>s.tmp 8 = .sv (.int .i64 0)/\s.tmp 9 = .sv (.int .i64 0)/\s.tmp 10 = .sv (.int .i64 0)) (fun _=>0) ⟨rfl,rfl,rfl⟩ ?_
 rintro s ⟨i8,i9,i10⟩
 repeat (first|simp only[go_sem,i8,i9,i10]|simp (disch:=first|exact oa|fail) only[AX,i8,i9,i10]|refine wki ?_|refine wqn ?_)
section
variable {ops:Array Oper} {l:List Oper} {dst:Option Nat} {st:St} {Q:St->Prop} {d g p:Nat} {es:List Ent} {t:List UInt8} {D:Int}
structure Same (st st':St):Prop where
 tmp : ∀t,st'.tmp t=st.tmp t
 up : ∀t,st'.up t=st.up t
 obj : ∀d g,st'.obj d g=st.obj d g
 gen:st'.gen=st.gen
 hob:st'.hob=st.hob
theorem Same.keep {T:Nat->Bool} {d:Nat} {st st':St} (h:Same st st'):KeepT T d st st' :=
 {up:=fun t _=>h.up t,tmp:=fun t _=>h.tmp t,obj:=fun n g _ _=>h.obj n g,gen:=fun n=>by rw[h.gen];exact Nat.le_refl _,hob:=fun d' g' ts _ ho _=>by rw[h.hob];exact ho }
theorem same_leave {st b s1 s:St} {vs:List TV} (h:Same b s1) (hb:b.up=(st.enter vs).up) (hb2:b.obj=st.obj) (hb3:b.gen=st.gen) (hb4:b.hob=st.hob) (hs:s.up=s1.up) (hs2:s.obj=s1.obj) (hs3:s.gen=s1.gen) (hs4:s.hob=s1.hob):Same st s.leave:=
 ⟨fun t=>by rw[tmp_leave,hs,h.up,hb,up_even],fun t=>by rw[up_leave,hs,h.up,hb,up_odd],fun d g=>by rw[obj_leave,hs2,h.obj,hb2],by rw[gen_leave,hs3,h.gen,hb3],by rw[hob_leave,hs4,h.hob,hb4]⟩
theorem sess_atS (hp:PosAt es t p) (hl:es.length<=100000) (h:SessR st d g es D)
  (k : ∀st',Same st st'->WO CX false ops l (st'.putO dst (.sv (.tup [.int .i64 p,.bool (isAt es t p)]))) Q) :
  WN CX ops l dst st Q 171 [.ptr d g 0,.sv (.str (bs t))]:=by
 obtain⟨hd,hrow⟩:=h
 have hd':2000000<=d:=hd
 rcases hrow with⟨rfl,ho⟩|⟨g1,hg1,ho,hobj⟩
 ·have:p=0:=by have:=hp.le;simpa using this
  subst this
  have c:=search_nil t
  refine wni Tryz.f171 ?_;unfold Tryz.f171;simp only[Option.get!_some]
  repeat (first|simp only[go_sem,hd',ho]|simp (disch:=first|exact oa|fail) only[AX,hd',ho]|refine wki ?_|refine wqn ?_|refine vf_of (by first|exact c) ?_)
  exact k _ ⟨fun u=>by simp only[tmp_leave,up_put,up_even],fun u=>by simp only[up_leave,up_put,up_odd],fun _ _=>rfl,rfl,rfl⟩
 ·have c:=sess_search hp hl
  refine wni Tryz.f171 ?_;unfold Tryz.f171;simp only[Option.get!_some]
  repeat (first|simp only[go_sem,hd',ho,hobj]|simp (disch:=first|exact oa|fail) only[AX,hd',ho,hobj]|refine wki ?_|refine wqn ?_)
  refine vi_of c rfl ?_
  repeat (first|simp only[go_sem,hd',ho,hobj]|simp (disch:=first|exact oa|fail) only[AX,hd',ho,hobj]|refine wki ?_|refine wqn ?_)
  refine k _ ⟨fun u=>by simp only[tmp_leave,up_put,up_set,up_even],fun u=>by simp only[up_leave,up_put,up_set,up_odd],fun d2 g2 => ?_,rfl,rfl⟩
  simp only[obj_leave,obj_put,obj_set]
  split
  ·rename_i e
   rw[e.1,e.2,<- hobj]
  ·rfl
theorem sess_at (hp:PosAt es t p) (hl:es.length<=100000) (h:SessR st d g es D)
  (k : ∀st',Keep d st st'->SessR st' d g es D->WO CX false ops l (st'.putO dst (.sv (.tup [.int .i64 p,.bool (isAt es t p)]))) Q) :
  WN CX ops l dst st Q 171 [.ptr d g 0,.sv (.str (bs t))]:=
 sess_atS hp hl h fun s hs=>k s hs.keep (h.of (by rw[hs.hob]) (fun _=>hs.obj _ _) (by rw[hs.gen];exact Nat.le_refl _))
theorem sess_insert_nil {g2:Nat} (h2:st.obj 49 g2=some [.str (bs t),.sl 0 []])
  (k : ∀st' g',Keep d st st'->g'<st'.gen 25->st'.obj 25 g'=some (entC [(t,0,[])])->st'.hob=st.hob->WO CX false ops l (st'.putO dst (.ref 25 g' 2 0 1)) Q) :
  WN CX ops l dst st Q 205 [.nil,.sv (.int .i64 0),.ref 49 g2 2 0 1]:=by
 refine wni Tryz.f205 ?_;unfold Tryz.f205;simp only[Option.get!_some]
 repeat (first|simp only[go_sem,h2]|simp (disch:=first|exact oa|fail) only[AX,h2]|refine wki ?_|refine wqn ?_|refine vpd 11 [] ?_|refine vpd 15 [] ?_)
 refine k _ (st.gen 25) (keep_of (by repeat (first|exact Kp.refl|refine Kp.put ?_|refine Kp.setH ?_|refine Kp.newset ?_|refine Kp.set rfl ?_|refine Kp.set (by assumption) ?_|refine Kp.new ?_|refine Kp.grow rfl ?_|refine Kp.frzd rfl ?_|refine Kp.ins rfl ?_))) ?_ ?_ ?_
 ·simp only[gen_leave,gen_put,gen_new,gen_enter,if_true]
  omega
 ·simp only[obj_leave,obj_put,obj_new,gen_put,gen_enter,and_self,if_true]
  rfl
 ·simp only[hob_leave,hob_put,hob_new,hob_enter]
def insE (es:List Ent) (p:Nat) (e:Ent):List Ent:=es.take p++e::es.drop p
theorem insE_len {es:List Ent} {p:Nat} {e:Ent} (hp:p<=es.length):(insE es p e).length=es.length+1:=by
 unfold insE
 rw[List.length_append,List.length_cons,List.length_take,List.length_drop]
 omega
theorem insE_end {es:List Ent} {e:Ent}:insE es es.length e=es++[e]:=by
 unfold insE
 rw[List.take_length,List.drop_length]
theorem entC_take {es:List Ent} {p:Nat} (hp:p<=es.length):entC (es.take p)=(entC es).take (p*2)/\entC (es.drop p)=(entC es).drop (p*2):=by
 have h:=entC_app (es.take p) (es.drop p)
 rw[List.take_append_drop]at h
 have hl:(entC (es.take p)).length=p*2:=by rw[entC_len,List.length_take];omega
 constructor
 ·rw[h,<- hl,List.take_left]
 ·rw[h,<- hl,List.drop_left]
theorem entC_ins {es:List Ent} {p:Nat} (hp:p<=es.length) {n:List UInt8} {m:Nat} {cs:List SV}:entC (insE es p (n,m,cs))=(entC es).take (p*2)++[.str (bs n),.sl m cs]++(entC es).drop (p*2):=by
 unfold insE
 rw[entC_app,entC_cons,(entC_take hp).1,(entC_take hp).2,List.append_assoc]
 rfl
theorem sess_insert {g1 g2:Nat} (hp:p<=es.length) (hl:es.length<=100000) (h1:st.obj 25 g1=some (entC es)) (h2:st.obj 49 g2=some [.str (bs t),.sl 0 []])
  (k : ∀st',Keep d st st'->st.gen 25<=st'.gen 25->st'.obj 25 g1=some (entC (insE es p (t,0,[])))->(∀d g,st'.hob d g=(st.hob d g).map fun ts=>ts.map fun t=>t.kill 25 g1)->WO CX false ops l (st'.putO dst (.ref 25 g1 2 0 (es.length+1))) Q) :
  WN CX ops l dst st Q 205 [.ref 25 g1 2 0 es.length,.sv (.int .i64 (p:Int)),.ref 49 g2 2 0 1]:=by
 refine wn_by (st':=insSt st 25 g1 (entC (insE es p (t,0,[])))) (r := .ref 25 g1 2 0 (es.length+1)) (e:=[]) ?_ (k _ { Kp.ins rfl Kp.refl with tmp:=fun u hu=>kill_pl hu rfl } (Nat.le_succ _) (if_pos ⟨rfl,rfl⟩) fun _ _=>rfl)
 have e:CX.X 205 [.st false st [.ref 25 g1 2 0 es.length,.sv (.int .i64 (p:Int)),.ref 49 g2 2 0 1]]=xIns [.st false st [.ref 25 g1 2 0 es.length,.sv (.int .i64 (p:Int)),.ref 49 g2 2 0 1]]:=rfl
 rw[e]
 unfold xIns
 simp only[h1,h2]
 rw[if_pos ⟨by decide,by omega,entC_len es,entC_one es,by omega,by omega,hl⟩,entC_ins hp,Int.toNat_natCast]
end
end Go.Proofs.YtheclpmgipiejaaGreatDoor
namespace Go.Proofs.YtheclpmgipiejaaGreatDoor
open Go.Ev
theorem ent_set : ∀ {es:List Ent} {k:Nat} {n:Nat} {cs:List SV},k<es.length->splice (entC es) (k*2+1) [.sl n cs]=entC (es.set k ((es.getD k default).1,n,cs))
 |e::es,0,n,cs,_=>by
  rw[entC_cons,List.set_cons_zero,entC_cons]
  rfl
 |e::es,k+1,n,cs,h=>by
  have:=ent_set (es:=es) (k:=k) (n:=n) (cs:=cs) (by simpa using h)
  rw[entC_cons,List.set_cons_succ,entC_cons,show (k+1)*2+1=(k*2+1)+2 by omega]
  unfold splice at this ⊢
  rw[List.take_succ_cons,List.take_succ_cons,List.getD_cons_succ,<- this]
  simp only[List.length_cons,List.length_nil]
  rw[show k*2+1+2+(0+1)=(k*2+1+(0+1))+2 by omega,List.drop_succ_cons,List.drop_succ_cons]
  rfl
section
variable {ops:Array Oper} {l:List Oper} {dst:Option Nat} {st:St} {Q:St->Prop} {d g p:Nat} {es:List Ent} {t:List UInt8} {D:Int}
theorem not_at (es:List Ent) (t:List UInt8):isAt es t es.length=false:=by
 unfold isAt
 rw[decide_eq_false (Nat.lt_irrefl _),Bool.false_and]
theorem insE_set {es:List Ent} {p:Nat} (hp:p<=es.length) {n:List UInt8} {m:Nat} {cs:List SV} {e:Ent} (he:e.1=n):((insE es p e).getD p default).1=n/\(insE es p e).set p (n,m,cs)=insE es p (n,m,cs):=by
 have hl:(es.take p).length=p:=by rw[List.length_take];omega
 unfold insE
 constructor
 ·rw[List.getD_eq_getElem?_getD,List.getElem?_append_right (by omega),hl,Nat.sub_self]
  exact he
 ·rw[List.set_append_right _ _ (by omega),hl,Nat.sub_self]
  rfl
theorem sess_Set_new {m:Nat} {cs rs:List SV} (ht:t.length<=1048576) (hn:nameP t=true) (hp:PosAt es t p) (hat:isAt es t p=false) (hl:es.length<16) (hm:m<=256)
  (hc:Go.Ev.Fn CX 206 [.sl m cs] (.sl m rs)) {tl:TV} (htl:tl = .sv (.sl m cs)\/(tl = .nil/\m=0/\cs=[])) (h:SessR st d g es D)
  (k : ∀st',Keep d st st'->SessR st' d g (insE es p (t,m,rs)) D->WO CX false ops l (st'.putO dst (.sv (.int .i64 0))) Q) :
  WN CX ops l dst st Q 145 [.ptr d g 0,.sv (.str (bs t)),tl]:=by
 have nm:=sess_Name t ht
 rw[hn]at nm
 have hple:=hp.le
 have hd':2000000<=d:=h.ob
 have hpt:plV tl=true:=by rcases htl with rfl|⟨rfl,_,_⟩<;>rfl
 have hpl:plV (.ptr d g 0)=true:=pl_ob h.ob
 refine wni Tryz.f145 ?_;unfold Tryz.f145;simp only[Option.get!_some]
 repeat (first|simp only[go_sem,hd',Bool.not_true]|simp (disch:=first|exact oa|fail) only[AX,hd',Bool.not_true]|refine wki ?_|refine wqn ?_|refine vpd 10 [2] ?_|refine vf_of (by first|exact nm) ?_)
 refine sess_at hp (by omega) (h.of rfl (fun _=>rfl) (Nat.le_refl _)) ?_
 intro s1 hk hs1
 have k0:s1.tmp 0 = .ptr d g 0:=hk.tmp 0 hpl
 have k1:s1.tmp 1 = .sv (.str (bs t)):=hk.tmp 1 rfl
 have k2:s1.tmp 2=tl:=hk.tmp 2 hpt
 have hu:=hk.kp
 clear hk h
 have hlen:=entC_len (insE es p (t,0,[]))
 rw[insE_len hple]at hlen
 have hset:=ent_set (es:=insE es p (t,0,[])) (k:=p) (n:=m) (cs:=rs) (by rw[insE_len hple];omega)
 rw[(insE_set (m:=m) (cs:=rs) hple rfl).1,(insE_set hple rfl).2]at hset
 unfold splice at hset
 rcases htl with rfl|⟨rfl,rfl,rfl⟩
 all_goals
  obtain⟨_,hrow⟩:=hs1
  rcases hrow with⟨rfl,ho⟩|⟨g1,hg1,ho,hobj⟩
  ·have hp0:p=0:=by simpa using hple
   subst hp0
   repeat (first|simp only[go_sem,hd',k0,k1,k2,hat,ho,Bool.not_true,Bool.not_false]|simp (disch:=first|exact oa|fail) only[AX,hd',k0,k1,k2,hat,ho,Bool.not_true,Bool.not_false]|refine wki ?_|refine wqn ?_|refine vpd 10 [2] ?_)
   refine sess_insert_nil (d:=d) (t:=t) (g2:=s1.gen 49) ?_ ?_
   ·simp only[obj_put,obj_new,gen_put,and_self,if_true]
   intro s2 g2 hk2 hg2 hobj2 hhob2
   have j0:s2.tmp 0 = .ptr d g 0:=(hk2.tmp 0 (by simp only[tmp_put,tmp_new,k0,reduceIte,Nat.reduceEqDiff];exact hpl)).trans (by simp only[tmp_put,tmp_new,k0,reduceIte,Nat.reduceEqDiff])
   have j41:s2.tmp 41 = .ptr d g 0:=(hk2.tmp 41 hpl).trans rfl
   have j7:s2.tmp 7 = .sv (.int .i64 0):=(hk2.tmp 7 rfl).trans rfl
   have j2:s2.tmp 2=s1.tmp 2:=(hk2.tmp 2 (by simp only[tmp_put,tmp_new,k2,reduceIte,Nat.reduceEqDiff];rfl)).trans (by simp only[tmp_put,tmp_new,k2,reduceIte,Nat.reduceEqDiff])
   have j2:=j2.trans k2
   have hob2:s2.hob d g=some [.nil,.sv (.int .i64 D)]:=by rw[hhob2];exact ho
   have hobj2:s2.obj 25 g2=some [.str (bs t),.sl 0 []]:=hobj2
   have hu2:=hk2.kp
   clear hk2 hhob2 k0 k1 k2
   repeat (first|simp only[go_sem,hd',j0,j41,j7,j2,hob2,hobj2]|simp (disch:=first|exact oa|fail) only[AX,hd',j0,j41,j7,j2,hob2,hobj2]|refine wki ?_|refine wqn ?_|refine vpd 10 [2] ?_|refine vf_of (by first|exact hc) ?_)
   refine k _ (keep_of (by repeat (first|exact Kp.refl|exact hu2|exact hu|refine Kp.trans ?_ hu2|refine Kp.trans ?_ hu|refine Kp.put ?_|refine Kp.setH ?_|refine Kp.newset ?_|refine Kp.set rfl ?_|refine Kp.set (by assumption) ?_|refine Kp.new ?_|refine Kp.grow rfl ?_|refine Kp.frzd rfl ?_|refine Kp.ins rfl ?_))) ⟨hd',.inr ⟨g2,?_,?_,?_⟩⟩
   ·simp only[gen_leave,gen_put,gen_set,gen_setH]
    exact hg2
   ·simp only[hob_leave,hob_put,hob_set,hob_setH,and_self,if_true]
    rfl
   ·simp only[obj_leave,obj_put,obj_set,and_self,if_true]
    rfl
  ·repeat (first|simp only[go_sem,hd',k0,k1,k2,hat,ho,hobj,Bool.not_true,Bool.not_false]|simp (disch:=first|exact oa|fail) only[AX,hd',k0,k1,k2,hat,ho,hobj,Bool.not_true,Bool.not_false]|refine wki ?_|refine wqn ?_|refine vpd 10 [2] ?_)
   refine sess_insert (d:=d) (t:=t) (es:=es) (g1:=g1) (g2:=s1.gen 49) hple (by omega) ?_ ?_ ?_
   ·simp only[obj_put,obj_new]
    rw[if_neg (by omega)]
    exact hobj
   ·simp only[obj_put,obj_new,gen_put,and_self,if_true]
   intro s2 hk2 hg2 hobj2 hhob2
   have j0:s2.tmp 0 = .ptr d g 0:=(hk2.tmp 0 (by simp only[tmp_put,tmp_new,k0,reduceIte,Nat.reduceEqDiff];exact hpl)).trans (by simp only[tmp_put,tmp_new,k0,reduceIte,Nat.reduceEqDiff])
   have j41:s2.tmp 41 = .ptr d g 0:=(hk2.tmp 41 hpl).trans rfl
   have j7:s2.tmp 7 = .sv (.int .i64 (p:Int)):=(hk2.tmp 7 rfl).trans rfl
   have j2:s2.tmp 2=s1.tmp 2:=(hk2.tmp 2 (by simp only[tmp_put,tmp_new,k2,reduceIte,Nat.reduceEqDiff];rfl)).trans (by simp only[tmp_put,tmp_new,k2,reduceIte,Nat.reduceEqDiff])
   have j2:=j2.trans k2
   have hob2:s2.hob d g=some [.undef,.sv (.int .i64 D)]:=by
    rw[hhob2]
    simp only[hob_put,hob_new]
    rw[ho]
    simp only[Option.map_some,List.map_cons,List.map_nil,TV.kill,and_self,if_true]
   have hgen2:g1<s2.gen 25:=Nat.lt_of_lt_of_le hg1 (by simpa only[gen_put,gen_new,reduceIte,Nat.reduceEqDiff]using hg2)
   have hu2:=hk2.kp
   generalize hE:entC (insE es p (t,0,[]))=E at *
   clear hk2 hhob2 k0 k1 k2
   repeat (first|simp only[go_sem,hd',j0,j41,j7,j2,hob2,hobj2,hlen]|simp (disch:=first|exact oa|fail) only[AX,hd',j0,j41,j7,j2,hob2,hobj2,hlen]|refine wki ?_|refine wqn ?_|refine vpd 10 [2] ?_|refine vf_of (by first|exact hc) ?_)
   refine k _ (keep_of (by repeat (first|exact Kp.refl|exact hu2|exact hu|refine Kp.trans ?_ hu2|refine Kp.trans ?_ hu|refine Kp.put ?_|refine Kp.setH ?_|refine Kp.newset ?_|refine Kp.set rfl ?_|refine Kp.set (by assumption) ?_|refine Kp.new ?_|refine Kp.grow rfl ?_|refine Kp.frzd rfl ?_|refine Kp.ins rfl ?_))) ⟨hd',.inr ⟨g1,?_,?_,?_⟩⟩
   ·simp only[gen_leave,gen_put,gen_set,gen_setH]
    exact hgen2
   ·simp only[hob_leave,hob_put,hob_set,hob_setH,and_self,if_true]
    rw[insE_len hple]
   ·simp only[obj_leave,obj_put,obj_set,and_self,if_true]
    exact congrArg some hset
theorem sess_Set_end {m:Nat} {cs rs:List SV} (ht:t.length<=1048576) (hn:nameP t=true) (hp:PosAt es t es.length) (hl:es.length<16) (hm:m<=256)
  (hc:Go.Ev.Fn CX 206 [.sl m cs] (.sl m rs)) {tl:TV} (htl:tl = .sv (.sl m cs)\/(tl = .nil/\m=0/\cs=[])) (h:SessR st d g es D)
  (k : ∀st',Keep d st st'->SessR st' d g (es++[(t,m,rs)]) D->WO CX false ops l (st'.putO dst (.sv (.int .i64 0))) Q) :
  WN CX ops l dst st Q 145 [.ptr d g 0,.sv (.str (bs t)),tl]:=
 sess_Set_new ht hn hp (not_at es t) hl hm hc htl h fun st' hk hs=>k st' hk (by rw[insE_end]at hs;exact hs)
end
end Go.Proofs.YtheclpmgipiejaaGreatDoor
namespace Go.Proofs.YtheclpmgipiejaaGreatDoor
open Go.Ev
section
variable {ops:Array Oper} {l:List Oper} {dst:Option Nat} {st:St} {Q:St->Prop} {d g p:Nat} {es:List Ent} {t:List UInt8} {D:Int}
theorem sess_Let_end {x:List UInt8} {qs:List Rat} (ht:t.length<=1048576) (hn:nameP t=true) (hp:PosAt es t es.length) (hl:es.length<16) (hx:x.length<=100000) (hx2:parseP x=(0,qs)) (hm:qs.length<=256)
  (h:SessR st d g es D)
  (k : ∀st',Keep d st st'->SessR st' d g (es++[(t,qs.length,rvsC qs)]) D->WO CX false ops l (st'.putO dst (.sv (.int .i64 0))) Q) :
  WN CX ops l dst st Q 101 [.ptr d g 0,.sv (.str (bs t)),.sv (.str (bs x))]:=by
 have nm:=sess_Name t ht
 rw[hn]at nm
 have hP:=data_Parse x hx
 have hz : ∀q∈(parseP x).2,szR q 500:=parse_sz
 rw[hx2]at hP hz
 have hc:=sess_copied (rvsC_row (L:=500) qs hz) (by omega) (by omega) (by omega)
 have hd':2000000<=d:=h.ob
 have hpl:plV (.ptr d g 0)=true:=pl_ob h.ob
 refine wni Tryz.f101 ?_;unfold Tryz.f101;simp only[Option.get!_some]
 repeat (first|simp only[go_sem,hd',Bool.not_true]|simp (disch:=first|exact oa|fail) only[AX,hd',Bool.not_true]|refine wki ?_|refine wqn ?_|refine vf_of (by first|exact nm|exact hP) ?_)
 refine sess_Set_end ht hn hp hl hm hc (.inl rfl) (h.of rfl (fun _=>rfl) (Nat.le_refl _)) ?_
 intro s1 hk hs1
 repeat (first|simp only[go_sem]|simp (disch:=first|exact oa|fail) only[AX]|refine wki ?_|refine wqn ?_)
 exact k _ (keep_of (by repeat (first|exact Kp.refl|exact hk.kp|refine Kp.trans ?_ hk.kp|refine Kp.put ?_|refine Kp.setH ?_|refine Kp.newset ?_|refine Kp.set rfl ?_|refine Kp.set (by assumption) ?_|refine Kp.new ?_|refine Kp.grow rfl ?_|refine Kp.frzd rfl ?_|refine Kp.ins rfl ?_))) (hs1.of rfl (fun _=>rfl) (Nat.le_refl _))
theorem sess_Get_atS {rs:List SV} (hp:PosAt es t p) (hl:es.length<=100000) (hat:isAt es t p=true) (hc:Go.Ev.Fn CX 206 [.sl (es.getD p default).2.1 (es.getD p default).2.2] (.sl (es.getD p default).2.1 rs)) (h:SessR st d g es D)
  (k : ∀st',Same st st'->WO CX false ops l (st'.putO dst (.sv (.tup [.sl (es.getD p default).2.1 rs,.int .i64 0]))) Q) :
  WN CX ops l dst st Q 170 [.ptr d g 0,.sv (.str (bs t))]:=by
 have hd':2000000<=d:=h.ob
 have hpl:plV (.ptr d g 0)=true:=pl_ob h.ob
 refine wni Tryz.f170 ?_;unfold Tryz.f170;simp only[Option.get!_some]
 repeat (first|simp only[go_sem,hd']|simp (disch:=first|exact oa|fail) only[AX,hd']|refine wki ?_|refine wqn ?_)
 refine sess_atS hp hl (h.of rfl (fun _=>rfl) (Nat.le_refl _)) ?_
 intro s1 hk
 have k0:s1.tmp 0 = .ptr d g 0:=hk.tmp 0
 have hs1:SessR s1 d g es D:=h.of (by rw[hk.hob];rfl) (fun _=>(hk.obj _ _).trans rfl) (by rw[hk.gen];exact Nat.le_refl _)
 clear h
 obtain⟨_,hrow⟩:=hs1
 have hpl:p<es.length:=by
  unfold isAt at hat
  rw[Bool.and_eq_true]at hat
  exact of_decide_eq_true hat.1
 rcases hrow with⟨rfl,_⟩|⟨g1,hg1,ho,hobj⟩
 ·simp at hpl
 obtain⟨rest,hx⟩:=ent_at hpl
 have hx1:(entC es).drop (p*2+1) = .sl (es.getD p default).2.1 (es.getD p default).2.2::rest:=by
  rw[<- List.drop_drop,hx]
  rfl
 have hlen:=entC_len es
 repeat (first|simp only[go_sem,hd',k0,hat,ho,hobj,Bool.not_true,hlen,hx1,List.head?_cons]|simp (disch:=first|exact oa|fail) only[AX,hd',k0,hat,ho,hobj,Bool.not_true,hlen,hx1,List.head?_cons]|refine wki ?_|refine wqn ?_|refine vf_of (by first|exact hc) ?_)
 exact k _ (same_leave (vs:=[.ptr d g 0,.sv (.str (bs t))]) hk rfl rfl rfl rfl rfl rfl rfl rfl)
end
end Go.Proofs.YtheclpmgipiejaaGreatDoor
namespace Go.Ev
def dgN:Nat->Nat->List UInt8
 |0,_=>[]
 |k+1,n=>UInt8.ofNat (48+n%10)::dgN k (n/10)
theorem dgN_len : ∀ (k n:Nat),(dgN k n).length=k
 |0,_=>rfl
 |k+1,n=>by rw[dgN,List.length_cons,dgN_len k]
theorem dgN_digs : ∀ (k n:Nat),digs (dgN k n)=true
 |0,_=>rfl
 |k+1,n=>by
  rw[dgN]
  unfold digs
  rw[List.all_cons,dig_ofNat,Bool.true_and]
  exact dgN_digs k _
theorem natLE_dgN : ∀ (k n:Nat),natLE (dgN k n)=n%10^k
 |0,n=>by rw[dgN,natLE,Nat.pow_zero,Nat.mod_one]
 |k+1,n=>by
  rw[dgN,natLE,dig_of,natLE_dgN k,Nat.pow_succ',Nat.mod_mul]
  omega
theorem dgN_snoc : ∀ (k n:Nat),dgN (k+1) n=dgN k n++[UInt8.ofNat (48+n/10^k%10)]
 |0,n=>by simp[dgN]
 |k+1,n=>by
  rw[dgN,dgN_snoc k,dgN,List.cons_append,Nat.div_div_eq_div_mul,<- Nat.pow_succ']
theorem digs_app {a b:List UInt8}:digs (a++b)=(digs a&&digs b):=by unfold digs;rw[List.all_append]
theorem dgR_strip {l:List UInt8} {n:Nat} (hd:digs l=true) (hv:natLE l=n) (hn:n≠0) :
  (∃c:UInt8,l.getLast?=some c/\c≠48/\l=dgR n)\/(∃l',l=l'++[48]/\l'≠[]/\digs l'=true/\natLE l'=n):=by
 have hne:l≠[]:=fun h=>by subst h;exact hn hv.symm
 obtain⟨a,c,rfl⟩ : ∃a c,l=a++[c]:=⟨l.dropLast,l.getLast hne,(List.dropLast_concat_getLast hne).symm⟩
 by_cases hc:c=48
 ·subst hc
  right
  rw[digs_app,Bool.and_eq_true]at hd
  have h2:natLE a=n:=by
   rw[natLE_append]at hv
   simpa[natLE]using hv
  refine⟨a,rfl,fun h => ?_,hd.1,h2⟩
  subst h
  exact hn h2.symm
 ·left
  refine⟨c,by simp,hc,?_⟩
  rw[<- hv]
  exact(dgR_unique hd (.inr ⟨a,c,rfl,hc⟩)).symm
theorem dec_pos {n:Nat} (h:n≠0):dec n=(dgR n).reverse:=by unfold dec;rw[if_neg h]
theorem dgR_len_le {n k:Nat} (h:n<10^k):(dgR n).length<=k:=by
 induction k generalizing n with
 |zero=>
  have:n=0:=by simpa using h
  subst this
  rw[dgR_zero]
  simp
 |succ k ih=>
  by_cases hn:n=0
  ·subst hn;rw[dgR_zero];simp
  ·rw[dgR_pos hn,List.length_cons]
   have:=ih (n:=n/10) (by rw[Nat.pow_succ]at h;omega)
   omega
theorem dec_len_le {n k:Nat} (h:n<10^k) (hk:1<=k):(dec n).length<=k:=by
 unfold dec
 split
 ·simpa using hk
 ·rw[List.length_reverse]
  exact dgR_len_le h
def u8c (l:List UInt8):List SV:=l.map fun b => .int .u8 (b.toNat:Int)
theorem u8c_len (l:List UInt8):(u8c l).length=l.length:=by simp[u8c]
theorem u8c_app (a b:List UInt8):u8c (a++b)=u8c a++u8c b:=by simp[u8c]
theorem u8c_bytes (l:List UInt8):bytesOf (u8c l)=some l:=by
 induction l with
 |nil=>rfl
 |cons b l ih=>
  show (match bytesOf (u8c l) with|some l=>some (UInt8.ofNat (b.toNat:Int).toNat::l)|none=>none)=_
  rw[ih]
  simp
end Go.Ev
namespace Go.Proofs.YtheclpmgipiejaaGreatDoor
open Go.Ev
theorem set_splice {cs:List SV} {i:Nat} {v:SV} (h:i<cs.length):cs.take i++[v]++cs.drop (i+1)=cs.set i v:=by
 rw[List.set_eq_take_append_cons_drop,if_pos h]
 simp
theorem exp_rev {s:St} {cs:List SV} {n:Nat}:expOf s [.impref cs 1 0 n]=[s.obj 1000000 0]:=rfl
theorem rev_fn (D:List UInt8) (rest:List SV) (hl:D.length<=1099511627776) : ∃r exps,(r = .tup []/\exps=[some (u8c D.reverse++rest)]) /\
  FnI CX 238 [.impref (u8c D++rest) 1 0 D.length] r exps:=by
 refine FnI_of (fn:=Tryz.f238) (body:=(Tryz.f238).body.get!) (by kernel_rfl) (by kernel_rfl) (by kernel_rfl) (fun _=>rfl) (Nat.le_of_ble_eq_true (by kernel_rfl)) ?_
 unfold Tryz.f238
 simp only[Option.get!_some,exp_rev]
 generalize hn:D.length=n at *
 have hD : ∀k,k<n->(u8c D++rest)[k]?=some (.int .u8 ((D.getD k 0).toNat:Int)):=by
  intro k hk
  rw[List.getElem?_append_left (by rw[u8c_len];omega)]
  unfold u8c
  rw[List.getElem?_map,List.getD_eq_getElem?_getD,List.getElem?_eq_getElem (by omega)]
  rfl
 have hN:n<=(u8c D++rest).length:=by rw[List.length_append,u8c_len];omega
 have hfin : ∀cs:List SV,cs.length=(u8c D++rest).length->(∀k,cs[k]?=if k<n then (u8c D++rest)[n-1-k]? else (u8c D++rest)[k]?)->cs=u8c D.reverse++rest:=by
  intro cs h1 h2
  refine List.ext_getElem? fun k => ?_
  rw[h2 k]
  split
  ·rename_i hk
   rw[hD _ (by omega),List.getElem?_append_left (by rw[u8c_len,List.length_reverse];omega)]
   unfold u8c
   rw[List.getElem?_map,List.getElem?_reverse (by omega),List.getD_eq_getElem?_getD,hn,List.getElem?_eq_getElem (by omega)]
   rfl
  ·rw[List.getElem?_append_right (by rw[u8c_len];omega),List.getElem?_append_right (by rw[u8c_len,List.length_reverse];omega),u8c_len,u8c_len,List.length_reverse]
 generalize hcs:u8c D++rest=C0 at *
 generalize hR:u8c D.reverse++rest=R at *
 repeat (first|simp only[go_sem,N0]|simp (disch:=first|exact oa|fail) only[AX,N0]|refine wki ?_|refine wqn ?_|refine vpx [] ?_)
 refine vp_loop_inv (fun s=>s.tmp 0 = .ref 1000000 0 1 0 n /\ ∃ (i:Nat) (j:Int) (cs:List SV),s.tmp 2 = .sv (.int .i64 (i:Int))/\s.tmp 3 = .sv (.int .i64 j)/\s.obj 1000000 0=some cs/\(i:Int)+j+1=n/\(i:Int)<=j+2/\cs.length=C0.length /\
   ∀k:Nat,cs[k]?=if k<n/\(k<i\/n<=k+i) then C0[n-1-k]? else C0[k]?)
  (fun s=>match s.tmp 2 with | .sv (.int _ i)=>n-i.toNat|_=>0) ?_ ?_
 ·refine⟨rfl,0,_,C0,rfl,rfl,rfl,by omega,by omega,rfl,fun k => ?_⟩
  rw[if_neg (by omega)]
 rintro s ⟨i0,i,j,cs,i2,i3,iO,hij,hle,hlen,hk⟩
 by_cases hend:(i:Int)<j
 ·obtain⟨m,rfl⟩ : ∃m:Nat,j=m:=⟨j.toNat,by omega⟩
  have hi':=hk i
  rw[if_neg (by omega),hD i (by omega)]at hi'
  have hm':=hk m
  rw[if_neg (by omega),hD m (by omega)]at hm'
  have h1:(cs.drop i).head?=some (.int .u8 ((D.getD i 0).toNat:Int)):=by rw[List.head?_drop];exact hi'
  have h2:(cs.drop m).head?=some (.int .u8 ((D.getD m 0).toNat:Int)):=by rw[List.head?_drop];exact hm'
  generalize hx:(D.getD i 0).toNat=x at *
  generalize hy:(D.getD m 0).toNat=y at *
  have s1:cs.take i++[SV.int .u8 (y:Int)]++cs.drop (i+1)=cs.set i (.int .u8 (y:Int)):=set_splice (by omega)
  have s2:(cs.set i (.int .u8 (y:Int))).take m++[SV.int .u8 (x:Int)]++(cs.set i (.int .u8 (y:Int))).drop (m+1)=(cs.set i (.int .u8 (y:Int))).set m (.int .u8 (x:Int)):=set_splice (by rw[List.length_set];omega)
  have l2:(cs.set i (.int .u8 (y:Int))).length=cs.length:=List.length_set
  repeat (first|simp only[go_sem,i0,i2,i3,iO,h1,h2,hlen,s1,s2,l2]|simp (disch:=first|exact oa|fail) only[AX,i0,i2,i3,iO,h1,h2,hlen,s1,s2,l2]|refine wki ?_|refine wqn ?_|refine vpx [] ?_)
  refine⟨⟨i+1,((m-1:Nat):Int),_,rfl,rfl,rfl,by omega,by omega,by rw[List.length_set,List.length_set];exact hlen,fun k => ?_⟩,by omega⟩
  by_cases hkm:m=k
  ·subst hkm
   rw[List.getElem?_set_self (by rw[List.length_set];omega),if_pos (by omega),show n-1-m=i by omega,hD i (by omega),hx]
  ·rw[List.getElem?_set_ne hkm]
   by_cases hki:i=k
   ·subst hki
    rw[List.getElem?_set_self (by omega),if_pos (by omega),show n-1-i=m by omega,hD m (by omega),hy]
   ·rw[List.getElem?_set_ne hki,hk k]
    by_cases hc:k<n/\(k<i\/n<=k+i)
    ·rw[if_pos hc,if_pos (by omega)]
    ·rw[if_neg hc,if_neg (by omega)]
 ·have he:cs=R:=by
   refine hfin cs hlen fun k => ?_
   rw[hk k]
   by_cases hkn:k<n
   ·rw[if_pos hkn]
    by_cases hc:k<n/\(k<i\/n<=k+i)
    ·rw[if_pos hc]
    ·rw[if_neg hc]
     congr 1
     omega
   ·rw[if_neg hkn,if_neg (by omega)]
  subst he
  repeat (first|simp only[go_sem,i0,i2,i3,iO]|simp (disch:=first|exact oa|fail) only[AX,i0,i2,i3,iO]|refine wki ?_|refine wqn ?_|refine vpx [] ?_)
  exact⟨_,_,⟨rfl,rfl⟩,rfl,rfl⟩
theorem u_bytes:Tryz.prog.underlying 63=some (.slice 5):=by kernel_rfl
theorem u_str:Tryz.prog.underlying 9=some .string:=by kernel_rfl
theorem u_byte:isInt Tryz.prog 5=some .u8:=by kernel_rfl
theorem dig_ix (r:Nat):([48,49,50,51,52,53,54,55,56,57]:List UInt8)[r%10]?=some (UInt8.ofNat (48+r%10)):=by
 have key : ∀k:Nat,k<10->([48,49,50,51,52,53,54,55,56,57]:List UInt8)[k]?=some (UInt8.ofNat (48+k)):=by decide
 exact key _ (Nat.mod_lt _ (by omega))
theorem u8c_snoc (l:List UInt8) (b:UInt8):u8c l++[SV.int .u8 (b.toNat:Int)]=u8c (l++[b]):=by simp[u8c]
theorem len_of_dec {L:List UInt8} {n m K:Nat} (hn:n<10^K) (h:natLE L+10^L.length*m=n) (hm:m≠0):L.length<K:=by
 have h1:10^L.length*1<=10^L.length*m:=Nat.mul_le_mul_left _ (by omega)
 exact(Nat.pow_lt_pow_iff_right (a:=10) (by omega)).1 (by omega)
theorem nat_Print (n K:Nat) (hK:n<10^K) (hk:K<=400):Go.Ev.Fn CX 163 [natV (lim n)] (.str (bs (dec n))):=by
 have hlim:=lim_ten hK
 have hT:=nat_Trim (lim n) (okL_lim _) (by omega)
 rw[wth_lim]at hT
 by_cases hn:n=0
 ·subst hn
  rw[show dec 0=[48] from rfl]
  rw[lim_zero]at hT ⊢
  refine fni Tryz.f163 ?_;unfold Tryz.f163;simp only[Option.get!_some]
  repeat (first|simp only[go_sem,mk_bs]|simp (disch:=first|exact oa|fail) only[AX,mk_bs]|refine wki ?_|refine wqn ?_|refine vf_of (by first|exact hT) ?_)
 have hpos:=lim_pos hn
 refine fni Tryz.f163 ?_;unfold Tryz.f163;simp only[Option.get!_some]
 repeat (first|simp only[go_sem]|simp (disch:=first|exact oa|fail) only[AX]|refine wki ?_|refine wqn ?_|refine vf_of (by first|exact hT) ?_)
 refine vp_mono (R:=fun e s=>e = .exit 0 /\ ∃l:List UInt8,s.tmp 3 = .ref 26 0 1 0 l.length/\s.obj 26 0=some (u8c l)/\digs l=true/\natLE l=n/\l.length<=1000) ?_ ?_
 ·refine vp_loop_inv (fun s => ∃ (m:Nat) (L:List UInt8),s.tmp 0 = .sv (natV (lim m))/\m<=n/\digs L=true/\natLE L+10^L.length*m=n/\L.length<=409 /\
    ((L=[]/\s.tmp 3 = .nil/\s.gen 26=0)\/(L≠[]/\s.tmp 3 = .ref 26 0 1 0 L.length/\s.obj 26 0=some (u8c L))))
   (fun s=>match s.tmp 0 with | .sv (.sl _ cs)=>(match decL cs with|some l=>wth l|none=>0)|_=>0) ?_ ?_
  ·exact⟨n,[],rfl,Nat.le_refl _,rfl,by simp[natLE],by simp,.inl ⟨rfl,rfl,rfl⟩⟩
  rintro s ⟨m,L,i0,hmn,hdL,hv,hL,hc⟩
  by_cases hm:m=0
  ·subst hm
   rw[Nat.mul_zero,Nat.add_zero]at hv
   rcases hc with⟨rfl,_⟩|⟨_,i3,iO⟩
   ·exact absurd hv.symm hn
   ·rw[lim_zero]at i0
    repeat (first|simp only[go_sem,i0,i3,iO]|simp (disch:=first|exact oa|fail) only[AX,i0,i3,iO]|refine wki ?_|refine wqn ?_)
    exact⟨L,rfl,rfl,hdL,hv,by omega⟩
  ·have hLl:=len_of_dec hK hv hm
   have h1:=lim_pos hm
   have h2:=lim_ten (Nat.lt_of_le_of_lt hmn hK)
   have hs:=nat_small (lim m) 1000000000 (okL_lim _) (by omega) (by omega) (by omega)
   rw[wth_lim]at hs
   have hr0:m%1000000000<1000000000:=Nat.mod_lt _ (by omega)
   have hdm:m%1000000000+1000000000*(m/1000000000)=m:=Nat.mod_add_div _ _
   have hlt:m/1000000000<m:=Nat.div_lt_self (by omega) (by omega)
   generalize hr:m%1000000000=r0 at *
   generalize hq:m/1000000000=q at *
   repeat (first|simp only[go_sem,i0]|simp (disch:=first|exact oa|fail) only[AX,i0]|refine wki ?_|refine wqn ?_|refine vf_of (by first|exact hs) ?_)
   refine vp_loop_inv (fun s'=>s'.tmp 4 = .sv (natV (lim q)) /\ ∃i:Nat,s'.tmp 19 = .sv (.int .i64 (i:Int))/\i<=9/\s'.tmp 5 = .sv (limb (r0/10^i)) /\
     ((L++dgN i r0=[]/\s'.tmp 3 = .nil/\s'.gen 26=0)\/(L++dgN i r0≠[]/\s'.tmp 3 = .ref 26 0 1 0 (L++dgN i r0).length/\s'.obj 26 0=some (u8c (L++dgN i r0)))))
    (fun s=>match s.tmp 19 with | .sv (.int _ i)=>9-i.toNat|_=>0) ?_ ?_
   ·refine⟨rfl,0,rfl,by omega,by rw[Nat.pow_zero,Nat.div_one];rfl,?_⟩
    rw[show dgN 0 r0=[] from rfl,List.append_nil]
    exact hc
   rintro s2 ⟨j4,i,j19,hi,j5,hc2⟩
   have hlen:(L++dgN i r0).length<=500:=by rw[List.length_append,dgN_len];omega
   by_cases hend:i=9
   ·subst hend
    have hL9:L++dgN 9 r0≠[]:=by
     intro h
     have:=congrArg List.length h
     rw[List.length_append,dgN_len]at this
     simp at this
    rcases hc2 with⟨h0,_⟩|⟨_,j3,jO⟩
    ·exact absurd h0 hL9
    ·repeat (first|simp only[go_sem,j4,j19,j5,j3,jO]|simp (disch:=first|exact oa|fail) only[AX,j4,j19,j5,j3,jO]|refine wki ?_|refine wqn ?_)
     refine⟨⟨q,L++dgN 9 r0,rfl,by omega,?_,?_,by rw[List.length_append,dgN_len];omega,.inr ⟨hL9,by rw[List.length_append],rfl⟩⟩,?_⟩
     ·rw[digs_app,hdL,dgN_digs];rfl
     ·rw[natLE_append,natLE_dgN,List.length_append,dgN_len,Nat.mod_eq_of_lt hr0,<- hv,<- hdm,Nat.pow_add,Nat.mul_add]
      have:10^L.length*10^9*q=10^L.length*(1000000000*q):=by rw[Nat.mul_assoc]
      omega
     ·rw[decL_map (okL_lim _),decL_map (okL_lim _)]
      dsimp only
      rw[wth_lim,wth_lim]
      exact hlt
   ·have hx:=dig_ix (r0/10^i)
    have hsn:dgN (i+1) r0=dgN i r0++[UInt8.ofNat (48+r0/10^i%10)]:=dgN_snoc i r0
    have hdd:r0/10^i/10=r0/10^(i+1):=by rw[Nat.div_div_eq_div_mul,<- Nat.pow_succ]
    have hx32:r0/10^i<1000000000:=Nat.lt_of_le_of_lt (Nat.div_le_self _ _) hr0
    have hap:=u8c_snoc (L++dgN i r0) (UInt8.ofNat (48+r0/10^i%10))
    rw[List.append_assoc,<- hsn]at hap
    have hlen1:(L++dgN (i+1) r0).length=(L++dgN i r0).length+1:=by rw[List.length_append,List.length_append,dgN_len,dgN_len];omega
    have hne1:L++dgN (i+1) r0≠[]:=by intro h;rw[h]at hlen1;simp at hlen1
    have hcl:=u8c_len (L++dgN i r0)
    generalize hL2:L++dgN (i+1) r0=L2 at *
    have hL3:L.length+(dgN (i+1) r0).length=L2.length:=by rw[<- hL2,List.length_append]
    generalize L++dgN i r0=L1 at *
    generalize r0/10^i=x at *
    have e10:(x:Int).tmod 10=((x%10:Nat):Int):=by rw[Int.tmod_eq_emod_of_nonneg (by omega)];omega
    have e11:(x:Int).tdiv 10=((x/10:Nat):Int):=by rw[Int.tdiv_eq_ediv_of_nonneg (by omega)];omega
    generalize UInt8.ofNat (48+x%10)=b at *
    clear hdm hlt hv hr0 hsn hLl
    rcases hc2 with⟨h0,j3,jg⟩|⟨h0,j3,jO⟩
    ·subst h0
     simp only[u8c,List.map_nil,List.nil_append]at hap
     repeat (first|simp only[go_sem,j4,j19,j5,j3,jg,mk_bs,vo_ix,idxB_bs,hx,e10,e11,Int.toNat_natCast]|simp (disch:=first|exact oa|fail) only[AX,j4,j19,j5,j3,jg,mk_bs,vo_ix,idxB_bs,hx,e10,e11,Int.toNat_natCast]|refine wki ?_|refine wqn ?_)
     exact⟨⟨i+1,rfl,by omega,by rw[<- hdd],.inr ⟨by rw[hL2];exact hne1,by rw[hL3,hlen1];rfl,by rw[hL2];exact hap⟩⟩,by omega⟩
    ·repeat (first|simp only[go_sem,j4,j19,j5,j3,jO,mk_bs,vo_ix,idxB_bs,hx,hcl,e10,e11,Int.toNat_natCast,N0]|simp (disch:=first|exact oa|fail) only[AX,j4,j19,j5,j3,jO,mk_bs,vo_ix,idxB_bs,hx,hcl,e10,e11,Int.toNat_natCast,N0]|refine wki ?_|refine wqn ?_)
     exact⟨⟨i+1,rfl,by omega,by rw[<- hdd],.inr ⟨by rw[hL2];exact hne1,by first|rw[hL3,hlen1]|rw[hL2,hlen1],by rw[hL2];first|exact hap|(rw[<- hap])⟩⟩,by omega⟩
 rintro e s ⟨rfl,l,i3,iO,hd,hv,hl⟩
 repeat (first|simp only[go_sem]|simp (disch:=first|exact oa|fail) only[AX]|refine wki ?_|refine wqn ?_)
 refine vp_mono (R:=fun e s=>e = .exit 4 /\ ∃rest:List SV,s.tmp 3 = .ref 26 0 1 0 (dgR n).length/\s.obj 26 0=some (u8c (dgR n)++rest)) ?_ ?_
 ·refine vp_loop_inv (fun s => ∃ (l:List UInt8) (rest:List SV),s.tmp 3 = .ref 26 0 1 0 l.length/\s.obj 26 0=some (u8c l++rest)/\digs l=true/\natLE l=n/\l.length<=1000)
   (fun s=>match s.tmp 3 with | .ref _ _ _ _ n=>n|_=>0) ⟨l,[],i3,by rw[List.append_nil];exact iO,hd,hv,hl⟩ ?_
  rintro s ⟨l,rest,i3,iO,hd,hv,hl⟩
  have hcl:=u8c_len l
  rcases dgR_strip hd hv hn with⟨c,h1,h2,h3⟩|⟨l',rfl,h2,h3,h4⟩
  ·by_cases hl1:l.length<=1
   ·repeat (first|simp only[go_sem,i3,iO]|simp (disch:=first|exact oa|fail) only[AX,i3,iO]|refine wki ?_|refine wqn ?_)
    exact⟨rest,by rw[<- h3],by rw[<- h3]⟩
   ·have hh:((u8c l++rest).drop (l.length-1)).head?=some (.int .u8 (c.toNat:Int)):=by
     rw[List.head?_drop,List.getElem?_append_left (by rw[u8c_len];omega)]
     unfold u8c
     rw[List.getElem?_map,<- List.getLast?_eq_getElem?,h1]
     rfl
    have hc48 : ¬(c.toNat:Int)=48:=fun e=>h2 (UInt8.toNat_inj.1 (by rw[show (48:UInt8).toNat=48 from rfl];omega))
    repeat (first|simp only[go_sem,i3,iO,hh,hc48]|simp (disch:=first|exact oa|fail) only[AX,i3,iO,hh,hc48]|refine wki ?_|refine wqn ?_)
    exact⟨rest,by rw[<- h3],by rw[<- h3]⟩
  ·have hl2:0<l'.length:=List.length_pos_iff.2 h2
   have hll:(l'++[48]).length=l'.length+1:=by simp
   have hh:((u8c (l'++[48])++rest).drop l'.length).head?=some (.int .u8 48):=by
    rw[u8c_app,List.append_assoc,List.drop_append_of_le_length (by rw[u8c_len];exact Nat.le_refl _),List.drop_of_length_le (by rw[u8c_len];exact Nat.le_refl _)]
    rfl
   have e2:u8c (l'++[48])++rest=u8c l'++(.int .u8 48::rest):=by rw[u8c_app,List.append_assoc];rfl
   rw[hll]at i3
   repeat (first|simp only[go_sem,i3,iO,hh,Nat.add_sub_cancel]|simp (disch:=first|exact oa|fail) only[AX,i3,iO,hh,Nat.add_sub_cancel]|refine wki ?_|refine wqn ?_)
   exact⟨⟨l',.int .u8 48::rest,rfl,by first|rfl|(rw[<- e2];exact iO)|exact e2,h3,h4,by omega⟩,by omega⟩
 rintro e s ⟨rfl,rest,i3,iO⟩
 repeat (first|simp only[go_sem]|simp (disch:=first|exact oa|fail) only[AX]|refine wki ?_|refine wqn ?_)
 have hdl:=dgR_len_le hK
 obtain⟨r,exps,⟨rfl,rfl⟩,hf⟩:=rev_fn (dgR n) rest (by omega)
 have htk:(u8c (dgR n).reverse++rest).take (dgR n).length=u8c (dec n):=by
  rw[dec_pos hn,List.take_append_of_le_length (by rw[u8c_len,List.length_reverse];exact Nat.le_refl _),List.take_of_length_le (by rw[u8c_len,List.length_reverse];exact Nat.le_refl _)]
 have hcl:(u8c (dec n)).length=(dgR n).length:=by rw[u8c_len,dec_pos hn,List.length_reverse]
 have hby:=u8c_bytes (dec n)
 repeat (first|simp only[go_sem,i3,iO]|simp (disch:=first|exact oa|fail) only[AX,i3,iO]|refine wki ?_|refine wqn ?_)
 refine vi_of hf rfl ?_
 repeat (first|simp only[go_sem,i3,iO,htk,hby,hcl,mk_bs,u_bytes,u_str,u_byte]|simp (disch:=first|exact oa|fail) only[AX,i3,iO,htk,hby,hcl,mk_bs,u_bytes,u_str,u_byte]|refine wki ?_|refine wqn ?_)
end Go.Proofs.YtheclpmgipiejaaGreatDoor
namespace Go.Proofs.YtheclpmgipiejaaGreatDoor
open Go.Ev
def sgT (s:Bool):List UInt8:=if s then [45] else []
theorem sgT_len (s:Bool):(sgT s).length<=1:=by cases s<;>decide
theorem ratT_eq (q:Rat):ratT q=sgT (decide (q.num<0))++dec q.num.natAbs++(if q.den=1 then [] else 47::dec q.den):=by
 unfold ratT sgT
 by_cases h:q.num<0<;>simp[h]
theorem lim20 {n:Nat} (h:(lim n).length<=20):n<10^200:=by
 have h1:=wth_lt (okL_lim n)
 rw[wth_lim]at h1
 have h2:4294967296^(lim n).length<=4294967296^20:=Nat.pow_le_pow_right (by omega) h
 exact Nat.lt_of_lt_of_le h1 (Nat.le_trans h2 (Nat.le_of_ble_eq_true (by kernel_rfl)))
theorem dec_sign (s:Bool) (n d:List Nat):Go.Ev.Fn CX 162 [ratV s n d] (.str (bs (sgT s))):=by
 have z0:sgT false=[]:=rfl
 have z1:sgT true=[45]:=rfl
 cases s
 ·rw[z0]
  refine fni Tryz.f162 ?_;unfold Tryz.f162;simp only[Option.get!_some]
  repeat (first|simp only[go_sem,mk_bs]|simp (disch:=first|exact oa|fail) only[AX,mk_bs]|refine wki ?_|refine wqn ?_)
 ·rw[z1]
  refine fni Tryz.f162 ?_;unfold Tryz.f162;simp only[Option.get!_some]
  repeat (first|simp only[go_sem,mk_bs]|simp (disch:=first|exact oa|fail) only[AX,mk_bs]|refine wki ?_|refine wqn ?_)
theorem cmpN_one {d:Nat}:(cmpN d 1 != 0) = !(decide (d=1)):=by
 unfold cmpN
 by_cases h:d=1
 ·subst h;rfl
 ·rw[decide_eq_false h]
  by_cases h0:d<1
  ·rw[if_pos h0];rfl
  ·rw[if_neg h0,if_neg h];rfl
theorem dec_Print {v:SV} {q:Rat} {L:Nat} (h:RatA v q L) (hL:1<=L) (hL2:L<=20):Go.Ev.Fn CX 114 [v] (.str (bs (ratT q))):=by
 have hn:Go.Ev.Fn CX 93 [v] (ratV (decide (q.num<0)) (lim q.num.natAbs) (lim q.den)):=rat_Norm h (by omega)
 obtain⟨z1,z2⟩:=szR_of h hL
 have p1:=nat_Print q.num.natAbs 200 (lim20 (by omega)) (by omega)
 have p2:=nat_Print q.den 200 (lim20 (by omega)) (by omega)
 have l1:=dec_len_le (lim20 (n:=q.num.natAbs) (by omega)) (by omega)
 have l2:=dec_len_le (lim20 (n:=q.den) (by omega)) (by omega)
 have o1:=nat_Of 1 (by omega)
 have c:=nat_CmpL (N:=q.den) (D:=1) (by omega) (by decide)
 have sg:=dec_sign (decide (q.num<0)) (lim q.num.natAbs) (lim q.den)
 have l0:=sgT_len (decide (q.num<0))
 have cn:=cmpN_one (d:=q.den)
 rw[ratT_eq]
 obtain⟨s,n,d,rfl,-⟩:=h
 generalize decide (q.num<0)=S at *
 generalize q.num.natAbs=N at *
 generalize q.den=D at *
 generalize sgT S=T at *
 by_cases hD:D=1
 ·rw[if_pos hD,List.append_nil]
  rw[decide_eq_true hD]at cn
  refine fni Tryz.f114 ?_;unfold Tryz.f114;simp only[Option.get!_some]
  repeat (first|simp only[go_sem,mk_bs,bs_size,bs_append,cn,Bool.not_true]|simp (disch:=first|exact oa|fail) only[AX,mk_bs,bs_size,bs_append,cn,Bool.not_true]|refine wki ?_|refine wqn ?_|refine vpd 2 [9] ?_|refine vpd 3 [13,14] ?_|refine vf_of (by first|exact hn|exact sg|exact p1|exact o1|exact c) ?_)
 ·rw[if_neg hD]
  rw[decide_eq_false hD]at cn
  refine fni Tryz.f114 ?_;unfold Tryz.f114;simp only[Option.get!_some]
  repeat (first|simp only[go_sem,mk_bs,bs_size,bs_append,cn,Bool.not_false,List.length_append]|simp (disch:=first|exact oa|fail) only[AX,mk_bs,bs_size,bs_append,cn,Bool.not_false,List.length_append]|refine wki ?_|refine wqn ?_|refine vpd 2 [9] ?_|refine vpd 3 [13,14] ?_|refine vf_of (by first|exact hn|exact sg|exact p1|exact o1|exact c|exact p2) ?_)
end Go.Proofs.YtheclpmgipiejaaGreatDoor
namespace Go.Proofs.YtheclpmgipiejaaGreatDoor
open Go.Ev
theorem stat_by {v:SV} {q:Rat} {n:Int} {L:Nat} (hv:RatA v q L) (hL:1<=L) (hL2:L<=10000000) (hn : -9223372036854775808<=n/\n<9223372036854775808) :
  Go.Ev.Fn CX 242 [v,.int .i64 n] (rv (q/(n:Rat))):=by
 have r:=rat_Int n hn
 have d:=rat_Div hv (RatA_rv (int_szR (n:=n) (by omega))) hL (by omega) (by omega)
 generalize decide ((n:Rat)≠0)=b at *
 obtain⟨s,y,d',rfl,-⟩:=hv
 refine fni Tryz.f242 ?_;unfold Tryz.f242;simp only[Option.get!_some]
 repeat (first|simp only[go_sem]|simp (disch:=first|exact oa|fail) only[AX]|refine wki ?_|refine wqn ?_|refine vpd 1 [] ?_|refine vf_of (by first|exact r|exact d) ?_)
theorem stat_Sum {cs:List SV} {l:List Rat} {L:Nat} (h:RowC cs l L) (hL:1<=L) (hL2:L<=100000) (hl:l.length<=12) :
  Go.Ev.Fn CX 178 [.sl l.length cs] (rv (sumR l)):=by
 have r0:=rat_Int 0 (by omega)
 have hlen:=row_len h
 have hz:=row_sz hL h
 refine fni Tryz.f178 ?_;unfold Tryz.f178;simp only[Option.get!_some]
 repeat (first|simp only[go_sem]|simp (disch:=first|exact oa|fail) only[AX]|refine wki ?_|refine wqn ?_|refine vf_of (by first|exact r0) ?_)
 refine vp_loop_inv (fun s=>s.tmp 7 = .sv (.sl l.length cs)/\s.tmp 8 = .sv (.int .i64 (l.length:Int))/\s.tmp 2 = .ptr 2 0 0/\s.obj 2 0=some [.bool false,.sl 0 [],.sl 0 []]/\s.tmp 3 = .ptr 3 0 0 /\
   ∃i:Nat,s.tmp 9 = .sv (.int .i64 (i:Int))/\i<=l.length/\s.obj 3 0=some (rvC (sumR (l.take i))))
  (fun s=>match s.tmp 9 with | .sv (.int _ i)=>l.length-i.toNat|_=>0) ⟨rfl,rfl,rfl,rfl,rfl,0,rfl,by omega,rfl⟩ ?_
 rintro s2 ⟨i7,i8,i2,iO,i3,i,i9,hi,iP⟩
 by_cases hend:i=l.length
 ·subst hend
  rw[List.take_length]at iP
  repeat (first|simp only[go_sem,i7,i8,i2,iO,i3,i9,iP,rvC]|simp (disch:=first|exact oa|fail) only[AX,i7,i8,i2,iO,i3,i9,iP,rvC]|refine wki ?_|refine wqn ?_)
 ·obtain⟨s,n,d,rest,hat,hA⟩:=row_at (i:=i) h (by omega)
  have hS:=sumR_take l (i:=i) (by omega)
  have z:=sz_take12 hL hz hl i
  have a:=rat_Add (RatA_rv z) hA (by omega) hL (by omega)
  rw[<- hS]at a
  clear hz z h hS hA
  repeat (first|simp only[go_sem,i7,i8,i2,iO,i3,i9,iP,rvC,hat,hlen]|simp (disch:=first|exact oa|fail) only[AX,i7,i8,i2,iO,i3,i9,iP,rvC,hat,hlen]|refine wki ?_|refine wqn ?_|refine vf_of (by first|exact a) ?_)
  exact⟨⟨i+1,rfl,by omega,rfl⟩,by omega⟩
abbrev numE (q:Rat) (e:Int):SV := .tup [rv q,.int .i64 e]
theorem stat_Mean {cs:List SV} {l:List Rat} {L:Nat} (h:RowC cs l L) (hL:1<=L) (hL2:L<=100000) (hl:l.length<=12) :
  Go.Ev.Fn CX 173 [.sl l.length cs] (if l.length=0 then numE 0 5 else numE (meanR l) 0):=by
 have r0:=rat_Int 0 (by omega)
 by_cases h0:l.length=0
 ·rw[if_pos h0]
  refine fni Tryz.f173 ?_;unfold Tryz.f173;simp only[Option.get!_some]
  repeat (first|simp only[go_sem]|simp (disch:=first|exact oa|fail) only[AX]|refine wki ?_|refine wqn ?_|refine vf_of (by first|exact r0) ?_)
  rfl
 ·rw[if_neg h0]
  have s1:=stat_Sum h hL hL2 hl
  have b1:=stat_by (n:=(l.length:Int)) (RatA_rv (sz_sum12 hL (row_sz hL h) hl)) (by omega) (by omega) (by omega)
  rw[show sumR l/((l.length:Int):Rat)=meanR l from rfl]at b1
  clear h
  refine fni Tryz.f173 ?_;unfold Tryz.f173;simp only[Option.get!_some]
  repeat (first|simp only[go_sem]|simp (disch:=first|exact oa|fail) only[AX]|refine wki ?_|refine wqn ?_|refine vf_of (by first|exact s1|exact b1) ?_)
theorem rvs_snoc {l:List Rat} {i:Nat} (h:i<l.length):rvsC (l.take i)++rvC (l.getD i 0)=rvsC (l.take (i+1)):=by rw[take_snoc l h,rvsC_snoc]
theorem stat_off {cs:List SV} {l:List Rat} {L:Nat} (h:RowC cs l L) (hL:1<=L) (hL2:L<=100000) (hl:l.length<=12) (h0:1<=l.length) :
  Go.Ev.Fn CX 245 [.sl l.length cs] (.sl l.length (rvsC (offR l))):=by
 have m1:=stat_Mean h hL hL2 hl
 rw[if_neg (by omega)]at m1
 have hz:=row_sz hL h
 have zm:=sz_mean hL hz hl
 have hlen:=row_len h
 have hol:(offR l).length=l.length:=by unfold offR;rw[List.length_map]
 refine fni Tryz.f245 ?_;unfold Tryz.f245;simp only[Option.get!_some]
 repeat (first|simp only[go_sem]|simp (disch:=first|exact oa|fail) only[AX]|refine wki ?_|refine wqn ?_|refine vf_of (by first|exact m1) ?_)
 refine vp_loop_inv (fun s=>s.tmp 13 = .sv (.sl l.length cs)/\s.tmp 14 = .sv (.int .i64 (l.length:Int))/\s.tmp 3 = .ptr 3 0 0/\s.obj 3 0=some (rvC (meanR l)) /\
   ∃i:Nat,s.tmp 15 = .sv (.int .i64 (i:Int))/\i<=l.length/\((i=0/\s.tmp 5 = .nil/\s.gen 24=0)\/(0<i/\s.tmp 5 = .ref 24 0 3 0 i/\s.obj 24 0=some (rvsC ((offR l).take i)))))
  (fun s=>match s.tmp 15 with | .sv (.int _ i)=>l.length-i.toNat|_=>0) ⟨rfl,rfl,rfl,rfl,0,rfl,by omega,.inl ⟨rfl,rfl,rfl⟩⟩ ?_
 rintro s2 ⟨i13,i14,i3,iO,i,i15,hi,hc⟩
 by_cases hend:i=l.length
 ·subst hend
  rcases hc with⟨h00,_⟩|⟨_,i5,iP⟩
  ·omega
  ·rw[List.take_of_length_le (by omega)]at iP
   have hrl:=rvsC_len (offR l)
   repeat (first|simp only[go_sem,i13,i14,i3,iO,i15,i5,iP,rvC]|simp (disch:=first|exact oa|fail) only[AX,i13,i14,i3,iO,i15,i5,iP,rvC]|refine wki ?_|refine wqn ?_)
   refine ro_ref (cs:=rvsC (offR l)) (by decide) ?_ ?_
   ·simp only[go_sem,i5,iP]
   ·rw[List.drop_zero,List.take_of_length_le (by omega)]
 ·obtain⟨s,n,d,rest,hat,hA⟩:=row_at (i:=i) h (by omega)
  have a:=rat_Sub hA (RatA_rv zm) hL (by omega) (by omega)
  have hd:(offR l).getD i 0=l.getD i 0-meanR l:=by unfold offR;rw[getD_map l _ (by omega)]
  have hsn:=rvs_snoc (l:=offR l) (i:=i) (by omega)
  rw[hd]at hsn
  have hrl:=rvsC_len ((offR l).take i)
  rw[List.length_take,hol,Nat.min_eq_left (by omega)]at hrl
  clear hz zm h hd hA
  rcases hc with⟨h00,i5,ig⟩|⟨h00,i5,iP⟩
  ·subst h00
   rw[List.take_zero,rvsC_nil,List.nil_append]at hsn
   rw[Nat.zero_mul,List.drop_zero]at hat
   subst hat
   repeat (first|simp only[go_sem,i13,i14,i3,iO,i15,i5,ig,rvC,N0]|simp (disch:=first|exact oa|fail) only[AX,i13,i14,i3,iO,i15,i5,ig,rvC,N0]|refine wki ?_|refine wqn ?_|refine vf_of (by first|exact a) ?_)
   exact⟨⟨1,rfl,by omega,.inr ⟨by omega,rfl,by first|(rw[<- hsn];rfl)|rw[<- hsn]⟩⟩,by omega⟩
  ·unfold rvC at hsn
   repeat (first|simp only[go_sem,i13,i14,i3,iO,i15,i5,iP,hat,hlen,rvC,N0,hsn,hrl]|simp (disch:=first|exact oa|fail) only[AX,i13,i14,i3,iO,i15,i5,iP,hat,hlen,rvC,N0,hsn,hrl]|refine wki ?_|refine wqn ?_|refine vf_of (by first|exact a) ?_)
   exact⟨⟨i+1,rfl,by omega,.inr ⟨by omega,rfl,by first|(rw[<- hsn];rfl)|rw[<- hsn]⟩⟩,by omega⟩
theorem stat_products {l:List Rat} {L:Nat} (hz : ∀x∈l,szR x L) (hL:1<=L) (hL2:L<=1000000) (hl:l.length<=12) :
  Go.Ev.Fn CX 244 [.sl l.length (rvsC l),.sl l.length (rvsC l)] (rv (sumR (l.map fun x=>x*x))):=by
 have r0:=rat_Int 0 (by omega)
 have hlen:=rvsC_len l
 have hz2:=sz_map (f:=fun x=>x*x) hz (fun x hx=>szR_mul hx hx hL)
 generalize hcs:rvsC l=cs at *
 refine fni Tryz.f244 ?_;unfold Tryz.f244;simp only[Option.get!_some]
 repeat (first|simp only[go_sem]|simp (disch:=first|exact oa|fail) only[AX]|refine wki ?_|refine wqn ?_|refine vpd 5 [] ?_|refine vf_of (by first|exact r0) ?_)
 refine vp_loop_inv (fun s=>s.tmp 9 = .sv (.sl l.length cs)/\s.tmp 1 = .sv (.sl l.length cs)/\s.tmp 10 = .sv (.int .i64 (l.length:Int))/\s.tmp 4 = .ptr 4 0 0/\s.obj 4 0=some [.bool false,.sl 0 [],.sl 0 []]/\s.tmp 5 = .ptr 5 0 0 /\
   ∃i:Nat,s.tmp 11 = .sv (.int .i64 (i:Int))/\i<=l.length/\s.obj 5 0=some (rvC (sumR ((l.map fun x=>x*x).take i))))
  (fun s=>match s.tmp 11 with | .sv (.int _ i)=>l.length-i.toNat|_=>0) ⟨rfl,rfl,rfl,rfl,rfl,rfl,0,rfl,by omega,rfl⟩ ?_
 rintro s2 ⟨i9,i1,i10,i4,iO,i5,i,i11,hi,iP⟩
 by_cases hend:i=l.length
 ·subst hend
  rw[List.take_of_length_le (by rw[List.length_map];omega)]at iP
  repeat (first|simp only[go_sem,i9,i1,i10,i4,iO,i5,i11,iP,rvC]|simp (disch:=first|exact oa|fail) only[AX,i9,i1,i10,i4,iO,i5,i11,iP,rvC]|refine wki ?_|refine wqn ?_|refine vpd 5 [] ?_)
 ·obtain⟨rest,hat⟩:=rvsC_at (l:=l) (i:=i) (by omega)
  rw[hcs]at hat
  have hm:=hz _ (getD_mem (l:=l) (i:=i) (by omega))
  have m1:=rat_Mul (RatA_rv hm) (RatA_rv hm) hL hL (by omega)
  have hS:=sumR_take (l.map fun x=>x*x) (i:=i) (by rw[List.length_map];omega)
  rw[getD_map l _ (by omega)]at hS
  have a:=rat_Add (RatA_rv (sz_take12 (by omega) hz2 (by rw[List.length_map];omega) i)) (RatA_rv (szR_mul hm hm hL)) (by omega) (by omega) (by omega)
  rw[<- hS]at a
  generalize l.getD i 0=x at *
  clear hz hz2 hm hS
  repeat (first|simp only[go_sem,i9,i1,i10,i4,iO,i5,i11,iP,rvC,hat,hlen,List.cons_append,List.nil_append]|simp (disch:=first|exact oa|fail) only[AX,i9,i1,i10,i4,iO,i5,i11,iP,rvC,hat,hlen,List.cons_append,List.nil_append]|refine wki ?_|refine wqn ?_|refine vpd 5 [] ?_|refine vf_of (by first|exact m1|exact a) ?_)
  exact⟨⟨i+1,rfl,by omega,rfl⟩,by omega⟩
theorem stat_Covariance {cs:List SV} {l:List Rat} {L:Nat} (h:RowC cs l L) (hL:1<=L) (hL2:L<=10000) (hl:l.length<=12) :
  Go.Ev.Fn CX 176 [.sl l.length cs,.sl l.length cs] (if l.length<2 then numE 0 5 else numE (varR l) 0):=by
 have r0:=rat_Int 0 (by omega)
 by_cases h0:l.length<2
 ·rw[if_pos h0]
  refine fni Tryz.f176 ?_;unfold Tryz.f176;simp only[Option.get!_some]
  repeat (first|simp only[go_sem]|simp (disch:=first|exact oa|fail) only[AX]|refine wki ?_|refine wqn ?_|refine vf_of (by first|exact r0) ?_)
  rfl
 ·rw[if_neg h0]
  have s1:=stat_off h hL (by omega) hl (by omega)
  have hz:=row_sz hL h
  have zo:=sz_off hL hz hl
  have p1:=stat_products zo (by omega) (by omega) (by unfold offR;rw[List.length_map];exact hl)
  rw[show (offR l).length=l.length by unfold offR;rw[List.length_map],show sumR ((offR l).map fun x=>x*x)=sqR l from rfl]at p1
  have b1:=stat_by (n:=(l.length:Int)-1) (RatA_rv (sz_sq hL hz hl)) (by omega) (by omega) (by omega)
  rw[show sqR l/(((l.length:Int)-1:Int):Rat)=varR l from rfl,show (l.length:Int)-1=((l.length-1:Nat):Int) by omega]at b1
  clear h zo hz
  refine fni Tryz.f176 ?_;unfold Tryz.f176;simp only[Option.get!_some]
  repeat (first|simp only[go_sem]|simp (disch:=first|exact oa|fail) only[AX]|refine wki ?_|refine wqn ?_|refine vf_of (by first|exact s1|exact p1|exact b1) ?_)
theorem stat_Variance {cs:List SV} {l:List Rat} {L:Nat} (h:RowC cs l L) (hL:1<=L) (hL2:L<=10000) (hl:l.length<=12) :
  Go.Ev.Fn CX 174 [.sl l.length cs] (if l.length<2 then numE 0 5 else numE (varR l) 0):=by
 have c1:=stat_Covariance h hL hL2 hl
 by_cases h0:l.length<2
 ·rw[if_pos h0]at c1 ⊢
  refine fni Tryz.f174 ?_;unfold Tryz.f174;simp only[Option.get!_some]
  repeat (first|simp only[go_sem]|simp (disch:=first|exact oa|fail) only[AX]|refine wki ?_|refine wqn ?_|refine vf_of (by first|exact c1) ?_)
 ·rw[if_neg h0]at c1 ⊢
  refine fni Tryz.f174 ?_;unfold Tryz.f174;simp only[Option.get!_some]
  repeat (first|simp only[go_sem]|simp (disch:=first|exact oa|fail) only[AX]|refine wki ?_|refine wqn ?_|refine vf_of (by first|exact c1) ?_)
end Go.Proofs.YtheclpmgipiejaaGreatDoor
namespace Go.Proofs.YtheclpmgipiejaaGreatDoor
open Go.Ev
def lineA:List UInt8:=[108,101,116,32,97,32,61,32,49,32,50,32,52]
def lineB:List UInt8:=[118,97,114,32,97]
def wordsA:List (List UInt8):=[[108,101,116],[97],[61],[49],[50],[52]]
def wordsB:List (List UInt8):=[[118,97,114],[97]]
def strC (l:List (List UInt8)):List SV:=l.map fun w => .str (bs w)
theorem words_A:Go.Ev.Fn CX 30 [.str (bs lineA)] (.sl 6 (strC wordsA)):=tool_words (bs lineA) (by decide)
theorem words_B:Go.Ev.Fn CX 30 [.str (bs lineB)] (.sl 2 (strC wordsB)):=tool_words (bs lineB) (by decide)
theorem words_C:Go.Ev.Fn CX 30 [.str (bs [])] (.sl 0 []):=tool_words (bs []) (by decide)
theorem cut_1:Go.Ev.Fn CX 39 [.str (bs lineA),.str (bs [108,101,116])] (.tup [.str (bs []),.str (bs [32,97,32,61,32,49,32,50,32,52]),.bool true]):=x_cut (bs lineA) (bs [108,101,116]) (by decide) (by decide)
theorem cut_2:Go.Ev.Fn CX 39 [.str (bs [32,97,32,61,32,49,32,50,32,52]),.str (bs [97])] (.tup [.str (bs [32]),.str (bs [32,61,32,49,32,50,32,52]),.bool true]):=str_Cut CX_str [32,97,32,61,32,49,32,50,32,52] 97 (by decide)
theorem cut_3:Go.Ev.Fn CX 39 [.str (bs [32,61,32,49,32,50,32,52]),.str (bs [61])] (.tup [.str (bs [32]),.str (bs [32,49,32,50,32,52]),.bool true]):=str_Cut CX_str [32,61,32,49,32,50,32,52] 61 (by decide)
theorem parse_A:parseP [32,49,32,50,32,52]=(0,[1,2,4]):=by kernel_rfl
def rowA:List SV:=rvsC [1,2,4]
theorem rowA_row:RowC rowA [1,2,4] 500:=by
 have hz : ∀q∈(parseP [32,49,32,50,32,52]).2,szR q 500:=parse_sz
 rw[parse_A]at hz
 exact rvsC_row _ hz
def plQ:TV->Bool
 | .sv _=>true
 | .nil=>true
 | .undef=>true
 | .skip=>true
 | .ptr d _ _=>decide (H0<=d)
 | .pst d _=>decide (H0<=d)
 |_=>false
theorem plQ_V {v:TV} (h:plQ v=true):plV v=true:=by
 cases v with
 |ptr d g o=>exact pl_ob (of_decide_eq_true h)
 |pst d g=>
  show (!TP d)=true
  rw[tp_ob (of_decide_eq_true h)]
  rfl
 |ref=>cases h
 |rfc=>cases h
 |_=>rfl
theorem frz_plQ {v:TV} {n g:Nat} {cs:List SV} (h:plQ v=true) (hn:n<H0):v.frz n g cs=v:=by
 cases v with
 |ptr d g' o=>exact if_neg fun e=>by have:=of_decide_eq_true h;omega
 |pst d g'=>exact if_neg fun e=>by have:=of_decide_eq_true h;omega
 |ref=>cases h
 |rfc=>cases h
 |_=>rfl
structure Kq (d:Nat) (st s:St):Prop where
 up : ∀u,plQ (st.up u)=true->s.up u=st.up u
 obj : ∀n g,TP n=false->g<st.gen n->s.obj n g=st.obj n g
 gen : ∀n,st.gen n<=s.gen n
 hob : ∀d' g' ts,d'≠d->g'<st.gen d'->st.hob d' g'=some ts->(∀t∈ts,plQ t=true)->s.hob d' g'=some ts
structure KeepQ (d:Nat) (st st':St):Prop extends Kq d st st' where
 tmp : ∀t,plQ (st.tmp t)=true->st'.tmp t=st.tmp t
section
variable {d:Nat} {st s a b c:St}
theorem Kq.of (h:Kp TP d st s):Kq d st s:=⟨fun u hu=>h.up u (plQ_V hu),h.obj,h.gen,fun d' g' ts hd _ h1 h2=>h.hob d' g' ts hd h1 fun t ht=>plQ_V (h2 t ht)⟩
theorem Kq.self:Kq d st st:=Kq.of Kp.refl
theorem Kq.trans (h:Kq d a b) (k:Kq d b c):Kq d a c:=
 ⟨fun u hu=>(k.up u (by rw[h.up u hu];exact hu)).trans (h.up u hu),fun n g hn hg=>(k.obj n g hn (Nat.lt_of_lt_of_le hg (h.gen n))).trans (h.obj n g hn hg),fun n=>Nat.le_trans (h.gen n) (k.gen n),
  fun d' g' ts hd hg ho hp=>k.hob d' g' ts hd (Nat.lt_of_lt_of_le hg (h.gen d')) (h.hob d' g' ts hd hg ho hp) hp⟩
theorem Kq.put {t:Nat} {v:TV} (h:Kq d st s):Kq d st (s.put t v):=⟨h.up,h.obj,h.gen,h.hob⟩
theorem Kq.new {t:Nat} {cs:List SV} {v:TV} (h:Kq d st s):Kq d st (s.new t cs v):=
 h.trans (Kq.of Kp.refl.new)
theorem Kq.newset {t:Nat} {cs cs':List SV} {v:TV} (h:Kq d st s):Kq d st ((s.new t cs v).set t (s.gen t) cs'):=
 h.trans (Kq.of Kp.refl.newset)
theorem Kq.newH {t:Nat} {ts:List TV} (h:Kq d st s):Kq d st (s.newH t ts):=by
 refine h.trans ⟨fun _ _=>rfl,fun n g hn hg=>if_neg fun e => ?_,fun n => ?_,fun d' g' ts' hd hg ho hp=>(if_neg fun e => ?_).trans ho⟩
 ·rw[e.1]at hg
  omega
 ·rw[gen_newH]
  split
  ·rename_i e
   rw[e]
   omega
  ·exact Nat.le_refl _
 ·rw[e.1]at hg
  omega
theorem Kq.frzd {n g:Nat} {cs:List SV} (hn:n<H0) (hg:st.gen n<=g) (h:Kq d st s):Kq d st (s.frzd n g cs):=
 ⟨fun u hu=>(congrArg (TV.frz n g cs) (h.up u hu)).trans (frz_plQ hu hn),fun n' g' hn' hg'=>(if_neg fun e=>by rw[e.1,e.2]at hg';omega).trans (h.obj n' g' hn' hg'),h.gen,fun d' g' ts hd hg' ho hp=>by
  show Option.map (fun ts=>ts.map fun t=>t.frz n g cs) (s.hob d' g')=some ts
  rw[h.hob d' g' ts hd hg' ho hp]
  exact congrArg some ((List.map_congr_left fun t ht=>frz_plQ (hp t ht) hn).trans (List.map_id' ts))⟩
theorem KeepQ.kq {st':St} (h:KeepQ d st st'):Kq d st st':=h.toKq
theorem keepq_of {vs:List TV} (h:Kq d (st.enter vs) s):KeepQ d st s.leave:=
 {up:=fun t ht=>by rw[up_leave,h.up (2*t+1) (by rw[up_odd];exact ht),up_odd]
  tmp:=fun t ht=>by rw[tmp_leave,h.up (2*t) (by rw[up_even];exact ht),up_even]
  obj:=h.obj
  gen:=h.gen
  hob:=h.hob }
end
theorem SessR.newH {st:St} {d g t:Nat} {es:List Ent} {D:Int} {ts:List TV} (h:SessR st d g es D) (hd:d≠H0+t):SessR (st.newH t ts) d g es D:=by
 have hH:H0=2000000:=rfl
 have h25 : ¬(25=H0+t):=by omega
 refine h.of (by rw[hob_newH,if_neg fun e=>hd e.1]) (fun g1=>by rw[obj_newH,if_neg fun e=>h25 e.1]) (by rw[gen_newH,if_neg h25];exact Nat.le_refl _)
theorem SessR.newT {st:St} {d g t:Nat} {es:List Ent} {D:Int} {cs:List SV} {v:TV} (h:SessR st d g es D) (ht:t≠25):SessR (st.new t cs v) d g es D:=
 h.of rfl (fun g1=>by rw[obj_new,if_neg fun e=>ht e.1.symm]) (by rw[gen_new,if_neg fun e=>ht e.symm];exact Nat.le_refl _)
theorem SessR.setT {st:St} {d g n g2:Nat} {es:List Ent} {D:Int} {cs:List SV} (h:SessR st d g es D) (hn:n≠25):SessR (st.set n g2 cs) d g es D:=
 h.of rfl (fun g1=>by rw[obj_set,if_neg fun e=>hn e.1.symm]) (Nat.le_refl _)
theorem SessR.frzT {st:St} {d g n g2:Nat} {es:List Ent} {D:Int} {cs:List SV} (h:SessR st d g es D) (hn:n≠25):SessR (st.frzd n g2 cs) d g es D:=by
 obtain⟨h1,h2⟩:=h
 refine⟨h1,?_⟩
 rcases h2 with⟨e,ho⟩|⟨g1,hg1,ho,hobj⟩
 ·refine .inl ⟨e,?_⟩
  show Option.map (fun ts=>ts.map fun t=>t.frz n g2 cs) (st.hob d g)=_
  rw[ho]
  rfl
 ·refine .inr ⟨g1,hg1,?_,(if_neg fun e=>hn e.1.symm).trans hobj⟩
  show Option.map (fun ts=>ts.map fun t=>t.frz n g2 cs) (st.hob d g)=_
  rw[ho]
  show some [TV.frz n g2 cs (.ref 25 g1 2 0 es.length),_]=_
  rw[show TV.frz n g2 cs (.ref 25 g1 2 0 es.length) = .ref 25 g1 2 0 es.length from if_neg fun e=>hn e.1.symm]
  rfl
section
variable {ops:Array Oper} {l:List Oper} {dst:Option Nat} {st:St} {Q:St->Prop} {d g:Nat}
abbrev entA:List Ent:=[([97],3,rowA)]
theorem desk_let (hd:H0<=d) (hd3:d≠2000003) (h:SessR st d g [] 6)
  (k : ∀st',KeepQ d st st'->SessR st' d g entA 6->WO CX false ops l (st'.putO dst (.sv (.str (bs [111,107])))) Q) :
  WN CX ops l dst st Q 64 [.pst d g,.sv (.str (bs lineA)),.sv (.sl 6 (strC wordsA))]:=by
 have hd':2000000<=d:=hd
 have c0:((bs [61]).toList==(ByteArray.mk #[61]).toList)=true:=word_is.trans (by decide)
 have c1:=cut_1
 have c2:=cut_2
 have c3:=cut_3
 have tl:=tool_told (bs [111,107])
 refine wni Tryz.f64 ?_;unfold Tryz.f64;simp only[Option.get!_some]
 repeat (first|simp only[go_sem,hd',strC,wordsA,c0,Bool.not_true]|simp (disch:=first|exact oa|fail) only[AX,hd',strC,wordsA,c0,Bool.not_true]|refine wki ?_|refine wqn ?_|refine vpl 8 [] [([0,1,2,3,4,5],some (6,[])),([],some (7,[])),([8],none)] ?_)
 rw[vp_loop]
 repeat (first|simp only[go_sem,Int.reduceAdd,Int.zero_add,List.drop_succ_cons,List.drop_zero,List.head?_cons,Option.map_some,List.drop_nil]|simp (disch:=first|exact oa|fail) only[AX,Int.reduceAdd,Int.zero_add,List.drop_succ_cons,List.drop_zero,List.head?_cons,Option.map_some,List.drop_nil]|refine wki ?_|refine wqn ?_|refine vpl 8 [] [([0,1,2,3,4,5],some (6,[])),([],some (7,[])),([8],none)] ?_|refine vf_of (by first|exact c1) ?_)
 rw[vp_loop]
 repeat (first|simp only[go_sem,Int.reduceAdd,Int.zero_add,List.drop_succ_cons,List.drop_zero,List.head?_cons,Option.map_some,List.drop_nil]|simp (disch:=first|exact oa|fail) only[AX,Int.reduceAdd,Int.zero_add,List.drop_succ_cons,List.drop_zero,List.head?_cons,Option.map_some,List.drop_nil]|refine wki ?_|refine wqn ?_|refine vpl 8 [] [([0,1,2,3,4,5],some (6,[])),([],some (7,[])),([8],none)] ?_|refine vf_of (by first|exact c2) ?_)
 rw[vp_loop]
 repeat (first|simp only[go_sem,Int.reduceAdd,Int.zero_add,List.drop_succ_cons,List.drop_zero,List.head?_cons,Option.map_some,List.drop_nil]|simp (disch:=first|exact oa|fail) only[AX,Int.reduceAdd,Int.zero_add,List.drop_succ_cons,List.drop_zero,List.head?_cons,Option.map_some,List.drop_nil]|refine wki ?_|refine wqn ?_|refine vpl 8 [] [([0,1,2,3,4,5],some (6,[])),([],some (7,[])),([8],none)] ?_|refine vf_of (by first|exact c3) ?_)
 rw[vp_loop]
 repeat (first|simp only[go_sem,Int.reduceAdd,Int.zero_add,List.drop_succ_cons,List.drop_zero,List.head?_cons,Option.map_some,List.drop_nil]|simp (disch:=first|exact oa|fail) only[AX,Int.reduceAdd,Int.zero_add,List.drop_succ_cons,List.drop_zero,List.head?_cons,Option.map_some,List.drop_nil]|refine wki ?_|refine wqn ?_|refine vpl 8 [] [([0,1,2,3,4,5],some (6,[])),([],some (7,[])),([8],none)] ?_)
 refine sess_Let_end (t:=[97]) (es:=[]) (x:=[32,49,32,50,32,52]) (qs:=[1,2,4]) (D:=6) (by decide) (by kernel_rfl) ⟨Nat.le_refl 0,fun k h=>absurd h (Nat.not_lt_zero k),fun k _ h=>absurd h (Nat.not_lt_zero k)⟩ (by decide) (by decide) parse_A (by decide) (((h.of (s:=st.enter [.pst d g,.sv (.str (bs lineA)),.sv (.sl 6 (strC wordsA))]) rfl (fun _=>rfl) (Nat.le_refl _)).newH (t:=3) (ts:=[.ptr d g 0]) hd3).of rfl (fun _=>rfl) (Nat.le_refl _)) ?_
 intro s1 hk hs1
 repeat (first|simp only[go_sem]|simp (disch:=first|exact oa|fail) only[AX]|refine wki ?_|refine wqn ?_|refine vpl 8 [] [([0,1,2,3,4,5],some (6,[])),([],some (7,[])),([8],none)] ?_|refine vf_of (by first|exact tl) ?_)
 exact k _ (keepq_of (by repeat (first|exact Kq.self|refine Kq.put ?_|refine Kq.trans ?_ (Kq.of hk.kp)|refine Kq.newH ?_))) (hs1.of rfl (fun _=>rfl) (Nat.le_refl _))
theorem pos_A:PosAt entA [97] 0:=⟨by decide,fun k h=>absurd h (Nat.not_lt_zero k),fun k _ h=>by
 have:k=0:=by simpa using h
 subst this
 decide⟩
theorem desk_rows (hd:H0<=d) (hd2:d≠2000002) (h:SessR st d g entA 6)
  (k : ∀st',KeepQ d st st'->SessR st' d g entA 6->WO CX false ops l (st'.putO dst (.sv (.tup [.sl 1 [.sl 3 rowA],.int .i64 0]))) Q) :
  WN CX ops l dst st Q 118 [.pst d g,.sv (.sl 1 [.str (bs [97])])]:=by
 have hd':2000000<=d:=hd
 have hc:=sess_copied rowA_row (by omega) (by omega) (by decide)
 refine wni Tryz.f118 ?_;unfold Tryz.f118;simp only[Option.get!_some]
 repeat (first|simp only[go_sem,hd']|simp (disch:=first|exact oa|fail) only[AX,hd']|refine wki ?_|refine wqn ?_)
 rw[vp_loop]
 repeat (first|simp only[go_sem,hd',Int.reduceAdd,Int.zero_add,List.drop_succ_cons,List.drop_zero,List.head?_cons,Option.map_some,List.drop_nil]|simp (disch:=first|exact oa|fail) only[AX,hd',Int.reduceAdd,Int.zero_add,List.drop_succ_cons,List.drop_zero,List.head?_cons,Option.map_some,List.drop_nil]|refine wki ?_|refine wqn ?_)
 refine sess_Get_atS (t:=[97]) (es:=entA) (p:=0) (rs:=rowA) (D:=6) pos_A (by decide) (by kernel_rfl) hc (((h.of (s:=st.enter [.pst d g,.sv (.sl 1 [.str (bs [97])])]) rfl (fun _=>rfl) (Nat.le_refl _)).newH (t:=2) (ts:=[.ptr d g 0]) hd2).of rfl (fun _=>rfl) (Nat.le_refl _)) ?_
 intro s1 hk
 have k6:s1.tmp 6 = .nil:=(hk.tmp 6).trans rfl
 have k11:s1.tmp 11 = .sv (.sl 1 [.str (bs [97])]):=(hk.tmp 11).trans rfl
 have k12:s1.tmp 12 = .sv (.int .i64 1):=(hk.tmp 12).trans rfl
 have k13:s1.tmp 13 = .sv (.int .i64 0):=(hk.tmp 13).trans rfl
 have e3:(entA.getD 0 default).2.1=3:=rfl
 repeat (first|simp only[go_sem,k6,k11,k12,k13,e3,Int.reduceAdd,Int.zero_add,List.drop_succ_cons,List.drop_zero,List.head?_cons,Option.map_some,List.drop_nil]|simp (disch:=first|exact oa|fail) only[AX,k6,k11,k12,k13,e3,Int.reduceAdd,Int.zero_add,List.drop_succ_cons,List.drop_zero,List.head?_cons,Option.map_some,List.drop_nil]|refine wki ?_|refine wqn ?_)
 have n30:decide (30<N0)=true:=by decide
 have kq1:Kq d (st.enter [.pst d g,.sv (.sl 1 [.str (bs [97])])]) s1:=by repeat (first|exact Kq.self|refine Kq.trans ?_ (Kq.of hk.keep.kp)|refine Kq.put ?_|refine Kq.newH ?_)
 have g30:st.gen 30<=s1.gen 30:=kq1.gen 30
 have hs1:SessR s1 d g entA 6:=((h.of (s:=st.enter [.pst d g,.sv (.sl 1 [.str (bs [97])])]) rfl (fun _=>rfl) (Nat.le_refl _)).newH (t:=2) (ts:=[.ptr d g 0]) hd2).of (by rw[hk.hob];rfl) (fun g1=>(hk.obj 25 g1).trans rfl) (by rw[hk.gen];exact Nat.le_refl _)
 rw[vp_loop]
 repeat (first|simp only[go_sem,k6,k11,k12,k13,e3,n30,Int.reduceAdd,Int.zero_add,List.drop_succ_cons,List.drop_zero,List.head?_cons,Option.map_some,List.drop_nil]|simp (disch:=first|exact oa|fail) only[AX,k6,k11,k12,k13,e3,n30,Int.reduceAdd,Int.zero_add,List.drop_succ_cons,List.drop_zero,List.head?_cons,Option.map_some,List.drop_nil]|refine wki ?_|refine wqn ?_)
 have hs2:=((hs1.newT (t:=29) (cs:=[.sl 3 rowA]) (v := .ref 29 (s1.gen 29) 1 0 1) (by decide)).newT (t:=30) (cs:=[.sl 3 rowA]) (v := .ref 30 (s1.gen 30) 1 0 1) (by decide)).frzT (n:=30) (g2:=s1.gen 30) (cs:=[.sl 3 rowA]) (by decide)
 exact k _ (keepq_of (by repeat (first|exact kq1|exact g30|refine Kq.put ?_|refine Kq.new ?_|refine Kq.frzd (by decide) ?_ ?_))) (hs2.of rfl (fun _=>rfl) (Nat.le_refl _))
theorem desk_row (hd:H0<=d) (hd2:d≠2000002) (h:SessR st d g entA 6)
  (k : ∀st',KeepQ d st st'->SessR st' d g entA 6->WO CX false ops l (st'.putO dst (.sv (.str (bs [55,47,51])))) Q) :
  WN CX ops l dst st Q 73 [.pst d g,.sv (.sl 2 (strC wordsB))]:=by
 have hd':2000000<=d:=hd
 have nm:=tool_names
 have c0:((bs [118,97,114]).toList==(ByteArray.mk #[115,104,111,119]).toList)=false:=word_is.trans (by decide)
 have c1:((bs [118,97,114]).toList==(ByteArray.mk #[100,114,111,112]).toList)=false:=word_is.trans (by decide)
 have e73:rv (7/3:Rat)=ratV false [7] [3]:=by kernel_rfl
 have v1:Go.Ev.Fn CX 174 [.sl 3 rowA] (.tup [ratV false [7] [3],.int .i64 0]):=by
  have:=stat_Variance rowA_row (by omega) (by omega) (by decide)
  rw[if_neg (by decide),show varR [1,2,4]=(7/3:Rat) by kernel_rfl,show numE (7/3:Rat) 0 = .tup [ratV false [7] [3],.int .i64 0] by kernel_rfl]at this
  exact this
 have ab:=tool_about v1
 have pr:=dec_Print (v:=rv (7/3:Rat)) (q:=7/3) (L:=1) (RatA_rv ⟨by decide +kernel,by decide +kernel⟩) (by omega) (by omega)
 rw[show ratT (7/3)=[55,47,51] by kernel_rfl,e73]at pr
 have tl:=tool_told (bs [55,47,51])
 refine wni Tryz.f73 ?_;unfold Tryz.f73;simp only[Option.get!_some]
 repeat (first|simp only[go_sem,hd',strC,wordsB,Int.reduceAdd,Int.zero_add,List.drop_succ_cons,List.drop_zero,List.head?_cons,Option.map_some,List.drop_nil,List.map_cons,List.map_nil]|simp (disch:=first|exact oa|fail) only[AX,hd',strC,wordsB,Int.reduceAdd,Int.zero_add,List.drop_succ_cons,List.drop_zero,List.head?_cons,Option.map_some,List.drop_nil,List.map_cons,List.map_nil]|refine wki ?_|refine wqn ?_|refine vpl 3 [1] [([0,1,2],some (3,[])),([4,5,6,7,8],none)] ?_|refine vpd 10 [] ?_|refine vf_of (by first|exact nm) ?_)
 refine desk_rows hd hd2 (((h.of (s:=st.enter [.pst d g,.sv (.sl 2 (strC wordsB))]) rfl (fun _=>rfl) (Nat.le_refl _)).newH (t:=2) (ts:=[.ptr d g 0]) hd2).of rfl (fun _=>rfl) (Nat.le_refl _)) ?_
 intro s1 hk hs1
 have k1:s1.tmp 1 = .sv (.sl 2 [.str (bs [118,97,114]),.str (bs [97])]):=hk.tmp 1 rfl
 repeat (first|simp only[go_sem,k1,c0,c1,Int.reduceAdd,Int.zero_add,List.drop_succ_cons,List.drop_zero,List.head?_cons,Option.map_some,List.drop_nil,List.map_cons,List.map_nil]|simp (disch:=first|exact oa|fail) only[AX,k1,c0,c1,Int.reduceAdd,Int.zero_add,List.drop_succ_cons,List.drop_zero,List.head?_cons,Option.map_some,List.drop_nil,List.map_cons,List.map_nil]|refine wki ?_|refine wqn ?_|refine vpl 3 [1] [([0,1,2],some (3,[])),([4,5,6,7,8],none)] ?_|refine vpd 10 [] ?_|refine vf_of (by first|exact ab|exact pr|exact tl) ?_)
 have hs2:=(hs1.newT (t:=7) (cs:=[.bool false,.sl 0 [],.sl 0 []]) (v := .ptr 7 (s1.gen 7) 0) (by decide)).setT (n:=7) (g2:=s1.gen 7) (cs:=[.bool false,natV [7],natV [3]]) (by decide)
 exact k _ (keepq_of (by repeat (first|exact Kq.self|refine Kq.put ?_|refine Kq.newset ?_|refine Kq.trans ?_ hk.kq|refine Kq.newH ?_))) (hs2.of rfl (fun _=>rfl) (Nat.le_refl _))
theorem line_is {a:List UInt8} {b:Array UInt8} {r:Bool} (h:(a==b.toList)=r):((bs a).toList==(ByteArray.mk b).toList)=r:=word_is.trans h
theorem desk_lineA (hd:H0<=d) (hd3:d≠2000003) (h:SessR st d g [] 6)
  (k : ∀st',KeepQ d st st'->SessR st' d g entA 6->WO CX false ops l (st'.putO dst (.sv (.str (bs [111,107])))) Q) :
  WN CX ops l dst st Q 33 [.pst d g,.sv (.str (bs lineA)),.sv (.sl 6 (strC wordsA))]:=by
 have hd':2000000<=d:=hd
 have c0:((bs [108,101,116]).toList==(ByteArray.mk #[108,101,116]).toList)=true:=line_is (by decide)
 refine wni Tryz.f33 ?_;unfold Tryz.f33;simp only[Option.get!_some]
 repeat (first|simp only[go_sem,hd',strC,wordsA,c0,Int.reduceAdd,Int.zero_add,List.drop_succ_cons,List.drop_zero,List.head?_cons,Option.map_some,List.drop_nil,List.map_cons,List.map_nil]|simp (disch:=first|exact oa|fail) only[AX,hd',strC,wordsA,c0,Int.reduceAdd,Int.zero_add,List.drop_succ_cons,List.drop_zero,List.head?_cons,Option.map_some,List.drop_nil,List.map_cons,List.map_nil]|refine wki ?_|refine wqn ?_)
 refine desk_let hd hd3 (((h.of (s:=st.enter [.pst d g,.sv (.str (bs lineA)),.sv (.sl 6 (strC wordsA))]) rfl (fun _=>rfl) (Nat.le_refl _)).newH (t:=3) (ts:=[.ptr d g 0]) hd3).of rfl (fun _=>rfl) (Nat.le_refl _)) ?_
 intro s1 hk hs1
 repeat (first|simp only[go_sem]|simp (disch:=first|exact oa|fail) only[AX]|refine wki ?_|refine wqn ?_)
 exact k _ (keepq_of (by repeat (first|exact Kq.self|refine Kq.put ?_|refine Kq.trans ?_ hk.kq|refine Kq.newH ?_))) (hs1.of rfl (fun _=>rfl) (Nat.le_refl _))
theorem desk_lineB (hd:H0<=d) (hd2:d≠2000002) (hd3:d≠2000003) (h:SessR st d g entA 6)
  (k : ∀st',KeepQ d st st'->SessR st' d g entA 6->WO CX false ops l (st'.putO dst (.sv (.str (bs [55,47,51])))) Q) :
  WN CX ops l dst st Q 33 [.pst d g,.sv (.str (bs lineB)),.sv (.sl 2 (strC wordsB))]:=by
 have hd':2000000<=d:=hd
 have nm:=tool_names
 have c0:((bs [118,97,114]).toList==(ByteArray.mk #[108,101,116]).toList)=false:=line_is (by decide)
 have c1:((bs [118,97,114]).toList==(ByteArray.mk #[110,97,109,101,115]).toList)=false:=line_is (by decide)
 have c2:((bs [118,97,114]).toList==(ByteArray.mk #[100,105,103,105,116,115]).toList)=false:=line_is (by decide)
 have c3:((bs [118,97,114]).toList==(ByteArray.mk #[99,100,102]).toList)=false:=line_is (by decide)
 have c4:((bs [118,97,114]).toList==(ByteArray.mk #[97,98,111,118,101]).toList)=false:=line_is (by decide)
 have c5:((bs [118,97,114]).toList==(ByteArray.mk #[113,117,97,110,116,105,108,101]).toList)=false:=line_is (by decide)
 have c6:((bs [118,97,114]).toList==(ByteArray.mk #[109,111,109,101,110,116,115]).toList)=false:=line_is (by decide)
 have c7:((bs [118,97,114]).toList==(ByteArray.mk #[98,105,110,111,109]).toList)=false:=line_is (by decide)
 have c8:((bs [118,97,114]).toList==(ByteArray.mk #[108,101,97,115,116]).toList)=false:=line_is (by decide)
 have c9:((bs [118,97,114]).toList==(ByteArray.mk #[100,101,99,105,100,101]).toList)=false:=line_is (by decide)
 refine wni Tryz.f33 ?_;unfold Tryz.f33;simp only[Option.get!_some]
 repeat (first|simp only[go_sem,hd',strC,wordsB,c0,c1,c2,c3,c4,c5,c6,c7,c8,c9,Int.reduceAdd,Int.zero_add,List.drop_succ_cons,List.drop_zero,List.head?_cons,Option.map_some,List.drop_nil,List.map_cons,List.map_nil]|simp (disch:=first|exact oa|fail) only[AX,hd',strC,wordsB,c0,c1,c2,c3,c4,c5,c6,c7,c8,c9,Int.reduceAdd,Int.zero_add,List.drop_succ_cons,List.drop_zero,List.head?_cons,Option.map_some,List.drop_nil,List.map_cons,List.map_nil]|refine wki ?_|refine wqn ?_|refine vf_of (by first|exact nm) ?_)
 refine desk_row hd hd2 (((h.of (s:=st.enter [.pst d g,.sv (.str (bs lineB)),.sv (.sl 2 (strC wordsB))]) rfl (fun _=>rfl) (Nat.le_refl _)).newH (t:=3) (ts:=[.ptr d g 0]) hd3).of rfl (fun _=>rfl) (Nat.le_refl _)) ?_
 intro s1 hk hs1
 repeat (first|simp only[go_sem]|simp (disch:=first|exact oa|fail) only[AX]|refine wki ?_|refine wqn ?_)
 exact k _ (keepq_of (by repeat (first|exact Kq.self|refine Kq.put ?_|refine Kq.trans ?_ hk.kq|refine Kq.newH ?_))) (hs1.of rfl (fun _=>rfl) (Nat.le_refl _))
end
end Go.Proofs.YtheclpmgipiejaaGreatDoor
namespace Go.Proofs.YtheclpmgipiejaaGreatDoor
open Go.RowKit
structure Boxes (b:Nat) (s:ByteArray) (w:World):Prop where
 s0:w.heap[b]?=some (.cells #[.string s] 9 (0,0))
 s1:w.heap[b+1]?=some (.cells #[.string ⟨#[10]⟩] 9 (0,0))
 s2:w.heap[b+2]?=some (.cells #[.int .i64 0] 3 (0,0))
theorem Boxes.lt {b:Nat} {s:ByteArray} {w:World} (h:Boxes b s w):b+2<w.heap.size:=(Array.getElem?_eq_some_iff.1 h.s2).1
theorem Boxes.same {b:Nat} {s:ByteArray} {w w':World} (h:Boxes b s w) (hs : ∀k,k<w.heap.size->k=b\/k=b+1\/k=b+2->w'.heap[k]?=w.heap[k]?):Boxes b s w':=by
 have:=h.lt
 exact⟨(hs b (by omega) (by omega)).trans h.s0,(hs (b+1) (by omega) (by omega)).trans h.s1,(hs (b+2) (by omega) (by omega)).trans h.s2⟩
def seqV (b:Nat):Value := .func (.func 96) #[] #[.pointer (some ⟨b+1,0,none⟩),.pointer (some ⟨b,0,none⟩),.pointer (some ⟨b+2,0,none⟩)]
set_option maxRecDepth 100000 in
set_option maxHeartbeats 1000000 in
theorem split_seq (F:Fence) (n:Nat) (hF:F.fn 59) (hro:F.round=none) (s:ByteArray) (w:World) :
  CallsIn F n Tryz.prog 59 #[.string s,.string ⟨#[10]⟩,.int .i64 0] w fun e w'=>e = .returned (seqV w.heap.size)/\Boxes w.heap.size s w'/\Below w.heap.size w w'/\w'.heap.size=w.heap.size+3:=by
 refine callsIn_of_wp Tryz.func59 rfl hF ?_ hro
 simp only[Tryz.ntmps59,List.size_toArray,List.length_cons,List.length_nil,Nat.reduceAdd,Nat.reduceSub,Array.replicate_succ,Array.replicate_zero,List.push_toArray,List.append_toArray,List.nil_append,List.cons_append]
 gi_wp2
 go_ret
 refine⟨rfl,⟨?_,?_,?_⟩,(((Below.refl _ w).alloc (Nat.le_refl _) _).alloc (by simp) _).alloc (by simp;omega) _,by simp⟩
 ·rw[Below.heap_alloc _ _ _ (by rw[World.size_alloc,World.size_alloc];omega),Below.heap_alloc _ _ _ (by rw[World.size_alloc];omega)]
  exact World.alloc_heap_new w _
 ·rw[Below.heap_alloc _ _ _ (by rw[World.size_alloc,World.size_alloc];omega)]
  have:=World.alloc_heap_new (w.alloc (.cells #[.string s] 9)) (.cells #[.string ⟨#[10]⟩] 9)
  rwa [World.size_alloc]at this
 ·have:=World.alloc_heap_new ((w.alloc (.cells #[.string s] 9)).alloc (.cells #[.string ⟨#[10]⟩] 9)) (.cells #[.int .i64 0] 3)
  rwa [World.size_alloc,World.size_alloc]at this
set_option maxRecDepth 100000 in
set_option maxHeartbeats 1000000 in
theorem split_Seq (F:Fence) (n:Nat) (hF:F.fn 29) (hF2:F.fn 59) (hd:F.depth=none) (hro:F.round=none) (s:ByteArray) (w:World) :
  CallsIn F n Tryz.prog 29 #[.string s,.string ⟨#[10]⟩] w fun e w'=>e = .returned (seqV w.heap.size)/\Boxes w.heap.size s w'/\Below w.heap.size w w'/\w'.heap.size=w.heap.size+3:=by
 have hn:F.depth.isSome=true->1<=n:=fun h=>by rw[hd]at h;cases h
 refine callsIn_of_wp Tryz.func29 rfl hF ?_ hro
 simp only[Tryz.ntmps29,List.size_toArray,List.length_cons,List.length_nil,Nat.reduceAdd,Nat.reduceSub,Array.replicate_succ,Array.replicate_zero,List.push_toArray,List.append_toArray,List.nil_append,List.cons_append]
 gi_wp2_with (gi_at_call 59;refine(split_seq F (n-1) hF2 hro s w).mono ?_)
 rintro e w1 ⟨rfl,hb,hl,hz⟩
 gi_wp2
 go_ret
 exact⟨rfl,hb,hl,hz⟩
def restK:Nat->List UInt8
 |0=>[108,101,116,32,97,32,61,32,49,32,50,32,52,10,118,97,114,32,97,10]
 |1=>[118,97,114,32,97,10]
 |_=>[]
def lineK:Nat->List UInt8
 |0=>[108,101,116,32,97,32,61,32,49,32,50,32,52]
 |1=>[118,97,114,32,97]
 |_=>[]
theorem Boxes.set {b:Nat} {s s':ByteArray} {w:World} (h:Boxes b s w):Boxes b s' (w.setCell ⟨b,0,none⟩ (.string s')):=by
 refine⟨?_,?_,?_⟩
 ·show (w.heap.modify b _)[b]?=_
  rw[Array.getElem?_modify,if_pos rfl,h.s0]
  rfl
 ·rw[Below.heap_setCell _ _ _ _ (by show b+1≠b;omega)]
  exact h.s1
 ·rw[Below.heap_setCell _ _ _ _ (by show b+2≠b;omega)]
  exact h.s2
theorem Boxes.cells {b:Nat} {s:ByteArray} {w:World} (h:Boxes b s w):w.cell? ⟨b,0,none⟩=some (.string s)/\w.frozen? ⟨b,0,none⟩=false/\w.cell? ⟨b+1,0,none⟩=some (.string ⟨#[10]⟩)/\w.cell? ⟨b+2,0,none⟩=some (.int .i64 0):=
 ⟨by rw[Lib.cell_of_heap h.s0];rfl,Lib.frozen_of_heap h.s0 0,by rw[Lib.cell_of_heap h.s1];rfl,by rw[Lib.cell_of_heap h.s2];rfl⟩
def textB (l:List UInt8):ByteArray:=⟨l.toArray⟩
set_option maxRecDepth 100000 in
set_option maxHeartbeats 4000000 in
theorem seq_run (F:Fence) (n b l:Nat) (hF:F.fn 96) (hF2:F.fn 92) (hn:1<=n) (hro:F.round=none) (J:Nat->World->Prop)
  (hIx : ∀k w,J k w->CallsIn F (n-1) Tryz.prog 92 #[.string (textB (restK k)),.string ⟨#[10]⟩] w fun e w'=>e = .returned (.int .i64 (Lib.indexByte (restK k) 10))/\Below w.heap.size w w')
  (hJ : ∀k W W',J k W->(∀j,j<W.heap.size->j≠b->W'.heap[j]?=W.heap[j]?)->W.heap.size<=W'.heap.size->W'.os=W.os->W'.tape=W.tape->W'.output=W.output->J k W')
  (hY : ∀k W,k<3->J k W->Boxes b (textB (restK k)) W->YieldAt F (n-1) Tryz.prog l #[.string (textB (lineK k))] W fun e W'=>e = .returned (.bool true)/\J (k+1) W'/\Boxes b (textB (restK k)) W')
  (W:World) (h0:J 0 W) (hb:Boxes b (textB (restK 0)) W) :
  CallsIn F n Tryz.prog 96 (#[.func (.yield l) #[] #[]] ++ #[.pointer (some ⟨b+1,0,none⟩),.pointer (some ⟨b,0,none⟩),.pointer (some ⟨b+2,0,none⟩)]) W fun e W'=>(∃v,e = .returned v)/\J 3 W':=by
 refine callsIn_of_wp Tryz.func96 rfl hF ?_ hro
 simp only[Tryz.ntmps96,List.size_toArray,List.length_cons,List.length_nil,Nat.reduceAdd,Nat.reduceSub,Array.replicate_succ,Array.replicate_zero,List.push_toArray,List.append_toArray,List.nil_append,List.cons_append]
 obtain⟨c0,-,c1,c2⟩:=hb.cells
 have hset : ∀k W s,J k W->J k (W.setCell ⟨b,0,none⟩ s):=fun k W s h=>hJ k W _ h (fun j _ hjb=>Below.heap_setCell _ _ _ _ hjb) (by simp[World.setCell]) rfl rfl rfl
 have hstep : ∀k W W',J k W->Below W.heap.size W W'->J k W':=fun k W W' h hw=>hJ k W W' h (fun j hj _=>hw.block j hj) hw.size hw.os hw.tape hw.output
 have hbox : ∀ {s W W'},Boxes b s W->Below W.heap.size W W'->Boxes b s W':=fun h hw=>h.same fun k hk _=>hw.block k hk
 clear hJ
 have ix0:Lib.indexByte (restK 0) 10=13:=by decide
 have ix1:Lib.indexByte (restK 1) 10=5:=by decide
 have ix2:Lib.indexByte (restK 2) 10 = -1:=by decide
 have z0:(textB (restK 0)).size=20:=by decide
 have x0:(textB (restK 0)).extract 0 13=textB (lineK 0):=by decide
 have y0:(textB (restK 0)).extract 14 20=textB (restK 1):=by decide
 have z1:(textB (restK 1)).size=6:=by decide
 have x1:(textB (restK 1)).extract 0 5=textB (lineK 1):=by decide
 have e2:textB (restK 2)=ByteArray.empty:=by decide
 have e3:textB (lineK 2)=ByteArray.empty:=by decide
 have hIx2:=hIx 2
 have hY2:=hY 2
 rw[e2]at hIx2 hY2
 rw[e3]at hY2
 gi_wp2
 refine wpIn_loop_rounds 3 ?_
 rw[roundsIn_succ]
 gi_wp2_with (gi_at_call 92;refine(hIx 0 W h0).mono ?_)
 rintro e w1 ⟨rfl,hw1⟩
 rw[ix0]
 replace hb:=hbox hb hw1
 replace h0:=hstep _ _ _ h0 hw1
 obtain⟨fn,tmps,assign,body,hy,hR⟩:=hY 0 w1 (by omega) h0 hb
 clear c0 c1 c2 hw1 h0
 obtain⟨c0,-,c1,c2⟩:=hb.cells
 gi_wp2
 refine hR.mono ?_
 clear hy hR c0 c1 c2 hb
 rintro e w2 ⟨rfl,h0,hb⟩
 obtain⟨c0,c3,c1,c2⟩:=hb.cells
 gi_wp2
 clear c0 c1 c2 c3
 replace h0:=hset _ _ (.string (textB (restK 1))) h0
 replace hb:=hb.set (s':=textB (restK 1))
 generalize w2.setCell ⟨b,0,none⟩ (.string (textB (restK 1)))=w4 at *
 obtain⟨c0,-,c1,c2⟩:=hb.cells
 rw[roundsIn_succ]
 gi_wp2_with (gi_at_call 92;refine(hIx 1 w4 h0).mono ?_)
 rintro e w1 ⟨rfl,hw1⟩
 rw[ix1]
 replace hb:=hbox hb hw1
 replace h0:=hstep _ _ _ h0 hw1
 obtain⟨fn,tmps,assign,body,hy,hR⟩:=hY 1 w1 (by omega) h0 hb
 clear c0 c1 c2 hw1 h0
 obtain⟨c0,-,c1,c2⟩:=hb.cells
 gi_wp2
 refine hR.mono ?_
 clear hy hR c0 c1 c2 hb
 rintro e w2 ⟨rfl,h0,hb⟩
 obtain⟨c0,c3,c1,c2⟩:=hb.cells
 gi_wp2
 clear c0 c1 c2 c3
 replace h0:=hset _ _ (.string ByteArray.empty) h0
 replace hb:=hb.set (s':=ByteArray.empty)
 generalize w2.setCell ⟨b,0,none⟩ (.string ByteArray.empty)=w4 at *
 obtain⟨c0,-,c1,c2⟩:=hb.cells
 rw[roundsIn_succ]
 gi_wp2_with (gi_at_call 92;refine(hIx2 w4 h0).mono ?_)
 rintro e w1 ⟨rfl,hw1⟩
 rw[ix2]
 replace hb:=hbox hb hw1
 replace h0:=hstep _ _ _ h0 hw1
 obtain⟨fn,tmps,assign,body,hy,hR⟩:=hY2 w1 (by omega) h0 hb
 clear c0 c1 c2 hw1 h0
 obtain⟨c0,-,c1,c2⟩:=hb.cells
 gi_wp2
 refine hR.mono ?_
 rintro e w2 ⟨rfl,h0,hb⟩
 gi_wp2
 go_end0
 exact⟨⟨_,rfl⟩,h0⟩
end Go.Proofs.YtheclpmgipiejaaGreatDoor
namespace Go.Ev
open Go.RowKit
def lay (D:List Deferred) (a:Act):Act:={ a with defers:=a.defers++D }
theorem lay_put {D:List Deferred} {a:Act} {dst:Option Nat} {v:Value}:(lay D a).put dst v=lay D (a.put dst v):=by cases dst<;>rfl
theorem lay_eval {D:List Deferred} {a:Act}:(lay D a).eval=a.eval:=funext fun x=>by cases x<;>rfl
def fw:Option Nat->Fence
 |none=>Fence.wide
 |some l=>Fence.wide.inRound l
theorem fw_round (ro:Option Nat):(fw ro).round=ro:=by cases ro<;>rfl
theorem fw_fn (ro:Option Nat) (f:FuncId):(fw ro).fn f:=by cases ro<;>trivial
theorem fw_depth (ro:Option Nat) (h:(fw ro).depth.isSome=true):False:=by cases ro<;>cases h
theorem fw_calls (ro:Option Nat) {n:Nat} {P:Program} {f:FuncId} {args:Array Value} {w:World} {R:Ending->World->Prop} (h:Calls P f args w R):CallsIn (fw ro) n P f args w R:=by
 cases ro with
 |none=>exact callsIn_wide.2 h
 |some l=>exact CallsIn.inRound l (callsIn_wide.2 h)
theorem fw_rows (ro:Option Nat) {n:Nat} {P:Program} {row:String} {args:Array Value} {w:World} {R:Value->World->Prop} (h:Rows P row args w R):RowsIn (fw ro) n P row args w R:=by
 have:RowsIn Fence.wide n P row args w R:=fun c cs _=>by
  obtain⟨v,w',r,s⟩:=h c cs
  exact⟨v,w',r,stepsIn_wide.2 s⟩
 cases ro with
 |none=>exact this
 |some l=>exact this
def notDefer:Op->Bool
 | .defer _=>false
 |_=>true
section
variable {P:Program} {D:List Deferred} {ro:Option Nat} {n:Nat} {Q Q':Exit->Act->World->Prop} {K K':Act->World->Prop} {ops:Array Oper}
theorem op_in {o:Oper} {a:Act} {w:World} (hd:notDefer o.op=true) (hK : ∀a w,K a w->K' (lay D a) w) (hQ : ∀e a w,Q e a w->Q' e (lay D a) w) (hO : ∀a w,¬Q .outgrown a w) (h:o.wp P a w K Q):o.wpIn (fw ro) n P (lay D a) w K' Q':=by
 refine⟨fun f _=>fw_fn ro f,?_⟩
 rw[fw_round,Oper.semAt_eq _ _ _ (fun c e=>by rw[e]at hd;cases hd),lay_eval]
 unfold Oper.wp at h
 generalize (execOp a.eval o).run P w=r at *
 cases r with
 |ok x w' =>
  cases x with
  |value v=>
   rw[Oper.uponIn_value,lay_put]
   exact hK _ _ h
  |skip=>
   rw[Oper.uponIn_skip,lay_put]
   exact hK _ _ h
  |defer d=>
   rw[Oper.uponIn_defer]
   have:({ lay D a with defers:=d::(lay D a).defers }:Act)=lay D { a with defers:=d::a.defers }:=rfl
   rw[this,lay_put]
   exact hK _ _ h
  |enter f args=>
   rw[Oper.uponIn_enter]
   rw[Oper.upon_enter]at h
   refine⟨fun e=>(fw_depth ro e).elim,(fw_calls ro h).mono fun e w'' he => ?_⟩
   cases e with
   |returned v=>
    show K' ((lay D a).put o.dst v) w''
    rw[lay_put]
    exact hK _ _ he
   |panicked ch=>exact hQ _ _ _ he
   |outgrown=>obtain⟨a0,w0,h0⟩:=he;exact(hO _ _ h0).elim
  |row row args=>
   rw[Oper.uponIn_row]
   rw[Oper.upon_row]at h
   refine⟨fun e=>(fw_depth ro e).elim,(fw_rows ro h).mono fun v w'' he => ?_⟩
   rw[lay_put]
   exact hK _ _ he
  |_=>exact h.elim
 |halt x w' =>
  cases x with
  |panic v=>exact hQ _ _ _ h
  |_=>exact h.elim
theorem opI_in {i:Nat} {a:Act} {w:World} (hd : ∀o∈ops,notDefer o.op=true) (hK : ∀a w,K a w->K' (lay D a) w) (hQ : ∀e a w,Q e a w->Q' e (lay D a) w) (hO : ∀a w,¬Q .outgrown a w) (h:wpOp P ops Q i K a w):wpOpIn (fw ro) n P ops Q' i K' (lay D a) w:=by
 unfold wpOp at h
 unfold wpOpIn
 cases ho:ops[i]? with
 |none=>
  rw[ho]at h
  exact hK _ _ h
 |some o=>
  rw[ho]at h
  dsimp only at h ⊢
  have hy:yielded ops (lay D a).tmps=yielded ops a.tmps:=rfl
  rw[hy]
  split at h
  ·rename_i hw
   rw[if_pos hw]
   rcases h with h|⟨_,a0,w0,h0⟩
   ·exact op_in (hd o (Array.mem_of_getElem? ho)) hK hQ hO h
   ·exact(hO _ _ h0).elim
  ·rename_i hw
   rw[if_neg hw]
   refine⟨fun f _=>fw_fn ro f,?_⟩
   rw[lay_put]
   exact hK _ _ h
theorem ops_in (hd : ∀o∈ops,notDefer o.op=true) (hQ : ∀e a w,Q e a w->Q' e (lay D a) w) (hO : ∀a w,¬Q .outgrown a w) : ∀ {l:List Nat} {a:Act} {w:World},wpOps P ops Q l a w->wpOpsIn (fw ro) n P ops Q' l (lay D a) w
 | [],a,w,h=>hQ _ _ _ h
 |i::r,a,w,h=>by
  rw[wpOps_cons]at h
  rw[wpOpsIn_cons]
  exact opI_in hd (fun a w h=>ops_in hd hQ hO h) hQ hO h
theorem any_in (hd : ∀o∈ops,notDefer o.op=true) (hQ : ∀e a w,Q e a w->Q' e (lay D a) w) (hO : ∀a w,¬Q .outgrown a w) : ∀ {fuel:Nat} {listed:Array Bool} {a:Act} {w:World},wpAny P .any ops Q fuel listed a w->wpAnyIn (fw ro) n P .any ops Q' fuel listed (lay D a) w
 |0,_,_,_,h=>⟨h.1,hQ _ _ _ h.2⟩
 |fuel+1,listed,a,w,h=>⟨fun e=>hQ _ _ _ (h.1 e),fun i hi=>opI_in hd (fun a w h=>any_in hd hQ hO h) hQ hO (h.2 i hi)⟩
end
def rdCode:Code->Bool
 | .region _ ops _=>ops.all fun o=>notDefer o.op
 | .seq a b=>rdCode a&&rdCode b
 | .cond _ a b=>rdCode a&&rdCode b
 | .block _ c=>rdCode c
 | .loop c=>rdCode c
 | .skip=>true
 | .exit _=>true
 | .ret=>true
 |_=>false
section
variable {P:Program} {w0:World} {F I:Nat->Prop} {Z:Zy} {N:Nat}
theorem exec_in {call:Callf} (hcall:CallAll P Z.gl call) (hm:P.follows .mixedOrders=true) {mu:FuncId->Bool} (D:List Deferred) (ro:Option Nat) (k:Nat) : ∀ (n:Nat) {c:Code} {st:St} {a:Act} {w:World} {e:Ex} {st':St} {Q:Exit->Act->World->Prop},okCode N c=true->rdCode c=true->To w0 F I Z N st a w ->
  exec P call mu n c st=some (e,st')->(∀a' w',To w0 F I Z N st' a' w'->Q e.cv (lay D a') w')->c.wpIn (fw ro) k P Q (lay D a) w:=by
 intro n
 induction n with
 |zero=>intro c st a w e st' Q _ _ _ h;simp[exec]at h
 |succ n ih=>
  intro c st a w e st' Q hok hrd hr h hQ
  cases c with
  |skip=>simp only[exec,Option.some.injEq,Prod.mk.injEq]at h;obtain⟨rfl,rfl⟩:=h;exact wpIn_skip (hQ _ _ hr)
  |region id ops draw=>
   unfold exec at h
   simp only at h
   split at h
   ·rename_i s0 hs0
    have hr0:To w0 F I Z N s0 a w:=by
     unfold preFrz at hs0
     split at hs0
     ·obtain⟨β,hb⟩:=hr
      exact⟨β,hb.frzAll hs0⟩
     ·cases hs0;exact hr
    split at h
    ·rename_i s hs
     cases h
     have hd : ∀o∈ops,notDefer o.op=true:=by
      unfold rdCode at hrd
      rw[Array.all_eq_true']at hrd
      exact hrd
     have key:=region_st (Q:=fun e a w=>e = .normal/\To w0 F I Z N st' a w) hcall hok hr0 hs fun a' w' h=>⟨rfl,h⟩
     have hQQ : ∀e a w,(e=Exit.normal/\To w0 F I Z N st' a w)->Q e (lay D a) w:=by
      rintro e a w ⟨rfl,h⟩
      exact hQ _ _ h
     have hO : ∀a w,¬(Exit.outgrown=Exit.normal/\To w0 F I Z N st' a w):=fun a w h=>by cases h.1
     cases draw with
     |false=>exact wpIn_region (ops_in hd hQQ hO key)
     |true=>exact wpIn_region_any hm (any_in hd hQQ hO key)
    ·cases h
   ·cases h
  |seq x y=>
   unfold okCode at hok
   unfold rdCode at hrd
   simp only[Bool.and_eq_true]at hok hrd
   unfold exec at h
   simp only at h
   split at h
   ·rename_i s hs
    exact wpIn_seq (ih hok.1 hrd.1 hr hs fun a' w' hr'=>ih hok.2 hrd.2 hr' h hQ)
   ·rename_i hne
    refine wpIn_seq (ih hok.1 hrd.1 hr h fun a' w' hr' => ?_)
    have hq:=hQ a' w' hr'
    cases e with
    |normal=>exact(hne _ h).elim
    |exit i=>exact hq
    |ret=>exact hq
    |goto l=>exact hq
  |cond x t f=>
   unfold okCode at hok
   unfold rdCode at hrd
   simp only[Bool.and_eq_true]at hok hrd
   unfold exec at h
   simp only at h
   split at h
   ·rename_i b hb
    obtain⟨β,hrel⟩:=hr
    have hv:=hrel.eval x
    rw[hb]at hv
    refine wpIn_cond (t:=b) (by rw[lay_eval];exact rep_bool hv) ?_
    cases b with
    |true=>exact ih hok.1 hrd.1 ⟨β,hrel⟩ h hQ
    |false=>exact ih hok.2 hrd.2 ⟨β,hrel⟩ h hQ
   ·cases h
  |block id b=>
   unfold exec at h
   simp only at h
   refine wpIn_block ?_
   split at h
   ·rename_i i s hs
    refine ih hok hrd hr hs fun a' w' hr' => ?_
    show if i=id then Q .normal (lay D a') w' else Q (.exit i) (lay D a') w'
    split at h
    ·rename_i hi
     cases h
     rw[if_pos hi]
     exact hQ a' w' hr'
    ·rename_i hi
     cases h
     rw[if_neg hi]
     exact hQ a' w' hr'
   ·rename_i hne
    refine ih hok hrd hr h fun a' w' hr' => ?_
    have hq:=hQ a' w' hr'
    cases e with
    |normal=>exact hq
    |exit i=>exact(hne _ _ h).elim
    |ret=>exact hq
    |goto l=>exact hq
  |loop b=>
   have key : ∀ (m:Nat),m<=n+1 -> ∀ {st:St} {a:Act} {w:World},To w0 F I Z N st a w->exec P call mu m (.loop b) st=some (e,st')->Code.roundsIn (fw ro) k P b Q m (lay D a) w:=by
    intro m
    induction m with
    |zero=>intro _ st a w _ h;simp[exec]at h
    |succ m ihm=>
     intro hle st a w hr h
     rw[roundsIn_succ]
     unfold exec at h
     simp only at h
     split at h
     ·rename_i s hs
      have hs':=exec_mono (CallLe.refl call) (show m<=n by omega) hs
      exact ih hok hrd hr hs' fun a' w' hr'=>ihm (by omega) hr' h
     ·rename_i hne
      have h':=exec_mono (CallLe.refl call) (show m<=n by omega) h
      refine ih hok hrd hr h' fun a' w' hr' => ?_
      have hq:=hQ a' w' hr'
      cases e with
      |normal=>exact(hne _ h).elim
      |exit i=>exact hq
      |ret=>exact hq
      |goto l=>exact hq
   exact wpIn_loop_rounds (n+1) (key (n+1) (Nat.le_refl _) hr h)
  |rangeFunc f p x y=>simp[exec]at h
  |exit id=>simp only[exec,Option.some.injEq,Prod.mk.injEq]at h;obtain⟨rfl,rfl⟩:=h;exact wpIn_exit (hQ _ _ hr)
  |scope b=>cases hrd
  |label l=>cases hrd
  |goto l=>cases hrd
  |ret=>simp only[exec,Option.some.injEq,Prod.mk.injEq]at h;obtain⟨rfl,rfl⟩:=h;exact wpIn_ret (hQ _ _ hr)
  |refuse why=>simp[exec]at h
end
end Go.Ev
