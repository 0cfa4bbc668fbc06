/- Part 6 of the proof: the evaluator, contracts of functions and their plain laws (joined by program). No condition. -/
import Derived.Test.YtdahehdomajbgaaGreatDoorPart5
import Derived.Lib.Bytealg
import Derived.Lib.Join
import Derived.Lib.SlTrimSet
import Derived.Lib.Atoi
import Derived.Laws.Externs
import Derived.Lib.Overlaps
import Derived.Shelf.Strings.OnBuilder
import Derived.Shelf.Strings.SlTrimAscii
import Derived.Shelf.Strconv.Atoi
import Derived.Test.YtdahehdomajbgaaGreatDoorProg
set_option linter.unusedVariables false
set_option linter.unusedSimpArgs false
set_option maxRecDepth 100000
namespace Go.Ev
def bs (l:List UInt8):ByteArray:=⟨l.toArray⟩
theorem bs_toList (l:List UInt8):(bs l).data.toList=l:=by simp[bs]
theorem bs_size (l:List UInt8):(bs l).size=l.length:=by simp[bs,ByteArray.size]
theorem bs_get (l:List UInt8) (i:Nat):(bs l)[i]?=l[i]?:=by
 rw[getElem?_def]
 split
 ·rename_i h
  have h':i<l.length:=by rw[<- bs_size];exact h
  rw[List.getElem?_eq_getElem h']
  rfl
 ·rename_i h
  have h' : ¬i<l.length:=by rw[<- bs_size];exact h
  rw[List.getElem?_eq_none (by omega)]
theorem bs_append (a b:List UInt8):bs a++bs b=bs (a++b):=by
 apply ByteArray.ext
 simp[bs]
theorem bs_extract (l:List UInt8) (a b:Nat):(bs l).extract a b=bs ((l.drop a).take (b-a)):=by
 apply ByteArray.ext
 simp[bs]
theorem bs_list (l:List UInt8):(bs l).toList=l:=by
 rw[ByteArray.toList_eq]
 exact bs_toList l
theorem bs_eq {a b:List UInt8}:((bs a).toList==(bs b).toList)=(a==b):=by rw[bs_list,bs_list]
def dig (b:UInt8):Bool:=48<=b.toNat&&b.toNat<=57
def digs (l:List UInt8):Bool:=l.all dig
def natD (l:List UInt8):Nat:=l.foldl (fun a b=>a*10+(b.toNat-48)) 0
def natLE:List UInt8->Nat
 | []=>0
 |b::r=>(b.toNat-48)+10*natLE r
theorem natD_nil:natD []=0:=rfl
theorem natD_snoc (l:List UInt8) (b:UInt8):natD (l++[b])=natD l*10+(b.toNat-48):=by simp[natD]
theorem natD_rev (l:List UInt8):natD l.reverse=natLE l:=by
 induction l with
 |nil=>rfl
 |cons b r ih=>
  rw[List.reverse_cons,natD_snoc,ih,natLE]
  omega
theorem natLE_lt {l:List UInt8} (h:digs l=true):natLE l<10^l.length:=by
 induction l with
 |nil=>simp[natLE]
 |cons b r ih=>
  unfold digs at h
  rw[List.all_cons,Bool.and_eq_true]at h
  have hb:=h.1
  unfold dig at hb
  simp only[Bool.and_eq_true,decide_eq_true_eq]at hb
  have:=ih h.2
  rw[natLE,List.length_cons,Nat.pow_succ]
  omega
end Go.Ev
namespace Go.Ev
open Go.RowKit
def CallAt (P:Program) (g:FuncId) (args:List Arg) (r:Ret) (exps:List (Option (List SV))):Prop:=
 ∀ (w:World) (F:Nat->Prop) (B:Nat->Nat) (vals:Array Value),(∀b,F b->b<w.heap.size)->vals.size=args.length ->
  (∀ (i:Nat) (x:Arg),args[i]?=some x->ArgRep w F (vals.getD i undef) (B i) x) ->
  (∀ (i j:Nat) (x y:Arg),args[i]?=some x->args[j]?=some y->isImp x=true->isImp y=true->B i=B j->i=j) ->
  Invk P g vals w fun e w' => ∃v,e = .returned v/\RetRep w w' F v r/\Ext (impB args B) w w' /\ ∀ (i:Nat) (cs:List SV),exps[i]?=some (some cs)->Holds w' F (B i) cs
theorem sv_imp {ss:List SV} {B:Nat->Nat} {b:Nat} : ¬impB (ss.map Arg.sv) B b:=by
 rintro⟨i,x,hx,hi,_⟩
 rw[List.getElem?_map]at hx
 cases hs:ss[i]? with
 |none=>rw[hs]at hx;cases hx
 |some s=>rw[hs]at hx;cases hx;cases hi
theorem ext_below {w w':World} {J:Nat->Prop} (h:Below w.heap.size w w') (hJ : ∀b,¬J b):Ext J w w' :=
 ⟨h.os,h.tape,h.output,h.size,fun b hb _=>h.block b hb,fun b cs ty hb hi _=>(hJ b hi).elim⟩
theorem at_extern {P:Program} {g:FuncId} {ss:List SV} {s:SV} {exps:List (Option (List SV))} (he : ∀i:Nat,exps[i]?≠some (some []) /\ ∀cs,exps[i]?≠some (some cs))
  (h : ∀ (w:World) (F:Nat->Prop) (vals:Array Value),vals.size=ss.length->(∀ (i:Nat) (x:SV),ss[i]?=some x->Rep w F (vals.getD i undef) x) -> ∃v,(callFunc g vals).run P w = .ok (.value v) w/\Rep w F v s) :
  CallAt P g (ss.map Arg.sv) (.sv s) exps:=by
 intro w F B vals hF hsz hrep hinj
 obtain⟨v,hv,hr⟩:=h w F vals (by simpa using hsz) (fun i x hx=>by
  have:=hrep i (.sv x) (by rw[List.getElem?_map,hx];rfl)
  exact this)
 exact .inr ⟨v,hv,v,rfl,hr,ext_below (Below.refl _ _) (fun b=>sv_imp),fun i cs hi=>((he i).2 cs hi).elim⟩
theorem at_calls {P:Program} {g:FuncId} {ss:List SV} {s:SV} {exps:List (Option (List SV))} (hE:Enters P g) (he : ∀i:Nat,exps[i]?≠some (some []) /\ ∀cs,exps[i]?≠some (some cs))
  (h : ∀ (w:World) (F:Nat->Prop) (vals:Array Value),vals.size=ss.length->(∀ (i:Nat) (x:SV),ss[i]?=some x->Rep w F (vals.getD i undef) x)->Calls P g vals w fun e w' => ∃v,e = .returned v/\Rep w' F v s/\Below w.heap.size w w') :
  CallAt P g (ss.map Arg.sv) (.sv s) exps:=by
 intro w F B vals hF hsz hrep hinj
 refine .inl ⟨hE,(h w F vals (by simpa using hsz) (fun i x hx=>hrep i (.sv x) (by rw[List.getElem?_map,hx];rfl))).mono ?_⟩
 rintro e w' ⟨v,rfl,hr,hb⟩
 exact⟨v,rfl,hr,ext_below hb (fun b=>sv_imp),fun i cs hi=>((he i).2 cs hi).elim⟩
theorem none_exps {n:Nat} (i:Nat):(List.replicate n (none:Option (List SV)))[i]?≠some (some []) /\ ∀cs,(List.replicate n (none:Option (List SV)))[i]?≠some (some cs):=by
 constructor
 ·intro h
  rw[List.getElem?_replicate]at h
  split at h<;>simp at h
 ·intro cs h
  rw[List.getElem?_replicate]at h
  split at h<;>simp at h
def xIndex:List Arg->Option (Ret×List (Option (List SV)))
 | [.sv (.str s),.sv (.int .u8 c)]=>some (.sv (.int .i64 (Lib.indexByte s.data.toList c.toNat.toUInt8)),List.replicate 2 none)
 |_=>none
def xCount:List Arg->Option (Ret×List (Option (List SV)))
 | [.sv (.str s),.sv (.int .u8 c)]=>some (.sv (.int .i64 (Lib.countByte s.data.toList c.toNat.toUInt8)),List.replicate 2 none)
 |_=>none
def xCmp:List Arg->Option (Ret×List (Option (List SV)))
 | [.sv (.str a),.sv (.str b)]=>some (.sv (.int .i64 (Lib.compareBytes a.data.toList b.data.toList)),List.replicate 2 none)
 |_=>none
def xTrim:List Arg->Option (Ret×List (Option (List SV)))
 | [.sv (.str s),.sv (.str c)]=>if s.size<=9223372036854775807/\c.size<4294967281/\c.data.toList.all (fun b=>decide (b.toNat<128))=true then some (.sv (.str (bs (Lib.trimS s.data.toList c.data.toList))),List.replicate 2 none) else none
 |_=>none
def xTrimLeft:List Arg->Option (Ret×List (Option (List SV)))
 | [.sv (.str s),.sv (.str c)]=>if c.size<4294967281/\c.data.toList.all (fun b=>decide (b.toNat<128))=true then some (.sv (.str (bs (Lib.trimLeftS s.data.toList c.data.toList))),List.replicate 2 none) else none
 |_=>none
def xAtoi:List Arg->Option (Ret×List (Option (List SV)))
 | [.sv (.str s)]=>match Lib.atoi s.data.toList with
  |some v=>if s.size<=18 then some (.sv (.tup [.int .i64 v,.con .nilIface]),List.replicate 1 none) else none
  |none=>none
 |_=>none
def strsOf:List SV->Option (List (List UInt8))
 | []=>some []
 | .str s::r=>match strsOf r with
  |some l=>some (s.data.toList::l)
  |none=>none
 |_=>none
def xJoin:List Arg->Option (Ret×List (Option (List SV)))
 | [.sv (.sl n cs),.sv (.str sep)]=>match strsOf cs with
  |some xs=>if xs.length=n/\n<=140737488355328/\(Lib.join xs sep.data.toList).length<=140737488355328 then some (.sv (.str (bs (Lib.join xs sep.data.toList))),List.replicate 2 none) else none
  |none=>none
 |_=>none
def splitB (c:UInt8):List UInt8->List (List UInt8)
 | []=>[[]]
 |b::r=>if b==c then []::splitB c r else match splitB c r with
  |x::xs=>(b::x)::xs
  | []=>[[b]]
def strC (l:List UInt8):SV := .str (bs l)
def xGenSplit:List Arg->Option (Ret×List (Option (List SV)))
 | [.sv (.str s),.sv (.str sep),.sv (.int .i64 0),.sv (.int .i64 (-1))]=>match sep.data.toList with
  | [c]=>if s.size<=1048576 then some (.row ((splitB c s.data.toList).map strC) 1 0 (splitB c s.data.toList).length,List.replicate 4 none) else none
  |_=>none
 |_=>none
def xSplit:List Arg->Option (Ret×List (Option (List SV)))
 | [.sv (.str s),.sv (.str sep)]=>match sep.data.toList with
  | [c]=>if s.size<=1048576 then some (.row ((splitB c s.data.toList).map strC) 1 0 (splitB c s.data.toList).length,List.replicate 2 none) else none
  |_=>none
 |_=>none
section
variable {P:Program} {g:FuncId} {fn:Func} {args:List Arg} {r:Ret} {exps:List (Option (List SV))}
theorem rep_str2 {w:World} {F:Nat->Prop} {vals:Array Value} {s:ByteArray} {x:SV} (hsz:vals.size=2) (h : ∀ (i:Nat) (y:SV),[SV.str s,x][i]?=some y->Rep w F (vals.getD i undef) y) : ∃v,vals = #[.string s,v]/\Rep w F v x:=by
 have h0:=h 0 _ rfl
 have h1:=h 1 _ rfl
 obtain⟨l⟩:=vals
 match l,hsz,h0,h1 with
 | [a,b],_,h0,h1=>
  have h0:Rep w F a (.str s):=h0
  have h1:Rep w F b x:=h1
  rw[rep_str h0]
  exact⟨b,rfl,h1⟩
theorem index_at (hf : P.funcs[g]? = some fn) (hname : (fn.name == "runtime.NumGoroutine") = false) (hb : fn.body.isNone = true) (hn : Extern.findNext fn = none) (he : Extern.find fn = some Extern.BytealgIndexByte.indexByte)
  (h:xIndex args=some (r,exps)):CallAt P g args r exps:=by
 unfold xIndex at h
 split at h
 ·rename_i s c
  cases h
  refine at_extern (ss:=[.str s,.int .u8 c]) none_exps fun w F vals hsz hrep => ?_
  obtain⟨v,rfl,hv⟩:=rep_str2 hsz hrep
  rw[rep_int hv]
  refine⟨_,?_,.int _ _⟩
  rw[run_callFunc_extern hf hname hb hn he,Lib.run_indexByteString]
  rfl
 ·cases h
theorem cmp_at (hf : P.funcs[g]? = some fn) (hname : (fn.name == "runtime.NumGoroutine") = false) (hb : fn.body.isNone = true) (hn : Extern.findNext fn = none) (he : Extern.find fn = some Extern.BytealgCompare.compare)
  (h:xCmp args=some (r,exps)):CallAt P g args r exps:=by
 unfold xCmp at h
 split at h
 ·rename_i s c
  cases h
  refine at_extern (ss:=[.str s,.str c]) none_exps fun w F vals hsz hrep => ?_
  obtain⟨v,rfl,hv⟩:=rep_str2 hsz hrep
  rw[rep_str hv]
  refine⟨_,?_,.int _ _⟩
  rw[run_callFunc_extern hf hname hb hn he,Lib.run_compareString]
  rfl
 ·cases h
theorem count_at (hf : P.funcs[g]? = some fn) (hname : (fn.name == "runtime.NumGoroutine") = false) (hb : fn.body.isNone = true) (hn : Extern.findNext fn = none) (he : Extern.find fn = some Extern.BytealgCount.count)
  (h:xCount args=some (r,exps)):CallAt P g args r exps:=by
 unfold xCount at h
 split at h
 ·rename_i s c
  cases h
  refine at_extern (ss:=[.str s,.int .u8 c]) none_exps fun w F vals hsz hrep => ?_
  obtain⟨v,rfl,hv⟩:=rep_str2 hsz hrep
  rw[rep_int hv]
  refine⟨_,?_,.int _ _⟩
  rw[run_callFunc_extern hf hname hb hn he,Lib.run_countString]
  rfl
 ·cases h
theorem trim_at (hE:Enters P g) (hC : ∀ (s c:ByteArray) (w:World),s.size<=9223372036854775807->c.size<4294967281->(∀ (j:Nat) b,c.data.toList[j]?=some b->b.toNat<128) ->
   Calls P g #[.string s,.string c] w fun e w'=>e = .returned (.string ⟨(Lib.trimS s.data.toList c.data.toList).toArray⟩)/\Below w.heap.size w w')
  (h:xTrim args=some (r,exps)):CallAt P g args r exps:=by
 unfold xTrim at h
 split at h
 ·rename_i s c
  split at h
  ·rename_i hc
   cases h
   refine at_calls (ss:=[.str s,.str c]) hE none_exps fun w F vals hsz hrep => ?_
   obtain⟨v,rfl,hv⟩:=rep_str2 hsz hrep
   rw[rep_str hv]
   refine(hC s c w hc.1 hc.2.1 (fun j b hb=>of_decide_eq_true (List.all_eq_true.1 hc.2.2 b (List.mem_of_getElem? hb)))).mono ?_
   rintro e w' ⟨rfl,hb⟩
   exact⟨_,rfl,.str _,hb⟩
  ·cases h
 ·cases h
theorem trimLeft_at (hE:Enters P g) (hC : ∀ (s c:ByteArray) (w:World),c.size<4294967281->(∀ (j:Nat) b,c.data.toList[j]?=some b->b.toNat<128) ->
   Calls P g #[.string s,.string c] w fun e w'=>e = .returned (.string ⟨(Lib.trimLeftS s.data.toList c.data.toList).toArray⟩)/\Below w.heap.size w w')
  (h:xTrimLeft args=some (r,exps)):CallAt P g args r exps:=by
 unfold xTrimLeft at h
 split at h
 ·rename_i s c
  split at h
  ·rename_i hc
   cases h
   refine at_calls (ss:=[.str s,.str c]) hE none_exps fun w F vals hsz hrep => ?_
   obtain⟨v,rfl,hv⟩:=rep_str2 hsz hrep
   rw[rep_str hv]
   refine(hC s c w hc.1 (fun j b hb=>of_decide_eq_true (List.all_eq_true.1 hc.2 b (List.mem_of_getElem? hb)))).mono ?_
   rintro e w' ⟨rfl,hb⟩
   exact⟨_,rfl,.str _,hb⟩
  ·cases h
 ·cases h
theorem atoi_at (hE:Enters P g) (hC : ∀ (s:ByteArray) (v:Int) (w:World),s.size<=18->Lib.atoi s.data.toList=some v ->
   Calls P g #[.string s] w fun e w'=>e = .returned (.tuple #[.int .i64 v,.nilIface])/\Below w.heap.size w w')
  (h:xAtoi args=some (r,exps)):CallAt P g args r exps:=by
 unfold xAtoi at h
 split at h
 ·rename_i s
  split at h
  ·rename_i v hv
   split at h
   ·rename_i hc
    cases h
    refine at_calls (ss:=[.str s]) hE none_exps fun w F vals hsz hrep => ?_
    have h0:=hrep 0 _ rfl
    obtain⟨l⟩:=vals
    match l,hsz,h0 with
    | [a],_,h0=>
     have h0:Rep w F a (.str s):=h0
     rw[rep_str h0]
     refine(hC s v w hc hv).mono ?_
     rintro e w' ⟨rfl,hb⟩
     refine⟨_,rfl,.tup _ _ rfl (fun i x hx => ?_),hb⟩
     match i with
     |0=>cases hx;exact .int _ _
     |1=>cases hx;exact .con _ rfl
     |i+2=>simp at hx
   ·cases h
  ·cases h
 ·cases h
theorem strsOf_get : ∀ {cs:List SV} {xs:List (List UInt8)},strsOf cs=some xs->cs=xs.map (fun l => .str (bs l))
 | [],xs,h=>by cases h;rfl
 |c::r,xs,h=>by
  unfold strsOf at h
  split at h
  ·rename_i heq;cases heq
  ·rename_i s r' heq
   injection heq with e1 e2
   subst e1 e2
   split at h
   ·rename_i l hl
    cases h
    rw[List.map_cons,<- strsOf_get hl]
    rfl
   ·cases h
  ·cases h
theorem join_at (hE:Enters P g)
  (h0 : ∀ (a:Option Addr) (c:Nat) (sep:ByteArray) (w:World),Calls P g #[.slice a 0 c,.string sep] w fun e w'=>e = .returned (.string ⟨#[]⟩)/\w'=w)
  (hC : ∀ (bk o c:Nat) (xs:List ByteArray) (sep:ByteArray) (w:World),(∀ (j:Nat) x,xs[j]?=some x->w.cell? ⟨bk,o+j,none⟩=some (.string x))->bk<w.heap.size->xs.length<=140737488355328->xs.length<=c ->
   (Lib.join (xs.map (·.data.toList)) sep.data.toList).length<=140737488355328 ->
   Calls P g #[.slice (some ⟨bk,o,none⟩) xs.length c,.string sep] w fun e w'=>e = .returned (.string ⟨(Lib.join (xs.map (·.data.toList)) sep.data.toList).toArray⟩)/\Below w.heap.size w w')
  (h:xJoin args=some (r,exps)):CallAt P g args r exps:=by
 unfold xJoin at h
 split at h
 ·rename_i n cs sep
  split at h
  ·rename_i xs hxs
   split at h
   ·rename_i hc
    cases h
    obtain⟨hn,hm,hl⟩:=hc
    refine at_calls (ss:=[.sl n cs,.str sep]) hE none_exps fun w F vals hsz hrep => ?_
    have r0:=hrep 0 _ rfl
    have r1:=hrep 1 _ rfl
    obtain⟨l⟩:=vals
    match l,hsz,r0,r1 with
    | [a,b],_,r0,r1=>
     have r0:Rep w F a (.sl n cs):=r0
     have r1:Rep w F b (.str sep):=r1
     rw[rep_str r1]
     have hcs:=strsOf_get hxs
     have none_case : ∀ (A:Option Addr) (cap:Nat),xs=[]->Calls P g #[.slice A 0 cap,.string sep] w fun e w' => ∃v,e = .returned v/\Rep w' F v (.str (bs (Lib.join xs sep.data.toList)))/\Below w.heap.size w w':=by
      intro A cap hx
      subst hx
      refine(h0 A cap sep w).mono ?_
      rintro e w' ⟨rfl,rfl⟩
      exact⟨_,rfl,.str _,Below.refl _ _⟩
     cases r0 with
     |sl0 A _ cap _=>
      have hx:xs=[]:=by
       cases xs with
       |nil=>rfl
       |cons x xs=>simp at hcs
      subst hx
      cases hn
      exact none_case A cap rfl
     |sl p _ cap hle _ c hb hcell hr=>
      cases xs with
      |nil=>cases hn;exact none_case _ cap rfl
      |cons x xs=>
       have hcell' : ∀ (j:Nat) (y:ByteArray),((x::xs).map bs)[j]?=some y->w.cell? (p.add j)=some (.string y):=by
        intro j y hy
        have hj:cs[j]?=some (.str y):=by
         rw[hcs]
         rw[List.getElem?_map]at hy ⊢
         cases hz:(x::xs)[j]? with
         |none=>rw[hz]at hy;cases hy
         |some z=>rw[hz]at hy;cases hy;rfl
        rw[hcell j _ hj,rep_str (hr j _ hj)]
       have hp:p=⟨p.block,p.off,none⟩:=by
        have:=hcell' 0 _ rfl
        rw[show p.add 0=p from rfl]at this
        obtain⟨pb,po,ps⟩:=p
        cases ps with
        |none=>rfl
        |some _=>
         simp[World.cell?]at this
         split at this<;>simp at this
       have hlt:p.block<w.heap.size:=World.block_lt_of_cell? w p (hcell' 0 _ rfl)
       have key:=hC p.block p.off cap ((x::xs).map bs) sep w (fun j y hy=>by
        have:=hcell' j y hy
        rw[hp,add_mk]at this
        exact this) hlt (by rw[List.length_map];omega) (by rw[List.length_map];omega) (by
         rw[List.map_map]
         have:(x::xs).map ((fun y:ByteArray=>y.data.toList) ∘ bs)=x::xs:=by
          rw[show ((fun y:ByteArray=>y.data.toList) ∘ bs)=id from funext fun y=>bs_toList y]
          simp
         rw[this]
         exact hl)
       rw[List.length_map,hn,<- hp,List.map_map]at key
       have e1:(x::xs).map ((fun y:ByteArray=>y.data.toList) ∘ bs)=x::xs:=by
        rw[show ((fun y:ByteArray=>y.data.toList) ∘ bs)=id from funext fun y=>bs_toList y]
        simp
       rw[e1]at key
       refine key.mono ?_
       rintro e w' ⟨rfl,hb⟩
       exact⟨_,rfl,.str _,hb⟩
   ·cases h
  ·cases h
 ·cases h
end
end Go.Ev
namespace Go.Ev
open Go.RowKit
def insSt (st:St) (d g:Nat) (cs:List SV):St:=
 {tmp:=fun t=>(st.tmp t).kill d g
  obj:=fun d' g'=>if d'=d/\g'=g then some cs else st.obj d' g'
  gen:=fun d'=>st.gen d'+1
  hob:=fun d' g'=>(st.hob d' g').map fun ts=>ts.map fun t=>t.kill d g
  up:=fun t=>(st.up t).kill d g
  bm:=st.bm
  bw:=st.bw }
def xIns:List Arg->Option (Ret×List (Option (List SV)))
 | [.st false st [.ref d g 2 0 n,.sv (.int .i64 i),.ref d2 g2 2 0 1]]=>match st.obj d g,st.obj d2 g2 with
  |some cs,some [.str b,.sl m l]=>if d<N0 /\ ¬(d2=d/\g2=g)/\cs.length=n*2/\oneAll cs=true/\0<=i/\i.toNat<=n/\n<=100000 then
    some (.st (insSt st d g (cs.take (i.toNat*2)++[.str b,.sl m l]++cs.drop (i.toNat*2))) (.ref d g 2 0 (n+1)),[]) else none
  |_,_=>none
 |_=>none
def xOver:List Arg->Option (Ret×List (Option (List SV)))
 | [.st false st [.ref d g 2 0 1,.rfc d' g' 2 off n c]]=>if (st.obj d g).isSome=true/\(st.obj d' g').isSome=true /\ ¬(d=d'/\g=g')/\0<c then some (.st st (.sv (.bool false)),[]) else none
 |_=>none
theorem insSt_upd {s:St} {l:Loc} {d g:Nat} {cs:List SV} {v:TV}:insSt (s.upd l v) d g cs=(insSt s d g cs).upd l (v.kill d g):=by
 cases l with
 |tmp t=>
  refine St.ext' (fun x => ?_) (fun _ _=>rfl) (fun _=>rfl) rfl rfl
  show TV.kill d g (if x=t then v else s.tmp x)=if x=t then v.kill d g else (s.tmp x).kill d g
  split<;>rfl
 |up t=>
  refine St.ext' (fun _=>rfl) (fun _ _=>rfl) (fun _=>rfl) rfl (funext fun x => ?_)
  show TV.kill d g (if x=t then v else s.up x)=if x=t then v.kill d g else (s.up x).kill d g
  split<;>rfl
theorem ins_eqv {b:Bool} {s:St} {vs:List TV} {r:Ret} {e:List (Option (List SV))} (h:xIns [.st b s vs]=some (r,e)) (l:Loc) : ∃m:TV->TV,∀v,xIns [.st b (s.upd l v) vs]=some (r.upd l (m v),e):=by
 unfold xIns at h
 split at h
 ·rename_i st d g n i d2 g2 hargs
  cases hargs
  split at h
  ·rename_i cs bb m l0 h1 h2
   split at h
   ·rename_i hc
    cases h
    refine⟨fun v=>v.kill d g,fun v => ?_⟩
    unfold xIns
    simp only[upd_obj,h1,h2]
    rw[if_pos hc,insSt_upd]
    rfl
   ·cases h
  ·cases h
 ·cases h
theorem over_eqv {b:Bool} {s:St} {vs:List TV} {r:Ret} {e:List (Option (List SV))} (h:xOver [.st b s vs]=some (r,e)) (l:Loc) : ∃m:TV->TV,∀v,xOver [.st b (s.upd l v) vs]=some (r.upd l (m v),e):=by
 unfold xOver at h
 split at h
 ·rename_i st d g d' g' off n c hargs
  cases hargs
  split at h
  ·rename_i hc
   cases h
   refine⟨id,fun v => ?_⟩
   unfold xOver
   simp only[upd_obj]
   rw[if_pos hc]
   rfl
  ·cases h
 ·cases h
section
variable {P:Program} {w0 w:World} {F I:Nat->Prop} {Z:Zy} {N:Nat} {β:Nat->Nat->Nat} {st:St} {a:Act}
theorem over_in {P : Program} {g : FuncId} {fn : Func} {tS tR e : TypeId} {size : Nat} (hf : P.funcs[g]? = some fn) (hname : (fn.name == "runtime.NumGoroutine") = false) (hb : fn.body.isNone = true) (hn : Extern.findNext fn = none) (he : Extern.find fn = some (Extern.SlicesOverlaps.overlaps #[tS, tS] #[tR]))
  (hel:elm P tS=some (e,2,size)) {k:Bool} {st:St} {vs:List TV} {r:Ret} {exps:List (Option (List SV))} (h:xOver [.st k st vs]=some (r,exps))
  (w0:World) (F I:Nat->Prop) (Z:Zy) (N:Nat) (β:Nat->Nat->Nat) (a:Act) (w:World) (vals:Array Value) (hrel:Rel w0 F I Z N β st a w) (hsz:vals.size=vs.length)
  (hv : ∀ (i:Nat) (v:TV),vs[i]?=some v->RepT β w (Mut F β st) (vals.getD i undef) v /\ ∀d g,v.id=some (d,g)->g<st.gen d) :
  Invk P g vals w fun e w' => ∃v,e = .returned v/\InRet w0 F I Z N st a w' k v r:=by
 unfold xOver at h
 split at h
 ·rename_i st1 d g1 d' g' off n c hargs
  cases hargs
  split at h
  ·rename_i hc
   cases h
   obtain⟨ho,ho',hne,hn0⟩:=hc
   obtain⟨cap,cs,ty,h1,h2,h3,h4⟩:=(hv 0 _ rfl).1
   obtain⟨cs',ty',h1',h2',h3',h4'⟩:=(hv 1 _ rfl).1
   have hvals:vals = #[vals.getD 0 undef,vals.getD 1 undef]:=by
    have:vals.size=2:=hsz
    apply Array.ext
    ·simpa using this
    ·intro i hi1 hi2
     have hi:i<2:=by simpa using hi2
     match i,hi with
     |0,_=>simp[Array.getD_eq_getD_getElem?,hi1]
     |1,_=>simp[Array.getD_eq_getD_getElem?,hi1]
   have hbne:β d g1≠β d' g':=fun e=>hne (hrel.inj _ _ _ _ ho ho' e)
   obtain⟨hu,i,hi,his,hib⟩:=elm_parts hel
   have hk:cs'.size≠0:=by omega
   refine .inr ⟨.bool false,?_,.bool false,rfl,rfl,β,hrel,.bool _,fun d g e=>by simp[TV.id]at e⟩
   rw[run_callFunc_extern hf hname hb hn he,hvals,h1,h1']
   rw[Lib.run_overlaps_apart w tS tR e hu 2 (fun w=>by rw[<- his];exact run_size hi w) ⟨β d g1,0,none⟩ ⟨β d' g',off,none⟩ 1 cap n c hbne ty ty' cs.size cs'.size (by simp only[World.shape?,h3]) (by simp only[World.shape?,h3']) hk
    (by simp only[World.frozen?,h3];simp) (by simp only[World.frozen?,h3];simp)]
   rfl
  ·cases h
 ·cases h
theorem Rel.genUp (h:Rel w0 F I Z N β st a w) {gen':Nat->Nat} (hg : ∀d,st.gen d<=gen' d):Rel w0 F I Z N β { st with gen:=gen' } a w where
 defers:=h.defers
 size:=h.size
 tmps:=h.tmps
 ids:=fun t d g hx=>Nat.lt_of_lt_of_le (h.ids t d g hx) (hg d)
 objs:=h.objs
 own:=h.own
 room:=h.room
 inj:=h.inj
 gens:=fun d g ho=>Nat.lt_of_lt_of_le (h.gens d g ho) (hg d)
 ext:=h.ext
 old:=h.old
 imps:=h.imps
 pin:=h.pin
 ups:=h.ups
 uids:=fun t d g hx=>Nat.lt_of_lt_of_le (h.uids t d g hx) (hg d)
 glob:=h.glob
 hobs:=fun d' g' ts hts=>by
  obtain⟨h1,h2,cs1,ty1,hb1,hall⟩:=h.hobs d' g' ts hts
  refine⟨h1,h2,cs1,ty1,hb1,fun i x hx => ?_⟩
  obtain⟨v,hv,ho,hr,hid⟩:=hall i x hx
  exact⟨v,hv,ho,hr,fun d1 g1 e=>Nat.lt_of_lt_of_le (hid d1 g1 e) (hg d1)⟩
 bms:=h.bms
theorem Rel.lessObj (h:Rel w0 F I Z N β st a w) {d g:Nat} {cs cs':List SV} (hdN:d<N0) (ho:st.obj d g=some cs) (hp : ∀ (i:Nat) (s:SV),cs'[i]?=some s->cs[i]?=some s):Rel w0 F I Z N β (st.set d g cs') a w:=by
 obtain⟨us,ty,hb,hall⟩:=h.objs d g cs ho
 exact h.set ho hb hb rfl (fun b _=>rfl) rfl rfl rfl rfl (fun i s hs=>hall i s (hp i s hs)) (.inl (h.no_hob (Nat.lt_trans hdN (by decide))))
theorem Rel.rename (h:Rel w0 F I Z N β st a w) {d g D G:Nat} {cs cs':List SV} (hd:d<N0) (hD:D<N0) (hne : ¬(d=D/\g=G)) (ho:st.obj d g=some cs) (hO:st.obj D G=some cs')
  (hno : ∀t d' g',(st.tmp t).id=some (d',g') -> ¬(d'=d/\g'=g) /\ ¬(d'=D/\g'=G)) (hnu : ∀t d' g',(st.up t).id=some (d',g') -> ¬(d'=d/\g'=g) /\ ¬(d'=D/\g'=G))
  (hnh : ∀ (d1 g1:Nat) (ts:List TV) (i:Nat) (x:TV) (d' g':Nat),st.hob d1 g1=some ts->ts[i]?=some x->x.id=some (d',g') -> ¬(d'=d/\g'=g) /\ ¬(d'=D/\g'=G)) :
  Rel w0 F I Z N (upd β d g (β D G)) { st with obj:=fun d' g'=>if d'=d/\g'=g then some cs' else if d'=D/\g'=G then none else st.obj d' g' } a w:=by
 generalize hs:({ st with obj:=fun d' g'=>if d'=d/\g'=g then some cs' else if d'=D/\g'=G then none else st.obj d' g' }:St)=s
 have etmp:s.tmp=st.tmp:=by rw[<- hs]
 have eup:s.up=st.up:=by rw[<- hs]
 have egen:s.gen=st.gen:=by rw[<- hs]
 have ehob:s.hob=st.hob:=by rw[<- hs]
 have ebm:s.bm=st.bm:=by rw[<- hs]
 have ebw:s.bw=st.bw:=by rw[<- hs]
 have eobj : ∀d' g',s.obj d' g'=if d'=d/\g'=g then some cs' else if d'=D/\g'=G then none else st.obj d' g':=fun d' g'=>by rw[<- hs]
 have hupd : ∀d' g',¬(d'=d/\g'=g)->upd β d g (β D G) d' g'=β d' g':=fun d' g' he=>if_neg he
 have hobj : ∀d' g',(s.obj d' g').isSome=true->(d'=d/\g'=g)\/((st.obj d' g').isSome=true /\ ¬(d'=d/\g'=g) /\ ¬(d'=D/\g'=G)):=by
  intro d' g' h1
  rw[eobj]at h1
  by_cases he:d'=d/\g'=g
  ·exact .inl he
  ·rw[if_neg he]at h1
   by_cases he2:d'=D/\g'=G
   ·rw[if_pos he2]at h1;cases h1
   ·rw[if_neg he2]at h1;exact .inr ⟨h1,he,he2⟩
 have hOs:(st.obj D G).isSome=true:=by rw[hO];rfl
 have hM : ∀b,Mut F (upd β d g (β D G)) s b->Mut F β st b:=by
  rintro b (hf|⟨d',g',h1,e⟩)
  ·exact .inl hf
  ·rcases hobj d' g' h1 with⟨rfl,rfl⟩|⟨h1',he,_⟩
   ·rw[upd_self]at e;exact .inr ⟨D,G,hOs,e⟩
   ·rw[hupd _ _ he]at e;exact .inr ⟨d',g',h1',e⟩
 have hrep : ∀ {v:Value} {x:SV},Rep w (Mut F β st) v x->Rep w (Mut F (upd β d g (β D G)) s) v x:=fun hr=>Rep.mono (w:=w) (fun _ _ _=>rfl) (fun b _ hm=>hM b hm) hr
 have hT : ∀ {v:Value} {x:TV},RepT β w (Mut F β st) v x->(∀d' g',x.id=some (d',g') -> ¬(d'=d/\g'=g) /\ ¬(d'=D/\g'=G))->RepT (upd β d g (β D G)) w (Mut F (upd β d g (β D G)) s) v x:=by
  intro v x hold hids
  cases x with
  |sv s=>exact hrep hold
  |nil=>exact hold
  |undef=>trivial
  |skip=>exact hold
  |emp=>exact hold
  |ptr d' g' off=>show _=_;rw[hupd d' g' (hids d' g' rfl).1];exact hold
  |pst d' g'=>show _=_;rw[hupd d' g' (hids d' g' rfl).1];exact hold
  |ref d' g' size off n=>
   obtain⟨cap,cs',ty',h1,h2,h3,h4⟩:=hold
   rw[<- hupd d' g' (hids d' g' rfl).1]at h1 h3
   exact⟨cap,cs',ty',h1,h2,h3,h4⟩
  |rfc d' g' size off n c=>
   obtain⟨cs',ty',h1,h2,h3,h4⟩:=hold
   rw[<- hupd d' g' (hids d' g' rfl).1]at h1 h3
   exact⟨cs',ty',h1,h2,h3,h4⟩
  |tp d' g' size off n r=>
   obtain⟨cap,cs',ty',vs,h1,h2,h3,h4,h5,h6⟩:=hold
   rw[<- hupd d' g' (hids d' g' rfl).1]at h1 h3
   exact⟨cap,cs',ty',vs,h1,h2,h3,h4,h5,fun i s hi=>hrep (h6 i s hi)⟩
 exact {
  defers:=h.defers
  size:=h.size
  tmps:=fun u=>by rw[etmp];exact hT (h.tmps u) (hno u)
  ids:=fun u d' g' hx=>by rw[egen];rw[etmp]at hx;exact h.ids u d' g' hx
  objs:=fun d' g' cells hc=>by
   rw[eobj]at hc
   by_cases he:d'=d/\g'=g
   ·rw[if_pos he]at hc
    obtain⟨rfl,rfl⟩:=he
    cases hc
    obtain⟨us,ty,hb,hall⟩:=h.objs D G cs' hO
    refine⟨us,ty,by rw[upd_self];exact hb,fun i s hs => ?_⟩
    obtain⟨h1,u,hu,hr⟩:=hall i s hs
    exact⟨h1,u,hu,hrep hr⟩
   ·rw[if_neg he]at hc
    by_cases he2:d'=D/\g'=G
    ·rw[if_pos he2]at hc;cases hc
    ·rw[if_neg he2]at hc
     obtain⟨us,ty,hb,hall⟩:=h.objs d' g' cells hc
     refine⟨us,ty,by rw[hupd _ _ he];exact hb,fun i s hs => ?_⟩
     obtain⟨h1,u,hu,hr⟩:=hall i s hs
     exact⟨h1,u,hu,hrep hr⟩
  own:=fun d' g' h1=>by
   rcases hobj d' g' h1 with⟨rfl,rfl⟩|⟨h1',he,_⟩
   ·rw[upd_self]
    exact⟨fun _=>(h.own D G hOs).1 (.inl hD),fun hn _=>absurd hd (by omega)⟩
   ·rw[hupd _ _ he];exact h.own d' g' h1'
  room:=h.room
  inj:=fun d1 g1 d2 g2 h1 h2 e=>by
   rcases hobj d1 g1 h1 with⟨rfl,rfl⟩|⟨h1',he1,hq1⟩<;>rcases hobj d2 g2 h2 with⟨rfl,rfl⟩|⟨h2',he2,hq2⟩
   ·exact⟨rfl,rfl⟩
   ·rw[upd_self,hupd _ _ he2]at e
    have:=h.inj D G d2 g2 hOs h2' e
    exact(hq2 ⟨this.1.symm,this.2.symm⟩).elim
   ·rw[upd_self,hupd _ _ he1]at e
    exact(hq1 (h.inj d1 g1 D G h1' hOs e)).elim
   ·rw[hupd _ _ he1,hupd _ _ he2]at e
    exact h.inj d1 g1 d2 g2 h1' h2' e
  gens:=fun d' g' h1=>by
   rw[egen]
   rcases hobj d' g' h1 with⟨rfl,rfl⟩|⟨h1',_⟩
   ·exact h.gens d' g' (by rw[ho];rfl)
   ·exact h.gens d' g' h1'
  ext:=h.ext
  old:=h.old
  imps:=fun b hb=>by rw[ebm];exact h.imps b hb
  pin:=fun d' g' hd' hd''=>(hupd d' g' (fun e=>by omega)).trans (h.pin d' g' hd' hd'')
  ups:=fun u=>by rw[eup];exact hT (h.ups u) (hnu u)
  uids:=fun u d' g' hx=>by rw[egen];rw[eup]at hx;exact h.uids u d' g' hx
  glob:=fun g v hg=>hrep (h.glob g v hg)
  hobs:=fun d' g' ts hts=>by
   rw[ehob]at hts
   obtain⟨h1,h2,cs1,ty1,hb1,hall⟩:=h.hobs d' g' ts hts
   have hH:N0<H0:=by decide
   have hne1 : ¬(d'=d/\g'=g):=fun e=>by omega
   have hne2 : ¬(d'=D/\g'=G):=fun e=>by omega
   refine⟨h1,by rw[eobj,if_neg hne1,if_neg hne2];exact h2,cs1,ty1,by rw[hupd _ _ hne1];exact hb1,fun i x hx => ?_⟩
   obtain⟨v,hv,ho,hr,hid⟩:=hall i x hx
   exact⟨v,hv,ho,hT hr (fun a1 a2 e=>hnh d' g' ts i x a1 a2 hts hx e),fun a1 a2 e=>by rw[egen];exact hid a1 a2 e⟩
  bms:=h.bms.to ebm ebw (fun d' g' h1=>(hobj d' g' h1).elim (fun e => .inr (.inr ⟨D,G,hOs,by rw[e.1,e.2,upd_self]⟩)) (fun e => .inl ⟨e.1,hupd _ _ e.2.1⟩)) (fun _ _ _=>rfl) }
structure InsLeaves (st:St) (d g n:Nat) (cs:List SV) (s:St) (t:TV):Prop where
 tmp : ∀u,s.tmp u=st.tmp u
 up : ∀u,s.up u=st.up u
 hob : ∀d' g',s.hob d' g'=st.hob d' g'
 bmw:s.bm=st.bm/\s.bw=st.bw
 here:(∃cs1,(∀d' g',s.obj d' g'=if d'=d/\g'=g then some cs1 else st.obj d' g')/\(∀ (i:Nat) (x:SV),cs[i]?=some x->cs1[i]?=some x)/\(∀d',s.gen d'=st.gen d')/\t = .ref d g 2 0 n) \/
  ∃D,D<N0/\(∀d' g',s.obj d' g'=if d'=D/\g'=st.gen D then some cs else st.obj d' g')/\(∀d',s.gen d'=if d'=D then st.gen D+1 else st.gen d')/\t = .ref D (st.gen D) 2 0 n
theorem st_eq {s s':St} (h1 : ∀u,s.tmp u=s'.tmp u) (h2 : ∀d g,s.obj d g=s'.obj d g) (h3 : ∀d,s.gen d=s'.gen d) (h4 : ∀d g,s.hob d g=s'.hob d g) (h5 : ∀u,s.up u=s'.up u) (h6:s.bm=s'.bm/\s.bw=s'.bw):s=s':=by
 obtain⟨a1,a2,a3,a4,a5,a6,a7⟩:=s
 obtain⟨b1,b2,b3,b4,b5,b6,b7⟩:=s'
 obtain⟨h6,h7⟩:=h6
 have h6:a6=b6:=h6
 have h7:a7=b7:=h7
 have e1:a1=b1:=funext h1
 have e2:a2=b2:=funext fun d=>funext fun g=>h2 d g
 have e3:a3=b3:=funext h3
 have e4:a4=b4:=funext fun d=>funext fun g=>h4 d g
 have e5:a5=b5:=funext h5
 subst e1 e2 e3 e4 e5 h6 h7
 rfl
theorem InsLeaves.ups {s:St} {vs:List TV} (h : ∀u,s.up u=(st.enter vs).up u):(∀u,s.leave.tmp u=st.tmp u) /\ ∀u,s.leave.up u=st.up u:=by
 constructor
 ·intro u
  show s.up (2*u)=_
  rw[h]
  show (if 2*u%2=0 then st.tmp (2*u/2) else st.up (2*u/2))=_
  rw[if_pos (by omega),show 2*u/2=u by omega]
 ·intro u
  show s.up (2*u+1)=_
  rw[h]
  show (if (2*u+1)%2=0 then st.tmp ((2*u+1)/2) else st.up ((2*u+1)/2))=_
  rw[if_neg (by omega),show (2*u+1)/2=u by omega]
theorem leaves_here {s:St} {vs:List TV} {d g n:Nat} {cs:List SV} (cs1:List SV) {rs:List ResultVar} (hr:retI P s rs=some (.ref d g 2 0 n)) (h1 : ∀u,s.up u=(st.enter vs).up u) (h2 : ∀d' g',s.hob d' g'=st.hob d' g')
  (h3 : ∀d' g',s.obj d' g'=if d'=d/\g'=g then some cs1 else st.obj d' g') (h4 : ∀d',s.gen d'=st.gen d') (hp : ∀ (i:Nat) (x:SV),cs[i]?=some x->cs1[i]?=some x) (hbw:s.bm=st.bm/\s.bw=st.bw:=by exact⟨rfl,rfl⟩):RZ P rs (InsLeaves st d g n cs) .ret s:=
 rz_ret hr ⟨(InsLeaves.ups h1).1,(InsLeaves.ups h1).2,h2,hbw,.inl ⟨cs1,h3,hp,h4,rfl⟩⟩ (frzR_ref hr)
theorem leaves_new {s:St} {vs:List TV} {d g n:Nat} {cs:List SV} (D:Nat) {rs:List ResultVar} (hr:retI P s rs=some (.ref D (st.gen D) 2 0 n)) (hD:D<N0) (h1 : ∀u,s.up u=(st.enter vs).up u) (h2 : ∀d' g',s.hob d' g'=st.hob d' g')
  (h3 : ∀d' g',s.obj d' g'=if d'=D/\g'=st.gen D then some cs else st.obj d' g') (h4 : ∀d',s.gen d'=if d'=D then st.gen D+1 else st.gen d') (hbw:s.bm=st.bm/\s.bw=st.bw:=by exact⟨rfl,rfl⟩):RZ P rs (InsLeaves st d g n cs) .ret s:=
 rz_ret hr ⟨(InsLeaves.ups h1).1,(InsLeaves.ups h1).2,h2,hbw,.inr ⟨D,hD,h3,h4,rfl⟩⟩ (frzR_ref hr)
theorem InsLeaves.to {s:St} {t:TV} {d g n:Nat} {cs cs0:List SV} (h:InsLeaves st d g n cs s t) {w1:World} {β1:Nat->Nat->Nat} {v:Value} (h0:Rel w0 F I Z N β st a w) (hd:d<N0) (ho:st.obj d g=some cs0)
  (hr:Rel w0 F I Z N β1 s a w1) (ht:RepT β1 w1 (Mut F β1 s) v t) : ∃β',Rel w0 F I Z N β' (insSt st d g cs) a w1/\RepT β' w1 (Mut F β' (insSt st d g cs)) v (.ref d g 2 0 n) /\ ∀d' g',(TV.ref d g 2 0 n).id=some (d',g')->g'<(insSt st d g cs).gen d':=by
 have hgen : ∀d' g',(TV.ref d g 2 0 n).id=some (d',g')->g'<(insSt st d g cs).gen d':=by
  intro d' g' e
  simp only[TV.id,Option.some.injEq,Prod.mk.injEq]at e
  obtain⟨rfl,rfl⟩:=e
  exact Nat.lt_succ_of_lt (h0.gens _ _ (by rw[ho];rfl))
 obtain⟨etmp,eup,ehob,ebmw,here⟩:=h
 rcases here with⟨cs1,eobj,hpre,egen,rfl⟩|⟨D,hD,eobj,egen,rfl⟩
 ·have h1:=((hr.kill d g).lessObj (cs:=cs1) (cs':=cs) hd (by show s.obj d g=_;rw[eobj,if_pos ⟨rfl,rfl⟩]) hpre).genUp (gen':=fun d'=>st.gen d'+1) (fun d'=>by show s.gen d'<=_;rw[egen];exact Nat.le_succ _)
  have e:({ (s.kill d g).set d g cs with gen:=fun d'=>st.gen d'+1 }:St)=insSt st d g cs:=by
   refine st_eq (fun u => ?_) (fun d' g' => ?_) (fun d'=>rfl) (fun d' g' => ?_) (fun u => ?_) ebmw
   ·show (s.tmp u).kill d g=(st.tmp u).kill d g
    rw[etmp]
   ·show (if d'=d/\g'=g then some cs else s.obj d' g')=(if d'=d/\g'=g then some cs else st.obj d' g')
    by_cases he:d'=d/\g'=g
    ·rw[if_pos he,if_pos he]
    ·rw[if_neg he,if_neg he,eobj,if_neg he]
   ·show (s.hob d' g').map _=(st.hob d' g').map _
    rw[ehob]
   ·show (s.up u).kill d g=(st.up u).kill d g
    rw[eup]
  rw[e]at h1
  exact⟨β1,h1,ht,hgen⟩
 ·have hos:(st.obj d g).isSome=true:=by rw[ho];rfl
  have hne : ¬(d=D/\g=st.gen D):=fun e=>by
   have:=h0.gens d g hos
   obtain⟨rfl,e2⟩:=e
   omega
  have hko:(s.kill d g).obj d g=some cs0:=by
   show s.obj d g=_
   rw[eobj,if_neg hne];exact ho
  have hkO:(s.kill d g).obj D (st.gen D)=some cs:=by
   show s.obj D (st.gen D)=_
   rw[eobj,if_pos ⟨rfl,rfl⟩]
  have hid : ∀ {x:TV} {d' g':Nat},(∀d' g',x.id=some (d',g')->g'<st.gen d')->(x.kill d g).id=some (d',g') -> ¬(d'=d/\g'=g) /\ ¬(d'=D/\g'=st.gen D):=by
   intro x d' g' hx hk
   obtain⟨h1,h2⟩:=kill_id hk
   refine⟨h2,fun e => ?_⟩
   have:=hx d' g' h1
   obtain⟨rfl,rfl⟩:=e
   exact absurd this (Nat.lt_irrefl _)
  have h1:=((hr.kill d g).rename hd hD hne hko hkO (fun t d' g' e=>hid (fun d1 g1 e1=>h0.ids t d1 g1 e1) (by rw[<- etmp];exact e)) (fun t d' g' e=>hid (fun d1 g1 e1=>h0.uids t d1 g1 e1) (by rw[<- eup];exact e))
   (fun d1 g1 ts i x d' g' e1 e2 e3=>by
    have e1:(s.hob d1 g1).map (fun ts=>ts.map fun t=>t.kill d g)=some ts:=e1
    rw[ehob]at e1
    obtain⟨ts0,hts0,rfl⟩:=map_some e1
    rw[List.getElem?_map]at e2
    obtain⟨x0,hx0,rfl⟩:=map_some e2
    obtain⟨_,_,cs9,ty9,_,hall⟩:=h0.hobs d1 g1 ts0 hts0
    obtain⟨_,_,_,_,hidx⟩:=hall i x0 hx0
    exact hid hidx e3)).genUp (gen':=fun d'=>st.gen d'+1) (fun d'=>by
     show s.gen d'<=_
     rw[egen]
     split
     ·rename_i e;rw[e];exact Nat.le_refl _
     ·exact Nat.le_succ _)
  have hnone:st.obj D (st.gen D)=none:=by
   cases e:st.obj D (st.gen D) with
   |none=>rfl
   |some x=>exact absurd (h0.gens D (st.gen D) (by rw[e];rfl)) (Nat.lt_irrefl _)
  have e:({ (s.kill d g) with obj:=fun d' g'=>if d'=d/\g'=g then some cs else if d'=D/\g'=st.gen D then none else (s.kill d g).obj d' g',gen:=fun d'=>st.gen d'+1 }:St)=insSt st d g cs:=by
   refine st_eq (fun u => ?_) (fun d' g' => ?_) (fun d'=>rfl) (fun d' g' => ?_) (fun u => ?_) ebmw
   ·show (s.tmp u).kill d g=(st.tmp u).kill d g
    rw[etmp]
   ·show (if d'=d/\g'=g then some cs else if d'=D/\g'=st.gen D then none else s.obj d' g')=(if d'=d/\g'=g then some cs else st.obj d' g')
    by_cases he:d'=d/\g'=g
    ·rw[if_pos he,if_pos he]
    ·rw[if_neg he,if_neg he]
     by_cases he2:d'=D/\g'=st.gen D
     ·rw[if_pos he2];obtain⟨rfl,rfl⟩:=he2;exact hnone.symm
     ·rw[if_neg he2,eobj,if_neg he2]
   ·show (s.hob d' g').map _=(st.hob d' g').map _
    rw[ehob]
   ·show (s.up u).kill d g=(st.up u).kill d g
    rw[eup]
  rw[e]at h1
  refine⟨_,h1,?_,hgen⟩
  obtain⟨cap,cs',ty',a1,a2,a3,a4⟩:=ht
  exact⟨cap,cs',ty',by rw[upd_self];exact a1,a2,by rw[upd_self];exact a3,a4⟩
theorem leaves_in {C:Cx} {G:List (Nat×Value)} (hZ:Z.gl=G) (hC:TabOk C.P G C.X) (hgood:Good C.P C.good) {f:FuncId} {d g n m:Nat} {vs:List TV} {cs cs0:List SV}
  (hd:d<N0) (ho:st.obj d g=some cs0)
  (hw : ∀c,n<=c -> ∃k s t,callN C.P C.X C.mu C.good k f [.st false st (.rfc d g 2 0 n c::vs)]=some (.st s t,[])/\InsLeaves st d g m cs s t)
  {vals:Array Value} (hrel:Rel w0 F I Z N β st a w) (hsz:vals.size=vs.length+1)
  (hv : ∀ (i:Nat) (v:TV),(TV.ref d g 2 0 n::vs)[i]?=some v->RepT β w (Mut F β st) (vals.getD i undef) v /\ ∀d g,v.id=some (d,g)->g<st.gen d) :
  Invk C.P f vals w fun e w' => ∃v,e = .returned v/\InRet w0 F I Z N st a w' false v (.st (insSt st d g cs) (.ref d g 2 0 m)):=by
 obtain⟨⟨cap,us,ty,h1,h2,h3,h4⟩,hid⟩:=hv 0 _ rfl
 obtain⟨k,s,t,hc,hl⟩:=hw cap h2
 refine((callN_all hC hgood C.mu k).2.1 f false st _ _ _ hc w0 F I Z N β a w vals hZ hrel (by simpa using hsz) (fun i v hi => ?_)).mono ?_
 ·cases i with
  |zero=>
   simp only[List.getElem?_cons_zero,Option.some.injEq]at hi
   subst hi
   exact⟨⟨us,ty,h1,h2,h3,h4⟩,fun d' g' e=>hid d' g' e⟩
  |succ i=>exact hv (i+1) v hi
 ·rintro e w' ⟨v,rfl,_,β1,hr,ht,_⟩
  obtain⟨β',a1,a2,a3⟩:=hl.to hrel hd ho hr ht
  exact⟨v,rfl,rfl,β',a1,a2,a3⟩
end
end Go.Ev
namespace Go.Proofs.YtdahehdomajbgaaGreatDoor
open Go.Ev
noncomputable abbrev muF0 (f:Nat):Bool:=Nat.beq f 103
noncomputable abbrev muF1 (f:Nat):Bool:=muF0 f
noncomputable abbrev muF2 (f:Nat):Bool:=muF1 f
noncomputable abbrev muF3 (f:Nat):Bool:=muF2 f
noncomputable abbrev muF4 (f:Nat):Bool:=muF3 f
noncomputable abbrev muF5 (f:Nat):Bool:=muF4 f
noncomputable abbrev muF6 (f:Nat):Bool:=Bool.rec (muF5 f) true (Nat.beq f 22)
noncomputable abbrev muF7 (f:Nat):Bool:=Bool.rec (Bool.rec (muF6 f) true (Nat.beq f (1000000+6))) true (Nat.beq f 6)
noncomputable abbrev muF8 (f:Nat):Bool:=Bool.rec (Bool.rec (muF7 f) true (Nat.beq f (1000000+7))) true (Nat.beq f 7)
noncomputable abbrev muF9 (f:Nat):Bool:=muF8 f
noncomputable abbrev muF10 (f:Nat):Bool:=Bool.rec (Bool.rec (muF9 f) true (Nat.beq f (1000000+18))) true (Nat.beq f 18)
noncomputable abbrev muF11 (f:Nat):Bool:=muF10 f
noncomputable abbrev muF12 (f:Nat):Bool:=muF11 f
noncomputable abbrev muF13 (f:Nat):Bool:=Bool.rec (Bool.rec (muF12 f) true (Nat.beq f (1000000+19))) true (Nat.beq f 19)
noncomputable abbrev muF14 (f:Nat):Bool:=Bool.rec (Bool.rec (muF13 f) true (Nat.beq f (1000000+12))) true (Nat.beq f 12)
noncomputable abbrev muF15 (f:Nat):Bool:=Bool.rec (Bool.rec (muF14 f) true (Nat.beq f (1000000+13))) true (Nat.beq f 13)
noncomputable abbrev muF16 (f:Nat):Bool:=muF15 f
noncomputable abbrev muF17 (f:Nat):Bool:=muF16 f
noncomputable abbrev muF18 (f:Nat):Bool:=muF17 f
noncomputable abbrev muF19 (f:Nat):Bool:=muF18 f
noncomputable abbrev muF20 (f:Nat):Bool:=muF19 f
noncomputable abbrev muF21 (f:Nat):Bool:=muF20 f
noncomputable abbrev muF22 (f:Nat):Bool:=muF21 f
noncomputable abbrev muF23 (f:Nat):Bool:=muF22 f
noncomputable abbrev muF24 (f:Nat):Bool:=muF23 f
noncomputable abbrev muF25 (f:Nat):Bool:=Bool.rec (Bool.rec (muF24 f) true (Nat.beq f (1000000+25))) true (Nat.beq f 25)
noncomputable abbrev muF26 (f:Nat):Bool:=muF25 f
noncomputable abbrev muF27 (f:Nat):Bool:=muF26 f
noncomputable abbrev muF28 (f:Nat):Bool:=muF27 f
noncomputable abbrev muF29 (f:Nat):Bool:=muF28 f
noncomputable abbrev muF30 (f:Nat):Bool:=muF29 f
noncomputable abbrev muF31 (f:Nat):Bool:=muF30 f
noncomputable abbrev muF32 (f:Nat):Bool:=muF31 f
noncomputable abbrev muF33 (f:Nat):Bool:=Bool.rec (Bool.rec (Bool.rec (Bool.rec (Bool.rec (Bool.rec (Bool.rec (Bool.rec (Bool.rec (Bool.rec (Bool.rec (Bool.rec (muF32 f) true (Nat.beq f (4000000+14))) true (Nat.beq f (4000000+27))) true (Nat.beq f (4000000+42))) true (Nat.beq f (4000000+54))) true (Nat.beq f (4000000+78))) true (Nat.beq f (4000000+98))) true (Nat.beq f (4000000+77))) true (Nat.beq f (4000000+4))) true (Nat.beq f (1000000+8))) true (Nat.beq f 8)) true (Nat.beq f (5000000+14))) true (Nat.beq f (2000000+14))
noncomputable abbrev muF (f:Nat):Bool:=muF33 f
theorem muF_at33:muF 8=true:=by kernel_rfl
theorem muF_in33:muF (1000000+8)=true:=by kernel_rfl
attribute [go_sem] muF_at33 muF_in33
theorem muF_at0:muF 103=true:=by kernel_rfl
attribute [go_sem] muF_at0
theorem muF_at6:muF 22=true:=by kernel_rfl
attribute [go_sem] muF_at6
theorem muF_at7:muF 6=true:=by kernel_rfl
theorem muF_in7:muF (1000000+6)=true:=by kernel_rfl
attribute [go_sem] muF_at7 muF_in7
theorem muF_at8:muF 7=true:=by kernel_rfl
theorem muF_in8:muF (1000000+7)=true:=by kernel_rfl
attribute [go_sem] muF_at8 muF_in8
theorem muF_at10:muF 18=true:=by kernel_rfl
theorem muF_in10:muF (1000000+18)=true:=by kernel_rfl
attribute [go_sem] muF_at10 muF_in10
theorem muF_at13:muF 19=true:=by kernel_rfl
theorem muF_in13:muF (1000000+19)=true:=by kernel_rfl
attribute [go_sem] muF_at13 muF_in13
theorem muF_at14:muF 12=true:=by kernel_rfl
theorem muF_in14:muF (1000000+12)=true:=by kernel_rfl
attribute [go_sem] muF_at14 muF_in14
theorem muF_at15:muF 13=true:=by kernel_rfl
theorem muF_in15:muF (1000000+13)=true:=by kernel_rfl
attribute [go_sem] muF_at15 muF_in15
theorem muF_at25:muF 25=true:=by kernel_rfl
theorem muF_in25:muF (1000000+25)=true:=by kernel_rfl
attribute [go_sem] muF_at25 muF_in25
def GMet (_:List (Nat×Value)):Prop:=True
theorem gmet:GMet []:=trivial
noncomputable def xS:Callf:=fun g args=>
 if Nat.beq g 47 then xIndex args else
 if Nat.beq g 52 then xCmp args else
 if Nat.beq g 118 then xCount args else
 if Nat.beq g 21 then xTrim args else
 if Nat.beq g 91 then xTrimLeft args else
 if Nat.beq g 66 then xJoin args else
 if Nat.beq g 92 then xAtoi args else
 cloneX 77 g args
theorem xS_none (f:FuncId) (k:Bool) (st:St) (vs:List TV):xS f [.st k st vs]=none:=by
 have no : ∀ {c:Prop} [Decidable c] {a b:Option (Ret×List (Option (List SV)))},a=none->b=none->(if c then a else b)=none:=fun h1 h2=>by split<;>assumption
 unfold xS cloneX
 repeat (refine no rfl ?_)
 rfl
noncomputable def CB:Cx:={ P:=Tryz.prog,X:=xS,mu:=muF,good:=good }
theorem CB_P:CB.P=Tryz.prog:=_root_.id rfl
theorem CB_mu (f:Nat):CB.mu f=muF f:=_root_.id rfl
attribute [go_sem] CB_P CB_mu
noncomputable def xT:Callf:=fun g args=>
 if Nat.beq g 83 then xGenSplit args else
 xS g args
noncomputable def CZ:Cx:={ P:=Tryz.prog,X:=xT,mu:=muF,good:=good }
theorem CZ_P:CZ.P=Tryz.prog:=_root_.id rfl
theorem CZ_mu (f:Nat):CZ.mu f=muF f:=_root_.id rfl
noncomputable def XL:Callf:=fun g args=>if Nat.beq g 101 then (match args with
  | [.sv s,.sv (.int .u64 (.ofNat k)),.sv (.int .i64 (.ofNat n))]=>match decV s with
   |some xs=>if k<32/\xs.length<=n/\n<=xs.length+1 then some (.row ((limN n (wth xs*2^k)).map limb) 1 0 n,[none,none,none]) else none
   |none=>none
  |_=>none) else
 if Nat.beq g 64 then xSplit args else
 if Nat.beq g 13 then xIns args else
 CZ.X g args
noncomputable def CX:Cx:={ CZ with X:=XL }
theorem CX_P:CX.P=Tryz.prog:=_root_.id rfl
theorem CX_mu (f:Nat):CX.mu f=muF f:=_root_.id rfl
attribute [go_sem] CZ_P CZ_mu CX_P CX_mu Nat.reduceBEq
end Go.Proofs.YtdahehdomajbgaaGreatDoor
namespace Go.Proofs
open Go.Shelf
def Tryz.lays156_ren:Go.Shelf.Ren:=⟨fun|156=>66|165=>85|166=>86|169=>87|240=>108|241=>109|276=>120|277=>121|n=>n,fun|31=>91|9=>9|3=>3|4=>4|0=>0|20=>20|72=>110|76=>114|70=>107|37=>108|75=>113|127=>135|164=>138|5=>5|80=>116|n=>n,fun|n=>n⟩
theorem Tryz.lays156:Go.Proofs.Lays.n156 Tryz.prog Tryz.lays156_ren:={
 mixed:=by kernel_rfl
 f156:=Tryz.func66.trans (congrArg some (by kernel_rfl))
 f165:=Tryz.func85.trans (congrArg some (by kernel_rfl))
 f166:=Tryz.func86.trans (congrArg some (by kernel_rfl))
 f169:=Tryz.func87.trans (congrArg some (by kernel_rfl))
 f240:=Tryz.func108.trans (congrArg some (by kernel_rfl))
 f241:=Tryz.func109.trans (congrArg some (by kernel_rfl))
 f276:=Tryz.func120.trans (congrArg some (by kernel_rfl))
 f277:=Tryz.func121.trans (congrArg some (by kernel_rfl))
 t0:=Tryz.underlying0
 a0:=Tryz.isAgg0
 z0:=Tryz.sizeOf0
 v0:=Tryz.zeroValue0
 t3:=Tryz.underlying3
 a3:=Tryz.isAgg3
 z3:=Tryz.sizeOf3
 v3:=Tryz.zeroValue3
 t4:=Tryz.underlying4
 a4:=Tryz.isAgg4
 z4:=Tryz.sizeOf4
 v4:=Tryz.zeroValue4
 t9:=Tryz.underlying9
 a9:=Tryz.isAgg9
 z9:=Tryz.sizeOf9
 v9:=Tryz.zeroValue9
 t20:=Tryz.underlying20
 a20:=Tryz.isAgg20
 z20:=Tryz.sizeOf20
 v20:=Tryz.zeroValue20
 t31:=Tryz.underlying91
 a31:=Tryz.isAgg91
 z31:=Tryz.sizeOf91
 v31:=Tryz.zeroValue91
 t37:=Tryz.underlying108
 a37:=Tryz.isAgg108
 z37:=Tryz.sizeOf108
 v37:=Tryz.zeroValue108
 t70:=Tryz.underlying107
 a70:=Tryz.isAgg107
 z70:=Tryz.sizeOf107
 v70:=Tryz.zeroValue107
 t72:=Tryz.underlying110
 a72:=Tryz.isAgg110
 z72:=Tryz.sizeOf110
 v72:=Tryz.zeroValue110
 t75:=Tryz.underlying113
 a75:=Tryz.isAgg113
 z75:=Tryz.sizeOf113
 v75:=Tryz.zeroValue113
 t76:=Tryz.underlying114
 a76:=Tryz.isAgg114
 z76:=Tryz.sizeOf114
 v76:=Tryz.zeroValue114
 t127:=Tryz.underlying135
 a127:=Tryz.isAgg135
 z127:=Tryz.sizeOf135
 v127:=Tryz.zeroValue135
 t164:=Tryz.underlying138
 a164:=Tryz.isAgg138
 z164:=Tryz.sizeOf138
 v164:=Tryz.zeroValue138 }
theorem Tryz.Builder_Extra_156:Builder.Extra Tryz.prog Tryz.lays156_ren:={
 sizeBuilder:=by kernel_rfl
 liesBuilder:=by kernel_rfl
 t5:=Tryz.underlying5
 a5:=Tryz.isAgg5
 z5:=Tryz.sizeOf5
 v5:=Tryz.zeroValue5
 infoByte:=by kernel_rfl
 cellsByte:=by kernel_rfl
 sizeByte:=by kernel_rfl
 neB5:=by decide }
def Tryz.lays160_ren:Go.Shelf.Ren:=⟨fun|160=>21|232=>34|231=>33|227=>35|234=>37|233=>36|236=>39|235=>38|228=>48|271=>51|151=>50|197=>49|120=>76|152=>75|260=>74|137=>20|119=>95|224=>96|225=>97|217=>32|266=>47|n=>n,fun|9=>9|4=>4|3=>3|5=>5|117=>68|116=>67|0=>0|124=>71|21=>21|105=>79|46=>64|119=>121|139=>124|138=>123|n=>n,fun|3=>1|4=>2|n=>n⟩
theorem Tryz.lays160:Go.Proofs.Lays.n160 Tryz.prog Tryz.lays160_ren:={
 mixed:=by kernel_rfl
 f119:=Tryz.func95.trans (congrArg some (by kernel_rfl))
 f120:=Tryz.func76.trans (congrArg some (by kernel_rfl))
 f137:=Tryz.func20.trans (congrArg some (by kernel_rfl))
 f151:=Tryz.func50.trans (congrArg some (by kernel_rfl))
 f152:=Tryz.func75.trans (congrArg some (by kernel_rfl))
 f160:=Tryz.func21.trans (congrArg some (by kernel_rfl))
 f197:=Tryz.func49.trans (congrArg some (by kernel_rfl))
 f217:=Tryz.func32.trans (congrArg some (by kernel_rfl))
 f224:=Tryz.func96.trans (congrArg some (by kernel_rfl))
 f225:=Tryz.func97.trans (congrArg some (by kernel_rfl))
 f227:=Tryz.func35.trans (congrArg some (by kernel_rfl))
 f228:=Tryz.func48.trans (congrArg some (by kernel_rfl))
 f231:=Tryz.func33.trans (congrArg some (by kernel_rfl))
 f232:=Tryz.func34.trans (congrArg some (by kernel_rfl))
 f233:=Tryz.func36.trans (congrArg some (by kernel_rfl))
 f234:=Tryz.func37.trans (congrArg some (by kernel_rfl))
 f235:=Tryz.func38.trans (congrArg some (by kernel_rfl))
 f236:=Tryz.func39.trans (congrArg some (by kernel_rfl))
 f260:=Tryz.func74.trans (congrArg some (by kernel_rfl))
 f266:=Tryz.func47.trans (congrArg some (by kernel_rfl))
 f271:=Tryz.func51.trans (congrArg some (by kernel_rfl))
 t0:=Tryz.underlying0
 a0:=Tryz.isAgg0
 z0:=Tryz.sizeOf0
 v0:=Tryz.zeroValue0
 t3:=Tryz.underlying3
 a3:=Tryz.isAgg3
 z3:=Tryz.sizeOf3
 v3:=Tryz.zeroValue3
 t4:=Tryz.underlying4
 a4:=Tryz.isAgg4
 z4:=Tryz.sizeOf4
 v4:=Tryz.zeroValue4
 t5:=Tryz.underlying5
 a5:=Tryz.isAgg5
 z5:=Tryz.sizeOf5
 v5:=Tryz.zeroValue5
 t9:=Tryz.underlying9
 a9:=Tryz.isAgg9
 z9:=Tryz.sizeOf9
 v9:=Tryz.zeroValue9
 t21:=Tryz.underlying21
 a21:=Tryz.isAgg21
 z21:=Tryz.sizeOf21
 v21:=Tryz.zeroValue21
 t46:=Tryz.underlying64
 a46:=Tryz.isAgg64
 z46:=Tryz.sizeOf64
 v46:=Tryz.zeroValue64
 t105:=Tryz.underlying79
 a105:=Tryz.isAgg79
 z105:=Tryz.sizeOf79
 v105:=Tryz.zeroValue79
 t116:=Tryz.underlying67
 a116:=Tryz.isAgg67
 z116:=Tryz.sizeOf67
 t117:=Tryz.underlying68
 a117:=Tryz.isAgg68
 z117:=Tryz.sizeOf68
 v117:=Tryz.zeroValue68
 t119:=Tryz.underlying121
 a119:=Tryz.isAgg121
 z119:=Tryz.sizeOf121
 t124:=Tryz.underlying71
 a124:=Tryz.isAgg71
 z124:=Tryz.sizeOf71
 v124:=Tryz.zeroValue71
 t138:=Tryz.underlying123
 a138:=Tryz.isAgg123
 z138:=Tryz.sizeOf123
 v138:=Tryz.zeroValue123
 t139:=Tryz.underlying124
 a139:=Tryz.isAgg124
 z139:=Tryz.sizeOf124
 v139:=Tryz.zeroValue124
 g3:=by kernel_rfl
 g4:=by kernel_rfl }
def Tryz.lays161_ren:Go.Shelf.Ren:=⟨fun|161=>91|231=>33|227=>35|233=>36|235=>38|228=>48|197=>49|151=>50|260=>74|152=>75|137=>20|119=>95|224=>96|225=>97|217=>32|266=>47|n=>n,fun|9=>9|4=>4|3=>3|5=>5|117=>68|116=>67|0=>0|124=>71|105=>79|21=>21|119=>121|46=>64|139=>124|138=>123|n=>n,fun|3=>1|4=>2|n=>n⟩
theorem Tryz.lays161:Go.Proofs.Lays.n161 Tryz.prog Tryz.lays161_ren:={
 mixed:=by kernel_rfl
 f119:=Tryz.func95.trans (congrArg some (by kernel_rfl))
 f137:=Tryz.func20.trans (congrArg some (by kernel_rfl))
 f151:=Tryz.func50.trans (congrArg some (by kernel_rfl))
 f152:=Tryz.func75.trans (congrArg some (by kernel_rfl))
 f161:=Tryz.func91.trans (congrArg some (by kernel_rfl))
 f197:=Tryz.func49.trans (congrArg some (by kernel_rfl))
 f217:=Tryz.func32.trans (congrArg some (by kernel_rfl))
 f224:=Tryz.func96.trans (congrArg some (by kernel_rfl))
 f225:=Tryz.func97.trans (congrArg some (by kernel_rfl))
 f227:=Tryz.func35.trans (congrArg some (by kernel_rfl))
 f228:=Tryz.func48.trans (congrArg some (by kernel_rfl))
 f231:=Tryz.func33.trans (congrArg some (by kernel_rfl))
 f233:=Tryz.func36.trans (congrArg some (by kernel_rfl))
 f235:=Tryz.func38.trans (congrArg some (by kernel_rfl))
 f260:=Tryz.func74.trans (congrArg some (by kernel_rfl))
 f266:=Tryz.func47.trans (congrArg some (by kernel_rfl))
 t0:=Tryz.underlying0
 a0:=Tryz.isAgg0
 z0:=Tryz.sizeOf0
 v0:=Tryz.zeroValue0
 t3:=Tryz.underlying3
 a3:=Tryz.isAgg3
 z3:=Tryz.sizeOf3
 v3:=Tryz.zeroValue3
 t4:=Tryz.underlying4
 a4:=Tryz.isAgg4
 z4:=Tryz.sizeOf4
 v4:=Tryz.zeroValue4
 t5:=Tryz.underlying5
 a5:=Tryz.isAgg5
 z5:=Tryz.sizeOf5
 v5:=Tryz.zeroValue5
 t9:=Tryz.underlying9
 a9:=Tryz.isAgg9
 z9:=Tryz.sizeOf9
 v9:=Tryz.zeroValue9
 t21:=Tryz.underlying21
 a21:=Tryz.isAgg21
 z21:=Tryz.sizeOf21
 v21:=Tryz.zeroValue21
 t46:=Tryz.underlying64
 a46:=Tryz.isAgg64
 z46:=Tryz.sizeOf64
 v46:=Tryz.zeroValue64
 t105:=Tryz.underlying79
 a105:=Tryz.isAgg79
 z105:=Tryz.sizeOf79
 v105:=Tryz.zeroValue79
 t116:=Tryz.underlying67
 a116:=Tryz.isAgg67
 z116:=Tryz.sizeOf67
 t117:=Tryz.underlying68
 a117:=Tryz.isAgg68
 z117:=Tryz.sizeOf68
 v117:=Tryz.zeroValue68
 t119:=Tryz.underlying121
 a119:=Tryz.isAgg121
 z119:=Tryz.sizeOf121
 t124:=Tryz.underlying71
 a124:=Tryz.isAgg71
 z124:=Tryz.sizeOf71
 v124:=Tryz.zeroValue71
 t138:=Tryz.underlying123
 a138:=Tryz.isAgg123
 z138:=Tryz.sizeOf123
 v138:=Tryz.zeroValue123
 t139:=Tryz.underlying124
 a139:=Tryz.isAgg124
 z139:=Tryz.sizeOf124
 v139:=Tryz.zeroValue124
 g3:=by kernel_rfl
 g4:=by kernel_rfl }
def Tryz.lays172_ren:Go.Shelf.Ren:=⟨fun|172=>92|244=>112|245=>113|247=>123|279=>124|280=>125|281=>126|282=>127|287=>129|316=>130|171=>132|205=>131|321=>133|322=>134|243=>135|246=>136|283=>137|284=>138|285=>139|286=>140|129=>142|317=>141|318=>143|319=>144|320=>145|337=>146|338=>147|n=>n,fun|9=>9|3=>3|75=>113|76=>114|4=>4|5=>5|167=>141|37=>108|0=>0|85=>142|2=>2|168=>144|53=>49|175=>148|46=>64|210=>151|127=>135|145=>157|143=>155|21=>21|171=>159|173=>162|212=>165|51=>31|20=>20|213=>166|232=>169|233=>170|80=>116|n=>n,fun|15=>4|16=>5|17=>6|18=>7|19=>8|n=>n⟩
theorem Tryz.lays172:Go.Proofs.Lays.n172 Tryz.prog Tryz.lays172_ren:={
 mixed:=by kernel_rfl
 f129:=Tryz.func142.trans (congrArg some (by kernel_rfl))
 f171:=Tryz.func132.trans (congrArg some (by kernel_rfl))
 f172:=Tryz.func92.trans (congrArg some (by kernel_rfl))
 f205:=Tryz.func131.trans (congrArg some (by kernel_rfl))
 f243:=Tryz.func135.trans (congrArg some (by kernel_rfl))
 f244:=Tryz.func112.trans (congrArg some (by kernel_rfl))
 f245:=Tryz.func113.trans (congrArg some (by kernel_rfl))
 f246:=Tryz.func136.trans (congrArg some (by kernel_rfl))
 f247:=Tryz.func123.trans (congrArg some (by kernel_rfl))
 f279:=Tryz.func124.trans (congrArg some (by kernel_rfl))
 f280:=Tryz.func125.trans (congrArg some (by kernel_rfl))
 f281:=Tryz.func126.trans (congrArg some (by kernel_rfl))
 f282:=Tryz.func127.trans (congrArg some (by kernel_rfl))
 f283:=Tryz.func137.trans (congrArg some (by kernel_rfl))
 f284:=Tryz.func138.trans (congrArg some (by kernel_rfl))
 f285:=Tryz.func139.trans (congrArg some (by kernel_rfl))
 f286:=Tryz.func140.trans (congrArg some (by kernel_rfl))
 f287:=Tryz.func129.trans (congrArg some (by kernel_rfl))
 f316:=Tryz.func130.trans (congrArg some (by kernel_rfl))
 f317:=Tryz.func141.trans (congrArg some (by kernel_rfl))
 f318:=Tryz.func143.trans (congrArg some (by kernel_rfl))
 f319:=Tryz.func144.trans (congrArg some (by kernel_rfl))
 f320:=Tryz.func145.trans (congrArg some (by kernel_rfl))
 f321:=Tryz.func133.trans (congrArg some (by kernel_rfl))
 f322:=Tryz.func134.trans (congrArg some (by kernel_rfl))
 f337:=Tryz.func146.trans (congrArg some (by kernel_rfl))
 f338:=Tryz.func147.trans (congrArg some (by kernel_rfl))
 t0:=Tryz.underlying0
 a0:=Tryz.isAgg0
 z0:=Tryz.sizeOf0
 v0:=Tryz.zeroValue0
 t2:=Tryz.underlying2
 a2:=Tryz.isAgg2
 z2:=Tryz.sizeOf2
 v2:=Tryz.zeroValue2
 t3:=Tryz.underlying3
 a3:=Tryz.isAgg3
 z3:=Tryz.sizeOf3
 v3:=Tryz.zeroValue3
 t4:=Tryz.underlying4
 a4:=Tryz.isAgg4
 z4:=Tryz.sizeOf4
 v4:=Tryz.zeroValue4
 t5:=Tryz.underlying5
 a5:=Tryz.isAgg5
 z5:=Tryz.sizeOf5
 v5:=Tryz.zeroValue5
 t9:=Tryz.underlying9
 a9:=Tryz.isAgg9
 z9:=Tryz.sizeOf9
 v9:=Tryz.zeroValue9
 t20:=Tryz.underlying20
 a20:=Tryz.isAgg20
 z20:=Tryz.sizeOf20
 v20:=Tryz.zeroValue20
 t21:=Tryz.underlying21
 a21:=Tryz.isAgg21
 z21:=Tryz.sizeOf21
 v21:=Tryz.zeroValue21
 t37:=Tryz.underlying108
 a37:=Tryz.isAgg108
 z37:=Tryz.sizeOf108
 v37:=Tryz.zeroValue108
 t46:=Tryz.underlying64
 a46:=Tryz.isAgg64
 z46:=Tryz.sizeOf64
 v46:=Tryz.zeroValue64
 t51:=Tryz.underlying31
 a51:=Tryz.isAgg31
 z51:=Tryz.sizeOf31
 v51:=Tryz.zeroValue31
 t53:=Tryz.underlying49
 a53:=Tryz.isAgg49
 z53:=Tryz.sizeOf49
 v53:=Tryz.zeroValue49
 t75:=Tryz.underlying113
 a75:=Tryz.isAgg113
 z75:=Tryz.sizeOf113
 v75:=Tryz.zeroValue113
 t76:=Tryz.underlying114
 a76:=Tryz.isAgg114
 z76:=Tryz.sizeOf114
 v76:=Tryz.zeroValue114
 t85:=Tryz.underlying142
 a85:=Tryz.isAgg142
 z85:=Tryz.sizeOf142
 v85:=Tryz.zeroValue142
 t127:=Tryz.underlying135
 a127:=Tryz.isAgg135
 z127:=Tryz.sizeOf135
 v127:=Tryz.zeroValue135
 t143:=Tryz.underlying155
 a143:=Tryz.isAgg155
 z143:=Tryz.sizeOf155
 v143:=Tryz.zeroValue155
 t145:=Tryz.underlying157
 a145:=Tryz.isAgg157
 z145:=Tryz.sizeOf157
 v145:=Tryz.zeroValue157
 t167:=Tryz.underlying141
 a167:=Tryz.isAgg141
 z167:=Tryz.sizeOf141
 v167:=Tryz.zeroValue141
 t168:=Tryz.underlying144
 a168:=Tryz.isAgg144
 z168:=Tryz.sizeOf144
 v168:=Tryz.zeroValue144
 t171:=Tryz.underlying159
 a171:=Tryz.isAgg159
 z171:=Tryz.sizeOf159
 v171:=Tryz.zeroValue159
 t173:=Tryz.underlying162
 a173:=Tryz.isAgg162
 z173:=Tryz.sizeOf162
 v173:=Tryz.zeroValue162
 t175:=Tryz.underlying148
 a175:=Tryz.isAgg148
 z175:=Tryz.sizeOf148
 v175:=Tryz.zeroValue148
 t210:=Tryz.underlying151
 a210:=Tryz.isAgg151
 z210:=Tryz.sizeOf151
 v210:=Tryz.zeroValue151
 t212:=Tryz.underlying165
 a212:=Tryz.isAgg165
 z212:=Tryz.sizeOf165
 v212:=Tryz.zeroValue165
 t213:=Tryz.underlying166
 a213:=Tryz.isAgg166
 z213:=Tryz.sizeOf166
 t232:=Tryz.underlying169
 a232:=Tryz.isAgg169
 z232:=Tryz.sizeOf169
 v232:=Tryz.zeroValue169
 t233:=Tryz.underlying170
 a233:=Tryz.isAgg170
 z233:=Tryz.sizeOf170
 v233:=Tryz.zeroValue170
 g15:=by kernel_rfl
 g16:=by kernel_rfl
 g17:=by kernel_rfl
 g18:=by kernel_rfl
 g19:=by kernel_rfl }
end Go.Proofs
namespace Go.Proofs.YtdahehdomajbgaaGreatDoor
open Go.Ev Go.RowKit
noncomputable def C0:Cx:={ P:=Tryz.prog,X:=fun _ _=>none,mu:=fun _=>false,good:=fun _=>false }
theorem C0_P:C0.P=Tryz.prog:=rfl
theorem clone_ok0 {G:List (Nat×Value)}:CallOk Tryz.prog G (cloneX 77):=by
 refine cloneX_ok (f:=77) (fn:=Tryz.f77) (e:=(31,1,4)) (by kernel_rfl) (by kernel_rfl) rfl (Nat.lt_of_lt_of_le (Nat.lt_succ_self 4) (Nat.le_of_ble_eq_true (by kernel_rfl))) (by kernel_rfl) fun n cs => ?_
 refine⟨20,_,rfl,rfl,⟨20,_,rfl,rfl⟩,fun h1 h2 h3 => ?_⟩
 have hC : ∀m,CallAll Tryz.prog G (callN C0.P C0.X C0.mu C0.good m):=fun m=>callN_all (tabOk_of (fun g args r exps h=>by cases h) (fun _ _ _ _=>rfl)) (fun f fn h=>by cases h) _ m
 suffices h : ∀ {c:Code} {st:St},WP C0 c st (fun e s=>e = .ret/\retOf Tryz.prog s Tryz.f77.results.toList=some (.sv (.sl n cs))) -> ∃call mu k st',CallAll Tryz.prog G call/\exec Tryz.prog call mu k c st=some (.ret,st')/\retOf Tryz.prog st' Tryz.f77.results.toList=some (.sv (.sl n cs)) by
  refine h ?_
  have hlen:(List.length cs:Nat)=n*1:=by omega
  have h2':cs.all SV.one=true:=h2
  have h5:(5<N0)=True:=by simp[N0]
  have hr:Tryz.f77.results.toList=[.tmp 2]:=by kernel_rfl
  rcases Nat.eq_zero_or_pos n with rfl|hn
  ·have:cs=[]:=List.eq_nil_of_length_eq_zero h1
   subst this
   simp only[go_sem,C0_P,h1,h2,h2',h3,h5,hr,elemsC,Nat.zero_le,Nat.mul_one,Nat.zero_mul,Nat.zero_add,retOf,resTV,outSV]
  ·have hn0 : ¬n=0:=by omega
   simp only[go_sem,C0_P,h1,h2,h2',h3,h5,hn0,hr,elemsC,Nat.zero_le,Nat.mul_one,Nat.zero_mul,Nat.zero_add,retOf,resTV,outSV]
   rw[List.take_of_length_le (by omega)]
 rintro c st ⟨m,e,s,he,rfl,hr⟩
 exact⟨_,_,m,s,hC m,he,hr⟩
theorem xS_ok {G:List (Nat×Value)} (hG:GMet G):CallOk Tryz.prog G xS:=by
 intro g args r exps h
 unfold xS at h
 split at h
 ·rename_i hg
  rw[show g=47 from Nat.eq_of_beq_eq_true hg]
  refine fun w F B vals _=>index_at (fn:=Tryz.f47) (by kernel_rfl) (by kernel_rfl) (by kernel_rfl) (by kernel_rfl) (by kernel_rfl) h w F B vals
 split at h
 ·rename_i hg
  rw[show g=52 from Nat.eq_of_beq_eq_true hg]
  refine fun w F B vals _=>cmp_at (fn:=Tryz.f52) (by kernel_rfl) (by kernel_rfl) (by kernel_rfl) (by kernel_rfl) (by kernel_rfl) h w F B vals
 split at h
 ·rename_i hg
  rw[show g=118 from Nat.eq_of_beq_eq_true hg]
  refine fun w F B vals _=>count_at (fn:=Tryz.f118) (by kernel_rfl) (by kernel_rfl) (by kernel_rfl) (by kernel_rfl) (by kernel_rfl) h w F B vals
 split at h
 ·rename_i hg
  rw[show g=21 from Nat.eq_of_beq_eq_true hg]
  refine fun w F B vals _=>trim_at (enters_of (fn:=Tryz.f21) (c:=(Tryz.f21).body.get!) (by kernel_rfl) (by kernel_rfl) (by kernel_rfl)) (fun s c w h1 h2 h3=>Any.strings_Trim_laid Tryz.lays160 (by kernel_rfl) s c w h1 h2 h3) h w F B vals
 split at h
 ·rename_i hg
  rw[show g=91 from Nat.eq_of_beq_eq_true hg]
  refine fun w F B vals _=>trimLeft_at (enters_of (fn:=Tryz.f91) (c:=(Tryz.f91).body.get!) (by kernel_rfl) (by kernel_rfl) (by kernel_rfl)) (fun s c w h2 h3=>Any.strings_TrimLeft_laid Tryz.lays161 (by kernel_rfl) s c w h2 h3) h w F B vals
 split at h
 ·rename_i hg
  rw[show g=66 from Nat.eq_of_beq_eq_true hg]
  refine fun w F B vals _=>join_at (enters_of (fn:=Tryz.f66) (c:=(Tryz.f66).body.get!) (by kernel_rfl) (by kernel_rfl) (by kernel_rfl)) (fun a c sep w=>Any.strings_Join_none Tryz.lays156 Tryz.Builder_Extra_156 a c sep w) (fun bk o c xs sep w h1 h2 h3 h4 h5=>Any.strings_Join Tryz.lays156 Tryz.Builder_Extra_156 bk o c xs sep w h1 h2 h3 h4 h5) h w F B vals
 split at h
 ·rename_i hg
  rw[show g=92 from Nat.eq_of_beq_eq_true hg]
  refine fun w F B vals _=>atoi_at (enters_of (fn:=Tryz.f92) (c:=(Tryz.f92).body.get!) (by kernel_rfl) (by kernel_rfl) (by kernel_rfl)) (fun s v w h1 h2=>(Any.strconv_Atoi Tryz.lays172 s v h1 h2 w).mono (by rintro e w' ⟨h3,t,rfl⟩;exact⟨h3,⟨rfl,rfl,rfl,by rw[Lib.bytesWorld_size];omega,fun k hk=>Lib.bytesWorld_at_old w _ t k hk⟩⟩)) h w F B vals
 exact clone_ok0 g args r exps h
end Go.Proofs.YtdahehdomajbgaaGreatDoor
namespace Go.Proofs.YtdahehdomajbgaaGreatDoor
open Go.Ev
theorem nat_Is (xs:List Nat) (hl:xs.length<=1099511627776):Go.Ev.Fn CX 98 [natV xs] (.bool (isT xs)):=by
 refine fni Tryz.f98 ?_;unfold Tryz.f98;simp only[Option.get!_some]
 by_cases h0:xs.length=0
 ·have e:isT xs=true:=by simp[isT,h0]
  rw[e]
  repeat (first|simp only[go_sem]|simp (disch:=first|exact oa|fail) only[AX]|refine wki ?_|refine wqn ?_|refine vpx [] ?_)
 ·have e:isT xs=(xs.getD (xs.length-1) 0 != 0):=by simp[isT,h0]
  rw[e]
  repeat (first|simp only[go_sem]|simp (disch:=first|exact oa|fail) only[AX]|refine wki ?_|refine wqn ?_|refine vpx [] ?_)
  rw[bne_nat]
theorem lim_dropLast {xs:List Nat} (h:isT xs=false):xs.length≠0/\lim (wth (xs.take (xs.length-1)))=lim (wth xs):=by
 unfold isT at h
 simp only[Bool.or_eq_false_iff,beq_eq_false_iff_ne,bne_eq_false_iff_eq]at h
 refine⟨h.1,?_⟩
 rcases xs.eq_nil_or_concat with rfl|⟨ys,z,rfl⟩
 ·rfl
 ·rw[List.concat_eq_append]at h ⊢
  have e:z=0:=by simpa using h.2
  subst e
  simp[lim_snoc0]
theorem nat_trim (xs:List Nat) (hx:okL xs) (hl:xs.length<=1099511627776):Go.Ev.Fn CX 78 [natV xs] (natV (lim (wth xs))):=by
 refine fni Tryz.f78 ?_;unfold Tryz.f78;simp only[Option.get!_some]
 simp only[go_sem]
 refine vp_loop_inv (fun s => ∃ys,s.tmp 0 = .sv (natV ys)/\okL ys/\ys.length<=xs.length/\lim (wth ys)=lim (wth xs)) (fun s=>(lenTV (s.tmp 0)).getD 0) ⟨xs,rfl,hx,Nat.le_refl _,rfl⟩ ?_
 rintro s ⟨ys,h0,hy,hle,he⟩
 repeat (first|simp only[go_sem,h0]|simp (disch:=first|exact oa|fail) only[AX,h0]|refine wki ?_|refine wqn ?_|refine vpx [] ?_)
 refine vf_of (nat_Is ys (by omega)) ?_;simp only[go_sem,h0]
 by_cases hT:isT ys=true
 ·repeat (first|simp only[go_sem,h0,hT,Bool.not_true]|simp (disch:=first|exact oa|fail) only[AX,h0,hT,Bool.not_true]|refine wki ?_|refine wqn ?_|refine vpx [] ?_)
  rw[<- he,<- lim_unique hy (isT_iff.1 hT)]
 ·have hT:isT ys=false:=by simpa using hT
  obtain⟨h1,h2⟩:=lim_dropLast hT
  repeat (first|simp only[go_sem,h0,hT,Bool.not_false]|simp (disch:=first|exact oa|fail) only[AX,h0,hT,Bool.not_false]|refine wki ?_|refine wqn ?_|refine vpx [] ?_)
  refine⟨⟨ys.take (ys.length-1),?_,okL_take hy _,?_,h2.trans he⟩,?_⟩
  ·rw[natV_cut (by omega)]
  ·rw[List.length_take];omega
  ·simp only[lenTV,Option.getD_some];omega
theorem nat_Trim (xs:List Nat) (hx:okL xs) (hl:xs.length<=274877906944):Go.Ev.Fn CX 54 [natV xs] (natV (lim (wth xs))):=by
 have hc:Go.Ev.Fn CX 77 [natV (lim (wth xs))] (natV (lim (wth xs))):=by
  refine⟨1,[none],?_⟩
  have h1:=lim_length_le hx
  have h2:=natV_one (lim (wth xs))
  have h3:cloneX 77 77 [.sv (natV (lim (wth xs)))]=some (.sv (natV (lim (wth xs))),[none]):=by
   simp only[cloneX,if_true]
   rw[if_pos ⟨natV_len _,h2,by omega⟩]
  have h4:CX.X 77 [.sv (natV (lim (wth xs)))]=some (.sv (natV (lim (wth xs))),[none]):=h3
  unfold callN
  rw[stq_sv,List.map_cons,List.map_nil,h4]
 refine fni Tryz.f54 ?_;unfold Tryz.f54;simp only[Option.get!_some]
 simp only[go_sem]
 refine vf_of (nat_trim xs hx (by omega)) ?_;simp only[go_sem]
 refine vf_of (hc) ?_;simp only[go_sem]
theorem nat_Of (n:Nat) (hn:n<18446744073709551616):Go.Ev.Fn CX 55 [.int .u64 n] (natV (lim n)):=by
 refine fni Tryz.f55 ?_;unfold Tryz.f55;simp only[Option.get!_some]
 repeat (first|simp only[go_sem]|simp (disch:=first|exact oa|fail) only[AX]|refine wki ?_|refine wqn ?_|refine vpx [] ?_)
 have e:wth [n%4294967296,n/4294967296]=n:=by simp only[wth];omega
 refine vf_of (nat_trim [n%4294967296,n/4294967296] (by simp[okL];omega) (by simp)) ?_;repeat (first|simp only[go_sem]|simp (disch:=first|exact oa|fail) only[AX]|refine wki ?_|refine wqn ?_|refine vpx [] ?_)
 rw[e]
end Go.Proofs.YtdahehdomajbgaaGreatDoor
namespace Go.Proofs.YtdahehdomajbgaaGreatDoor
open Go.Ev
def cmpN (a b:Nat):Int:=if a<b then -1 else if a=b then 0 else 1
theorem wth_lt_of {xs ys:List Nat} (hx:okL xs) (hy:okL ys) (hl:xs.length=ys.length) {i:Nat} (hi:i<xs.length) (hd:xs.drop (i+1)=ys.drop (i+1)) (h:xs.getD i 0<ys.getD i 0):wth xs<wth ys:=by
 have h1 : ∀ (zs:List Nat),i<zs.length->wth zs=wth (zs.take i)+4294967296^i*(zs.getD i 0+4294967296*wth (zs.drop (i+1))):=by
  intro zs hz
  conv=>lhs;rw[<- List.take_append_drop i zs]
  rw[wth_append,List.length_take,Nat.min_eq_left (by omega),List.drop_eq_getElem_cons hz,wth_cons,List.getD_eq_getElem?_getD,List.getElem?_eq_getElem hz]
  rfl
 rw[h1 xs hi,h1 ys (by omega),hd]
 have h2:=wth_lt (okL_take hx i)
 rw[List.length_take,Nat.min_eq_left (by omega)]at h2
 have h3:4294967296^i*(xs.getD i 0+4294967296*wth (ys.drop (i+1))+1)<=4294967296^i*(ys.getD i 0+4294967296*wth (ys.drop (i+1))):=Nat.mul_le_mul_left _ (by omega)
 rw[Nat.mul_add _ _ 1,Nat.mul_one]at h3
 omega
theorem lim_length_lt {a b:Nat} (h:(lim a).length<(lim b).length):a<b:=by
 rcases Nat.lt_or_ge a b with h1|h1
 ·exact h1
 ·have:=trimL_length (okL_lim b) (okL_lim a) (trimL_lim b) (by rw[wth_lim,wth_lim];exact h1)
  omega
theorem nat_Cmp (xs ys:List Nat) (hx:okL xs) (hy:okL ys) (hl:xs.length<=1099511627776) (hm:ys.length<=1099511627776):Go.Ev.Fn CX 79 [natV xs,natV ys] (.int .i64 (cmpN (wth xs) (wth ys))):=by
 refine fni Tryz.f79 ?_;unfold Tryz.f79;simp only[Option.get!_some]
 have lx:=lim_length_le hx
 have ly:=lim_length_le hy
 repeat (first|simp only[go_sem]|simp (disch:=first|exact oa|fail) only[AX]|refine wki ?_|refine wqn ?_|refine vpx [] ?_)
 refine vf_of (nat_trim xs hx (by omega)) ?_;repeat (first|simp only[go_sem]|simp (disch:=first|exact oa|fail) only[AX]|refine wki ?_|refine wqn ?_|refine vpx [] ?_)
 refine vf_of (nat_trim ys hy (by omega)) ?_;repeat (first|simp only[go_sem]|simp (disch:=first|exact oa|fail) only[AX]|refine wki ?_|refine wqn ?_|refine vpx [] ?_)
 by_cases h1:(lim (wth xs)).length=(lim (wth ys)).length
 ·repeat (first|simp only[go_sem]|simp (disch:=first|exact oa|fail) only[AX]|refine wki ?_|refine wqn ?_)
  refine vp_loop_inv (fun s=>s.tmp 0 = .sv (natV (lim (wth xs)))/\s.tmp 1 = .sv (natV (lim (wth ys))) /\ ∃i:Nat,s.tmp 5 = .sv (.int .i64 ((i:Int)-1))/\i<=(lim (wth xs)).length/\(lim (wth xs)).drop i=(lim (wth ys)).drop i)
   (fun s=>match s.tmp 5 with | .sv (.int _ i)=>(i+1).toNat|_=>0) ⟨rfl,rfl,(lim (wth xs)).length,rfl,Nat.le_refl _,?_⟩ ?_
  ·rw[List.drop_length,h1,List.drop_length]
  rintro s ⟨g0,g1,i,g5,hi,hd⟩
  rcases Nat.eq_zero_or_pos i with rfl|hi0
  ·have e:cmpN (wth xs) (wth ys)=0:=by
    have:=congrArg wth hd
    rw[List.drop_zero,List.drop_zero,wth_lim,wth_lim]at this
    rw[this]
    simp[cmpN]
   rw[e]
   repeat (first|simp only[go_sem,g0,g1,g5]|simp (disch:=first|exact oa|fail) only[AX,g0,g1,g5]|refine wki ?_|refine wqn ?_|refine vpx [] ?_)
  ·repeat (first|simp only[go_sem,g0,g1,g5]|simp (disch:=first|exact oa|fail) only[AX,g0,g1,g5]|refine wki ?_|refine wqn ?_|refine vpx [] ?_)
   have hdr : ∀zs:List Nat,i<=zs.length->zs.drop (i-1)=zs.getD (i-1) 0::zs.drop i:=by
    intro zs hz
    rw[List.drop_eq_getElem_cons (show i-1<zs.length by omega),List.getD_eq_getElem?_getD,List.getElem?_eq_getElem (show i-1<zs.length by omega),show i-1+1=i by omega]
    rfl
   rcases Nat.lt_trichotomy ((lim (wth xs)).getD (i-1) 0) ((lim (wth ys)).getD (i-1) 0) with hc|hc|hc
   ·have:=wth_lt_of (okL_lim _) (okL_lim _) h1 (i:=i-1) (by omega) (by rw[show i-1+1=i by omega];exact hd) hc
    rw[wth_lim,wth_lim]at this
    have e:cmpN (wth xs) (wth ys) = -1:=by simp[cmpN,this]
    rw[e]
    repeat (first|simp only[go_sem,g0,g1,g5]|simp (disch:=first|exact oa|fail) only[AX,g0,g1,g5]|refine wki ?_|refine wqn ?_|refine vpx [] ?_)
   ·repeat (first|simp only[go_sem,g0,g1,g5]|simp (disch:=first|exact oa|fail) only[AX,g0,g1,g5]|refine wki ?_|refine wqn ?_|refine vpx [] ?_)
    refine⟨⟨i-1,?_,by omega,?_⟩,by omega⟩
    ·simp only[Int.natCast_sub hi0]
    ·rw[hdr _ hi,hdr _ (by omega),hc,hd]
   ·have:=wth_lt_of (okL_lim _) (okL_lim _) h1.symm (i:=i-1) (by omega) (by rw[show i-1+1=i by omega];exact hd.symm) hc
    rw[wth_lim,wth_lim]at this
    have e:cmpN (wth xs) (wth ys)=1:=by unfold cmpN;rw[if_neg (by omega),if_neg (by omega)]
    rw[e]
    repeat (first|simp only[go_sem,g0,g1,g5]|simp (disch:=first|exact oa|fail) only[AX,g0,g1,g5]|refine wki ?_|refine wqn ?_|refine vpx [] ?_)
 ·by_cases h2:(lim (wth xs)).length<(lim (wth ys)).length
  ·have:=lim_length_lt h2
   have e:cmpN (wth xs) (wth ys) = -1:=by simp[cmpN,this]
   rw[e]
   repeat (first|simp only[go_sem]|simp (disch:=first|exact oa|fail) only[AX]|refine wki ?_|refine wqn ?_|refine vpx [] ?_)
  ·have:=lim_length_lt (a:=wth ys) (b:=wth xs) (by omega)
   have e:cmpN (wth xs) (wth ys)=1:=by unfold cmpN;rw[if_neg (by omega),if_neg (by omega)]
   rw[e]
   repeat (first|simp only[go_sem]|simp (disch:=first|exact oa|fail) only[AX]|refine wki ?_|refine wqn ?_|refine vpx [] ?_)
end Go.Proofs.YtdahehdomajbgaaGreatDoor
namespace Go.Proofs.YtdahehdomajbgaaGreatDoor
open Go.Ev
theorem nat_Add (xs ys:List Nat) (hx:okL xs) (hy:okL ys) (hl:xs.length<=1073741824) (hm:ys.length<=1073741824):Go.Ev.Fn CX 111 [natV xs,natV ys] (natV (lim (wth xs+wth ys))):=by
 refine fni Tryz.f111 ?_;unfold Tryz.f111;simp only[Option.get!_some]
 have lx:=lim_length_le hx
 have ly:=lim_length_le hy
 repeat (first|simp only[go_sem]|simp (disch:=first|exact oa|fail) only[AX]|refine wki ?_|refine wqn ?_|refine vpx [] ?_)
 refine vf_of (nat_trim xs hx (by omega)) ?_;repeat (first|simp only[go_sem]|simp (disch:=first|exact oa|fail) only[AX]|refine wki ?_|refine wqn ?_|refine vpx [] ?_)
 refine vf_of (nat_trim ys hy (by omega)) ?_;repeat (first|simp only[go_sem]|simp (disch:=first|exact oa|fail) only[AX]|refine wki ?_|refine wqn ?_|refine vpx [] ?_)
 refine vc_cut (Mid:=fun s => ∃a b,s.tmp 0 = .sv (natV a)/\s.tmp 1 = .sv (natV b)/\okL a/\okL b/\b.length<=a.length/\a.length<=1073741824/\wth a+wth b=wth xs+wth ys) ?_ ?_
 ·by_cases h1:(lim (wth xs)).length<(lim (wth ys)).length
  ·repeat (first|simp only[go_sem]|simp (disch:=first|exact oa|fail) only[AX]|refine wki ?_|refine wqn ?_|refine vpx [] ?_)
   exact⟨_,_,rfl,rfl,okL_lim _,okL_lim _,by omega,by omega,by rw[wth_lim,wth_lim];omega⟩
  ·repeat (first|simp only[go_sem]|simp (disch:=first|exact oa|fail) only[AX]|refine wki ?_|refine wqn ?_|refine vpx [] ?_)
   exact⟨_,_,rfl,rfl,okL_lim _,okL_lim _,by omega,by omega,by rw[wth_lim,wth_lim]⟩
 rintro s ⟨a,b,g0,g1,ha,hb,hab,hla,hsum⟩
 repeat (first|simp only[go_sem,g0,g1]|simp (disch:=first|exact oa|fail) only[AX,g0,g1]|refine wki ?_|refine wqn ?_)
 generalize hg:s.gen 23=g
 refine vp_loop_inv (fun s'=>s'.tmp 0 = .sv (natV a)/\s'.tmp 1 = .sv (natV b)/\s'.tmp 5 = .ref 23 g 1 0 (a.length+1)/\s'.tmp 24 = .sv (natV a)/\s'.tmp 25 = .sv (.int .i64 a.length) /\
   ∃c:List Nat,∃i carry:Nat,s'.obj 23 g=some (c.map limb)/\s'.tmp 6 = .sv (.int .u64 carry)/\s'.tmp 26 = .sv (.int .i64 i)/\c.length=a.length+1/\okL c/\i<=a.length/\carry<=1 /\
    wth (c.take i)+4294967296^i*carry=wth (a.take i)+wth (b.take i))
  (fun s=>match s.tmp 26 with | .sv (.int _ i)=>a.length-i.toNat|_=>0) ?_ ?_
 ·refine⟨g0,g1,rfl,rfl,rfl,List.replicate (a.length+1) 0,0,0,?_,rfl,rfl,List.length_replicate ..,okL_replicate _,by omega,by omega,rfl⟩
  simp[St.put,St.new,hg]
 rintro s' ⟨i0,i1,i5,i24,i25,c,i,carry,iO,i6,i26,hc,hok,hi,hcar,hw⟩
 by_cases hend:i=a.length
 ·subst hend
  repeat (first|simp only[go_sem,i0,i1,i5,i24,i25,iO,i6,i26]|simp (disch:=first|exact oa|fail) only[AX,i0,i1,i5,i24,i25,iO,i6,i26]|refine wki ?_|refine wqn ?_|refine vpx [] ?_)
  refine vf_of (fn_natV (nat_trim (c.set a.length carry) (okL_set hok _ _ (by omega)) (by rw[List.length_set];omega)) (by rw[List.length_set];omega)) ?_;repeat (first|simp only[go_sem]|simp (disch:=first|exact oa|fail) only[AX]|refine wki ?_|refine wqn ?_|refine vpx [] ?_)
  have e:wth (c.set a.length carry)=wth xs+wth ys:=by
   rw[<- List.take_of_length_le (l:=c.set a.length carry) (i:=a.length+1) (by rw[List.length_set];omega),wth_set_take (by omega),hw,List.take_of_length_le (Nat.le_refl _),List.take_of_length_le hab,hsum]
  rw[e]
 ·have h1:=getD_lt ha i
  have h2:=getD_lt hb i
  have key : ∀x:Nat,x=carry+a.getD i 0+b.getD i 0->wth ((c.set i (x%4294967296)).take (i+1))+4294967296^(i+1)*(x/4294967296)=wth (a.take (i+1))+wth (b.take (i+1)):=by
   intro x hx
   rw[wth_set_take (by omega),wth_take_succ,wth_take_succ]
   have e1:4294967296^i*(x%4294967296)+4294967296^(i+1)*(x/4294967296)=4294967296^i*x:=by
    rw[Nat.pow_succ,Nat.mul_assoc,<- Nat.mul_add,Nat.mod_add_div]
   have e2:4294967296^i*x=4294967296^i*carry+4294967296^i*a.getD i 0+4294967296^i*b.getD i 0:=by
    rw[hx,Nat.mul_add,Nat.mul_add]
   omega
  by_cases hib:i<b.length
  ·repeat (first|simp only[go_sem,i0,i1,i5,i24,i25,iO,i6,i26]|simp (disch:=first|exact oa|fail) only[AX,i0,i1,i5,i24,i25,iO,i6,i26]|refine wki ?_|refine wqn ?_|refine vpx [] ?_)
   exact⟨⟨c.set i ((carry+a.getD i 0+b.getD i 0)%4294967296),i+1,(carry+a.getD i 0+b.getD i 0)/4294967296,rfl,rfl,rfl,by rw[List.length_set];exact hc,okL_set hok _ _ (by omega),by omega,by omega,key _ rfl⟩,by omega⟩
  ·have e0:b.getD i 0=0:=by rw[List.getD_eq_getElem?_getD,List.getElem?_eq_none (by omega)];rfl
   repeat (first|simp only[go_sem,i0,i1,i5,i24,i25,iO,i6,i26]|simp (disch:=first|exact oa|fail) only[AX,i0,i1,i5,i24,i25,iO,i6,i26]|refine wki ?_|refine wqn ?_|refine vpx [] ?_)
   exact⟨⟨c.set i ((carry+a.getD i 0)%4294967296),i+1,(carry+a.getD i 0)/4294967296,rfl,rfl,rfl,by rw[List.length_set];exact hc,okL_set hok _ _ (by omega),by omega,by omega,key _ (by omega)⟩,by omega⟩
end Go.Proofs.YtdahehdomajbgaaGreatDoor
namespace Go.Proofs.YtdahehdomajbgaaGreatDoor
open Go.Ev
theorem bits_Add32 (x y c:Nat) (hx:x<4294967296) (hy:y<4294967296) (hc:c<4294967296) :
  Go.Ev.Fn CX 116 [limb x,limb y,limb c] (.tup [limb ((x+y+c)%4294967296),limb ((x+y+c)/4294967296)]):=by
 refine fni Tryz.f116 ?_;unfold Tryz.f116;simp only[Option.get!_some]
 repeat (first|simp only[go_sem]|simp (disch:=first|exact oa|fail) only[AX]|refine wki ?_|refine wqn ?_|refine vpx [] ?_)
theorem bits_Sub32 (x y b:Nat) (hx:x<4294967296) (hy:y<4294967296) (hb:b<=1) :
  Go.Ev.Fn CX 115 [limb x,limb y,limb b] (.tup [limb (((x+(4294967296-y))%4294967296+(4294967296-b))%4294967296),limb (if x<y+b then 1 else 0)]):=by
 refine fni Tryz.f115 ?_;unfold Tryz.f115;simp only[Option.get!_some]
 have hd : ∃d,d=((x+(4294967296-y))%4294967296+(4294967296-b))%4294967296:=⟨_,rfl⟩
 obtain⟨d,hd⟩:=hd
 rw[<- hd,<- sub32_bit hx hy hb hd]
 have hd':d<4294967296:=by omega
 have h0:4294967295 ^^^ x<4294967296:=Nat.xor_lt_two_pow (n:=32) (by decide) hx
 have h1:(4294967295 ^^^ x) &&& y<4294967296:=Nat.lt_of_le_of_lt Nat.and_le_right hy
 have h2:x ^^^ y<4294967296:=Nat.xor_lt_two_pow (n:=32) hx hy
 have h3:4294967295 ^^^ (x ^^^ y)<4294967296:=Nat.xor_lt_two_pow (n:=32) (by decide) h2
 have h4:(4294967295 ^^^ (x ^^^ y)) &&& d<4294967296:=Nat.lt_of_le_of_lt Nat.and_le_right hd'
 repeat (first|simp only[go_sem,u32_sub,<- hd]|simp (disch:=first|exact oa|fail) only[AX,u32_sub,<- hd]|refine wki ?_|refine wqn ?_|refine vpx [] ?_)
theorem bits_Div32 (hi lo y:Nat) (h:hi<y) (hy:y<4294967296) (hlo:lo<4294967296) :
  Go.Ev.Fn CX 99 [limb hi,limb lo,limb y] (.tup [limb ((hi*4294967296+lo)/y),limb ((hi*4294967296+lo)%y)]):=by
 refine fni Tryz.f99 ?_;unfold Tryz.f99;simp only[Option.get!_some]
 have hq:(hi*4294967296+lo)/y<4294967296:=by
  rw[Nat.div_lt_iff_lt_mul (by omega)]
  have:(hi+1)*4294967296<=y*4294967296:=Nat.mul_le_mul_right _ h
  omega
 have hr:(hi*4294967296+lo)%y<4294967296:=Nat.lt_trans (Nat.mod_lt _ (by omega)) hy
 have hX : ∃X,hi*4294967296+lo=X:=⟨_,rfl⟩
 obtain⟨X,hX⟩:=hX
 rw[hX]at hq hr ⊢
 generalize hQ:X/y=Q at *
 generalize hR:X%y=R at *
 repeat (first|simp only[go_sem,hX,hQ,hR]|simp (disch:=first|exact oa|fail) only[AX,hX,hQ,hR]|refine wki ?_|refine wqn ?_|refine vpx [] ?_)
end Go.Proofs.YtdahehdomajbgaaGreatDoor
namespace Go.Proofs.YtdahehdomajbgaaGreatDoor
open Go.Ev
end Go.Proofs.YtdahehdomajbgaaGreatDoor
namespace Go.Proofs.YtdahehdomajbgaaGreatDoor
open Go.Ev
theorem getD_set_ne {xs:List Nat} {i j v:Nat} (h:j≠i):(xs.set i v).getD j 0=xs.getD j 0:=by
 rw[List.getD_eq_getElem?_getD,List.getD_eq_getElem?_getD,List.getElem?_set_ne (fun e=>h e.symm)]
theorem limb_mul {v w:Nat} (hv:v<4294967296) (hw:w<4294967296):v*w<=18446744065119617025:=
 Nat.le_trans (Nat.mul_le_mul (show v<=4294967295 by omega) (show w<=4294967295 by omega)) (by decide)
theorem nat_Mul (xs ys:List Nat) (hx:okL xs) (hy:okL ys) (hl:xs.length<=1073741824) (hm:ys.length<=1073741824) :
  Go.Ev.Fn CX 94 [natV xs,natV ys] (natV (lim (wth xs*wth ys))):=by
 refine fni Tryz.f94 ?_;unfold Tryz.f94;simp only[Option.get!_some]
 have lx:=lim_length_le hx
 have ly:=lim_length_le hy
 repeat (first|simp only[go_sem]|simp (disch:=first|exact oa|fail) only[AX]|refine wki ?_|refine wqn ?_|refine vpx [] ?_)
 refine vf_of (nat_trim xs hx (by omega)) ?_;repeat (first|simp only[go_sem]|simp (disch:=first|exact oa|fail) only[AX]|refine wki ?_|refine wqn ?_|refine vpx [] ?_)
 refine vf_of (nat_trim ys hy (by omega)) ?_;repeat (first|simp only[go_sem]|simp (disch:=first|exact oa|fail) only[AX]|refine wki ?_|refine wqn ?_|refine vpx [] ?_)
 have ha:=okL_lim (wth xs)
 have hb:=okL_lim (wth ys)
 have va:=wth_lim (wth xs)
 have vb:=wth_lim (wth ys)
 generalize lim (wth xs)=a at *
 generalize lim (wth ys)=b at *
 refine vp_loop_inv (fun s'=>s'.tmp 0 = .sv (natV a)/\s'.tmp 1 = .sv (natV b)/\s'.tmp 5 = .ref 20 0 1 0 (a.length+b.length)/\s'.tmp 21 = .sv (natV a)/\s'.tmp 22 = .sv (.int .i64 a.length) /\
   ∃c:List Nat,∃i:Nat,s'.obj 20 0=some (c.map limb)/\s'.tmp 23 = .sv (.int .i64 i)/\c.length=a.length+b.length/\okL c/\i<=a.length /\
    wth (c.take (i+b.length))=wth (a.take i)*wth b)
  (fun s=>match s.tmp 23 with | .sv (.int _ i)=>a.length-i.toNat|_=>0) ?_ ?_
 ·refine⟨rfl,rfl,rfl,rfl,rfl,List.replicate (a.length+b.length) 0,0,rfl,rfl,List.length_replicate ..,okL_replicate _,by omega,?_⟩
  rw[List.take_replicate,wth_replicate];simp[wth]
 rintro s' ⟨i0,i1,i5,i21,i22,c0,i,iO,i23,hc0,hok0,hi,hv⟩
 by_cases hend:i=a.length
 ·subst hend
  repeat (first|simp only[go_sem,i0,i1,i5,i21,i22,iO,i23]|simp (disch:=first|exact oa|fail) only[AX,i0,i1,i5,i21,i22,iO,i23]|refine wki ?_|refine wqn ?_|refine vpx [] ?_)
  refine vf_of (fn_natV (nat_trim c0 hok0 (by omega)) hc0) ?_;repeat (first|simp only[go_sem]|simp (disch:=first|exact oa|fail) only[AX]|refine wki ?_|refine wqn ?_|refine vpx [] ?_)
  have e:wth c0=wth xs*wth ys:=by
   rw[List.take_of_length_le (by omega),List.take_of_length_le (Nat.le_refl _),va,vb]at hv
   exact hv
  rw[e]
 ·have h1:=getD_lt ha i
  repeat (first|simp only[go_sem,i0,i1,i5,i21,i22,iO,i23]|simp (disch:=first|exact oa|fail) only[AX,i0,i1,i5,i21,i22,iO,i23]|refine wki ?_|refine wqn ?_|refine vpx [] ?_)
  generalize hvv:a.getD i 0=v at *
  refine vp_loop_inv (fun s'=>s'.tmp 0 = .sv (natV a)/\s'.tmp 1 = .sv (natV b)/\s'.tmp 5 = .ref 20 0 1 0 (a.length+b.length)/\s'.tmp 21 = .sv (natV a)/\s'.tmp 22 = .sv (.int .i64 a.length)/\s'.tmp 23 = .sv (.int .i64 i) /\
    s'.tmp 6 = .sv (.int .i64 i)/\s'.tmp 7 = .sv (.int .u32 v)/\s'.tmp 28 = .sv (natV b)/\s'.tmp 29 = .sv (.int .i64 b.length) /\
    ∃c:List Nat,∃k carry:Nat,s'.obj 20 0=some (c.map limb)/\s'.tmp 30 = .sv (.int .i64 k)/\s'.tmp 8 = .sv (.int .u64 carry)/\c.length=a.length+b.length/\okL c/\k<=b.length/\carry<4294967296 /\
     (∀j,i+k<=j->c.getD j 0=c0.getD j 0)/\wth (c.take (i+k))+4294967296^(i+k)*carry=wth (c0.take (i+k))+4294967296^i*(v*wth (b.take k)))
   (fun s=>match s.tmp 30 with | .sv (.int _ i)=>b.length-i.toNat|_=>0) ?_ ?_
  ·refine⟨i0,i1,i5,i21,i22,i23,rfl,rfl,rfl,rfl,c0,0,0,iO,rfl,rfl,hc0,hok0,by omega,by omega,fun _ _=>rfl,?_⟩
   simp[wth]
  rintro s2 ⟨j0,j1,j5,j21,j22,j23,j6,j7,j28,j29,c,k,carry,jO,j30,j8,hc,hok,hk,hcar,hsame,hw⟩
  by_cases hend2:k=b.length
  ·subst hend2
   repeat (first|simp only[go_sem,j0,j1,j5,j21,j22,j23,j6,j7,j28,j29,jO,j30,j8]|simp (disch:=first|exact oa|fail) only[AX,j0,j1,j5,j21,j22,j23,j6,j7,j28,j29,jO,j30,j8]|refine wki ?_|refine wqn ?_|refine vpx [] ?_)
   refine⟨⟨c.set (i+b.length) carry,i+1,rfl,rfl,by rw[List.length_set];exact hc,okL_set hok _ _ hcar,by omega,?_⟩,by omega⟩
   rw[show i+1+b.length=i+b.length+1 by omega,wth_set_take (by omega),hw,hv,wth_take_succ,hvv,List.take_of_length_le (Nat.le_refl _)]
   rw[Nat.add_mul,Nat.mul_assoc]
  ·have h2:=getD_lt hb k
   have h3:=getD_lt hok (i+k)
   have h4:=limb_mul h1 h2
   have hs:=hsame (i+k) (Nat.le_refl _)
   generalize hww:b.getD k 0=w at *
   generalize hu:c.getD (i+k) 0=u at *
   generalize hp:v*w=p at *
   repeat (first|simp only[go_sem,j0,j1,j5,j21,j22,j23,j6,j7,j28,j29,jO,j30,j8,hww,hu,hp]|simp (disch:=first|exact oa|fail) only[AX,j0,j1,j5,j21,j22,j23,j6,j7,j28,j29,jO,j30,j8,hww,hu,hp]|refine wki ?_|refine wqn ?_|refine vpx [] ?_)
   refine⟨⟨c.set (i+k) ((carry+(p+u))%4294967296),k+1,(carry+(p+u))/4294967296,rfl,rfl,rfl,by rw[List.length_set];exact hc,okL_set hok _ _ (by omega),by omega,by omega,fun j hj=>(getD_set_ne (by omega)).trans (hsame j (by omega)),?_⟩,by omega⟩
   rw[show i+(k+1)=i+k+1 by omega,wth_set_take (by omega),wth_take_succ c0,<- hs,wth_take_succ b,hww]
   generalize hx:carry+(p+u)=x
   have e1:4294967296^(i+k)*(x%4294967296)+4294967296^(i+k+1)*(x/4294967296)=4294967296^(i+k)*x:=by
    rw[Nat.pow_succ,Nat.mul_assoc,<- Nat.mul_add,Nat.mod_add_div]
   have e2:4294967296^(i+k)*x=4294967296^(i+k)*carry+(4294967296^(i+k)*p+4294967296^(i+k)*u):=by
    rw[<- hx,Nat.mul_add,Nat.mul_add]
   have e3:4294967296^i*(v*(wth (b.take k)+4294967296^k*w))=4294967296^i*(v*wth (b.take k))+4294967296^(i+k)*p:=by
    rw[Nat.mul_add,Nat.mul_add,<- hp,Nat.pow_add,Nat.mul_left_comm v,<- Nat.mul_assoc (4294967296^i) (4294967296^k)]
   rw[e3]
   omega
end Go.Proofs.YtdahehdomajbgaaGreatDoor
namespace Go.Proofs.YtdahehdomajbgaaGreatDoor
open Go.Ev
theorem wth_drop {xs:List Nat} {i:Nat} (h:i<xs.length):wth (xs.drop i)=xs.getD i 0+4294967296*wth (xs.drop (i+1)):=by
 rw[List.drop_eq_getElem_cons h,wth_cons,List.getD_eq_getElem?_getD,List.getElem?_eq_getElem h]
 rfl
theorem wth_set_drop {xs:List Nat} {i:Nat} (h:i<xs.length) (v:Nat):wth ((xs.set i v).drop i)=v+4294967296*wth (xs.drop (i+1)):=by
 rw[wth_drop (by rw[List.length_set];exact h),List.drop_set_of_lt (by omega)]
 simp[List.getD_eq_getElem?_getD,h]
theorem nat_small (xs:List Nat) (b:Nat) (hx:okL xs) (hl:xs.length<=1073741824) (hb0:0<b) (hb:b<4294967296) :
  Go.Ev.Fn CX 80 [natV xs,limb b] (.tup [natV (lim (wth xs/b)),limb (wth xs%b)]):=by
 refine fni Tryz.f80 ?_;unfold Tryz.f80;simp only[Option.get!_some]
 repeat (first|simp only[go_sem]|simp (disch:=first|exact oa|fail) only[AX]|refine wki ?_|refine wqn ?_)
 refine vp_loop_inv (fun s'=>s'.tmp 0 = .sv (natV xs)/\s'.tmp 1 = .sv (limb b)/\s'.tmp 6 = .ref 11 0 1 0 xs.length /\
   ∃q:List Nat,∃i rest:Nat,s'.obj 11 0=some (q.map limb)/\s'.tmp 8 = .sv (.int .i64 ((i:Int)-1))/\s'.tmp 7 = .sv (limb rest)/\q.length=xs.length/\okL q/\i<=xs.length/\rest<b /\
    wth (xs.drop i)=b*wth (q.drop i)+rest)
  (fun s=>match s.tmp 8 with | .sv (.int _ i)=>(i+1).toNat|_=>0) ?_ ?_
 ·refine⟨rfl,rfl,rfl,List.replicate xs.length 0,xs.length,0,rfl,rfl,rfl,List.length_replicate ..,okL_replicate _,by omega,hb0,?_⟩
  rw[List.drop_length,List.drop_of_length_le (by simp)]
  simp[wth]
 rintro s' ⟨i0,i1,i6,q,i,rest,iO,i8,i7,hq,hok,hi,hrest,hv⟩
 rcases Nat.eq_zero_or_pos i with rfl|hi0
 ·repeat (first|simp only[go_sem,i0,i1,i6,iO,i8,i7]|simp (disch:=first|exact oa|fail) only[AX,i0,i1,i6,iO,i8,i7]|refine wki ?_|refine wqn ?_|refine vpx [] ?_)
  rw[List.drop_zero,List.drop_zero]at hv
  have e1:wth xs/b=wth q:=by
   rw[hv,Nat.mul_add_div hb0,Nat.div_eq_of_lt hrest,Nat.add_zero]
  have e2:wth xs%b=rest:=by
   rw[hv,Nat.mul_add_mod,Nat.mod_eq_of_lt hrest]
  refine vf_of (fn_natV (nat_trim q hok (by omega)) hq) ?_;repeat (first|simp only[go_sem,i0,i1,i6,iO,i8,i7]|simp (disch:=first|exact oa|fail) only[AX,i0,i1,i6,iO,i8,i7]|refine wki ?_|refine wqn ?_|refine vpx [] ?_)
  rw[e1,e2]
  exact⟨rfl,rfl⟩
 ·have h1:=getD_lt hx (i-1)
  have h5:(((i-1:Nat):Int))=(i:Int)-1:=by omega
  repeat (first|simp only[go_sem,i0,i1,i6,iO,i8,i7]|simp (disch:=first|exact oa|fail) only[AX,i0,i1,i6,iO,i8,i7]|refine wki ?_|refine wqn ?_|refine vpx [] ?_)
  have hq0:(rest*4294967296+xs.getD (i-1) 0)/b<4294967296:=by
   rw[Nat.div_lt_iff_lt_mul hb0]
   have:(rest+1)*4294967296<=b*4294967296:=Nat.mul_le_mul_right _ hrest
   omega
  have hr0:=Nat.mod_lt (rest*4294967296+xs.getD (i-1) 0) hb0
  refine vf_of (bits_Div32 rest (xs.getD (i-1) 0) b hrest hb h1) ?_;repeat (first|simp only[go_sem,i0,i1,i6,iO,i8,i7]|simp (disch:=first|exact oa|fail) only[AX,i0,i1,i6,iO,i8,i7]|refine wki ?_|refine wqn ?_|refine vpx [] ?_)
  refine⟨⟨q.set (i-1) ((rest*4294967296+xs.getD (i-1) 0)/b),i-1,(rest*4294967296+xs.getD (i-1) 0)%b,rfl,rfl,rfl,by rw[List.length_set];exact hq,okL_set hok _ _ hq0,by omega,hr0,?_⟩,by omega⟩
  rw[wth_set_drop (by omega),wth_drop (by omega),show i-1+1=i by omega,hv]
  have e1:=Nat.div_add_mod (rest*4294967296+xs.getD (i-1) 0) b
  generalize (rest*4294967296+xs.getD (i-1) 0)/b=Q at *
  generalize (rest*4294967296+xs.getD (i-1) 0)%b=R at *
  rw[Nat.mul_add b,<- Nat.mul_assoc b,Nat.mul_comm b 4294967296,Nat.mul_assoc]
  omega
end Go.Proofs.YtdahehdomajbgaaGreatDoor
namespace Go.Proofs.YtdahehdomajbgaaGreatDoor
open Go.Ev
def guessN (u v:Nat):Nat:=min 4294967295 (u/v)
theorem guess_le (u v:Nat):guessN u v<=4294967295:=Nat.min_le_left _ _
theorem guess_ge {u v q:Nat} (hv:0<v) (hq:q<=4294967295) (h:q*v<=u):q<=guessN u v:=
 Nat.le_min.2 ⟨hq,(Nat.le_div_iff_mul_le hv).2 h⟩
theorem guess_lt {u v q:Nat} (hv:0<v) (h:u<q*v):guessN u v<=q-1:=
 Nat.le_trans (Nat.min_le_right _ _) (Nat.le_sub_one_of_lt ((Nat.div_lt_iff_lt_mul hv).2 h))
theorem guess_parts {q r b1 b2 X low U V:Nat} (hU:X*4294967296+low=U) (hV:b1*4294967296+b2=V) (e:q*b1+r=X) :
  q*V+(r*4294967296+low)=U+q*b2:=by
 subst hU hV e
 rw[Nat.mul_add,Nat.add_mul,<- Nat.mul_assoc]
 generalize q*b1=a
 generalize q*b2=b
 omega
theorem guess_first {b1 b2 X low U V Q R:Nat} (hU:X*4294967296+low=U) (hV:b1*4294967296+b2=V) (hlo:low<4294967296) (hV0:0<V) (hQR:b1*Q+R=X) (hR:R<b1):guessN U V<=Q:=by
 refine guess_lt (q:=Q+1) hV0 ?_
 have e:=guess_parts (q:=Q) (r:=R) hU hV (by rw[Nat.mul_comm];exact hQR)
 rw[Nat.add_mul]
 generalize Q*V=a at *
 generalize Q*b2=b at *
 generalize b1*Q=c at *
 omega
theorem guess_step {q r b1 X:Nat} (e:q*b1+r=X) (h:1<=q):(q-1)*b1+(r+b1)=X:=by
 obtain⟨q',rfl⟩ : ∃q',q=q'+1:=⟨q-1,by omega⟩
 rw[Nat.add_sub_cancel]
 rw[Nat.add_mul,Nat.one_mul]at e
 omega
theorem guess_end {q r b1 b2 X low U V:Nat} (hU:X*4294967296+low=U) (hV:b1*4294967296+b2=V) (hV0:0<V) (hb2:b2<4294967296) (e:q*b1+r=X) (hq:q<=4294967295)
  (h:4294967296<=r\/q*b2<=r*4294967296+low):q<=guessN U V:=by
 refine guess_ge hV0 hq ?_
 have e1:=guess_parts hU hV e
 have h6:q*b2<=18446744065119617025:=limb_mul (by omega) hb2
 generalize q*V=a at *
 generalize q*b2=b at *
 omega
theorem guess_more {q r b1 b2 X low U V:Nat} (hU:X*4294967296+low=U) (hV:b1*4294967296+b2=V) (hV0:0<V) (e:q*b1+r=X)
  (h:r*4294967296+low<q*b2):guessN U V<=q-1:=by
 refine guess_lt hV0 ?_
 have e1:=guess_parts hU hV e
 generalize q*V=a at *
 generalize q*b2=b at *
 omega
theorem guess_small {q r b1 X high mid:Nat} (hX:high*4294967296+mid=X) (h1:high<=b1) (hm:mid<4294967296) (e:q*b1+r=X) (hr:4294967296<=r):q<=4294967295:=by
 rcases Nat.lt_or_ge 4294967295 q with h3|h3
 ·have h4:4294967296*b1<=q*b1:=Nat.mul_le_mul_right _ h3
  generalize q*b1=a at *
  omega
 ·exact h3
theorem guess_fn (high mid low b1 b2:Nat) (h1:high<=b1) (hb:b1<4294967296) (hb':2147483648<=b1) (hm:mid<4294967296) (hlo:low<4294967296) (hb2:b2<4294967296) :
  Go.Ev.Fn CX 102 [limb high,limb mid,limb low,limb b1,limb b2] (.int .u64 (guessN ((high*4294967296+mid)*4294967296+low) (b1*4294967296+b2))):=by
 refine fni Tryz.f102 ?_;unfold Tryz.f102;simp only[Option.get!_some]
 have hX : ∃X,high*4294967296+mid=X:=⟨_,rfl⟩
 obtain⟨X,hX⟩:=hX
 have hX1:X<18446744073709551616:=by omega
 rw[hX]
 have hU : ∃U,X*4294967296+low=U:=⟨_,rfl⟩
 obtain⟨U,hU⟩:=hU
 have hV : ∃V,b1*4294967296+b2=V:=⟨_,rfl⟩
 obtain⟨V,hV⟩:=hV
 have hV0:0<V:=by omega
 rw[hU,hV]
 have hq0:X/b1<=4294967297:=by
  have h:X<4294967298*b1:=by omega
  exact Nat.le_of_lt_succ ((Nat.div_lt_iff_lt_mul (k:=b1) (by omega)).2 h)
 have hr0:X%b1<b1:=Nat.mod_lt _ (by omega)
 have hqr:=Nat.div_add_mod X b1
 generalize hQ:X/b1=Q at *
 generalize hR:X%b1=R at *
 have hT0:=guess_first hU hV hlo hV0 hqr hr0
 have hT1:=guess_le U V
 generalize hT:guessN U V=T at *
 repeat (first|simp only[go_sem,hX,hQ,hR]|simp (disch:=first|exact oa|fail) only[AX,hX,hQ,hR]|refine wki ?_|refine wqn ?_|refine vpx [] ?_)
 refine vp_loop_inv (fun s'=>s'.tmp 2 = .sv (limb low)/\s'.tmp 3 = .sv (limb b1)/\s'.tmp 4 = .sv (limb b2) /\
   ∃q r:Nat,s'.tmp 12 = .sv (.int .u64 q)/\s'.tmp 13 = .sv (.int .u64 r)/\q*b1+r=X/\r<4294967296/\T<=q/\q<=4294967297)
  (fun s=>match s.tmp 12 with | .sv (.int _ i)=>i.toNat|_=>0) ?_ ?_
 ·exact⟨rfl,rfl,rfl,Q,R,rfl,rfl,by rw[Nat.mul_comm];exact hqr,by omega,hT0,hq0⟩
 rintro s' ⟨i2,i3,i4,q,r,i12,i13,e,hr,hTq,hq⟩
 have fin:1<=q->4294967296<=r+b1->T<=q-1->q-1=T:=by
  intro hq1 hrB hl
  have e2:=guess_step e hq1
  have:=guess_end hU hV hV0 hb2 e2 (guess_small hX h1 hm e2 hrB) (.inl hrB)
  rw[hT]at this
  omega
 by_cases hqB:4294967296<=q
 ·have e2:=guess_step e (by omega)
  by_cases hrB:4294967296<=r+b1
  ·have h5:=fin (by omega) hrB (by omega)
   clear fin e e2 hU hV hqr
   repeat (first|simp only[go_sem,i2,i3,i4,i12,i13]|simp (disch:=first|exact oa|fail) only[AX,i2,i3,i4,i12,i13]|refine wki ?_|refine wqn ?_|refine vpx [] ?_)
   rw[h5]
  ·clear fin e hU hV hqr
   repeat (first|simp only[go_sem,i2,i3,i4,i12,i13]|simp (disch:=first|exact oa|fail) only[AX,i2,i3,i4,i12,i13]|refine wki ?_|refine wqn ?_|refine vpx [] ?_)
   exact⟨⟨q-1,r+b1,rfl,rfl,e2,by omega,by omega,by omega⟩,by omega⟩
 ·have hp:q*b2<=18446744065119617025:=limb_mul (by omega) hb2
  have hub':=guess_end hU hV hV0 hb2 e (by omega)
  have hlb':=guess_more hU hV hV0 e
  rw[hT]at hub' hlb'
  generalize hP:q*b2=P at *
  have hC : ∃C,r*4294967296+low=C:=⟨_,rfl⟩
  obtain⟨C,hC⟩:=hC
  have hj:bitsSV .or .u64 ((r*4294967296:Nat):Int) (low:Int)=some (.int .u64 (C:Int)):=by
   rw[b_join (by omega) hlo,hC]
  rw[hC]at hub' hlb'
  by_cases hc:C<P
  ·have hq1:1<=q:=by
    rcases Nat.eq_zero_or_pos q with rfl|h
    ·rw[Nat.zero_mul]at hP;omega
    ·exact h
   have hl:=hlb' hc
   have e2:=guess_step e hq1
   by_cases hrB:4294967296<=r+b1
   ·have h5:=fin hq1 hrB hl
    clear fin hub' hlb' e e2 hU hV hqr hC
    repeat (first|simp only[go_sem,i2,i3,i4,i12,i13,hP,hj]|simp (disch:=first|exact oa|fail) only[AX,i2,i3,i4,i12,i13,hP,hj]|refine wki ?_|refine wqn ?_|refine vpx [] ?_)
    rw[h5]
   ·clear fin hub' hlb' e hU hV hqr hC
    repeat (first|simp only[go_sem,i2,i3,i4,i12,i13,hP,hj]|simp (disch:=first|exact oa|fail) only[AX,i2,i3,i4,i12,i13,hP,hj]|refine wki ?_|refine wqn ?_|refine vpx [] ?_)
    exact⟨⟨q-1,r+b1,rfl,rfl,e2,by omega,by omega,by omega⟩,by omega⟩
  ·have h5:=hub' (.inr (by omega))
   clear fin hub' hlb' e hU hV hqr hC
   repeat (first|simp only[go_sem,i2,i3,i4,i12,i13,hP,hj]|simp (disch:=first|exact oa|fail) only[AX,i2,i3,i4,i12,i13,hP,hj]|refine wki ?_|refine wqn ?_|refine vpx [] ?_)
   rw[Nat.le_antisymm h5 hTq]
end Go.Proofs.YtdahehdomajbgaaGreatDoor
namespace Go.Proofs.YtdahehdomajbgaaGreatDoor
open Go.Ev
def blen (x:Nat):Nat:=if x=0 then 0 else x.log2+1
def tabOk (s:ByteArray):Bool:=(List.range 256).all fun i=>match s[i]? with
 |some b=>b.toNat==blen i
 |none=>false
theorem vo_index_tab {C:Cx} {soft:Bool} {ops:Array Oper} {l:List Oper} {st:St} {Q:St->Prop} {dst:Option Nat} {ty t:TypeId} {pos:String} {af:Array Edge} {s:ByteArray} {x:Operand} {k:IntKind} {i:Nat}
  (hu:C.P.underlying t=some .string) (hs:tabOk s=true) (hx:st.eval x = .sv (.int k (i:Int))) (hi:i<256) (h:WO C soft ops l (st.putO dst (.sv (.int .u8 (blen i:Nat)))) Q) :
  WO C soft ops (⟨dst,.index t (.const (.string s)) x,ty,pos,af,none⟩::l) st Q:=by
 rw[vo_index]
 have h1:=List.all_eq_true.1 hs i (List.mem_range.2 hi)
 have e:val C.P st (.index t (.const (.string s)) x)=some (.sv (.int .u8 (blen i:Nat))):=by
  have e0:st.eval (.const (.string s)) = .sv (.str s):=rfl
  simp only[val,hx,e0,natTV,hu]
  rw[if_pos (by omega)]
  simp only[Int.toNat_natCast]
  split at h1
  ·rename_i b hb
   rw[hb]
   simp only
   rw[<- eq_of_beq h1]
  ·cases h1
 rw[e]
 exact h
theorem blen_shift {x k:Nat} (h:2^k<=x):blen x=k+blen (x/2^k):=by
 have hp:0<2^k:=Nat.pow_pos (by omega)
 have h0:x≠0:=by omega
 have h1:x/2^k≠0:=by
  have:=Nat.div_pos h hp
  omega
 unfold blen
 rw[if_neg h0,if_neg h1]
 have e:x.log2=k+(x/2^k).log2:=by
  have h2:=(Nat.le_log2 h0).2 h
  refine(Nat.log2_eq_iff h0).2 ⟨?_,?_⟩
  ·have:=Nat.log2_self_le h1
   rw[Nat.pow_add]
   calc 2^k*2^(x/2^k).log2<=2^k*(x/2^k):=Nat.mul_le_mul_left _ this
    _<=x:=Nat.mul_div_le _ _
  ·have:=Nat.lt_log2_self (n:=x/2^k)
   rw[Nat.div_lt_iff_lt_mul hp]at this
   rw[show k+(x/2^k).log2+1=(x/2^k).log2+1+k by omega,Nat.pow_add]
   exact this
 omega
theorem blen_le {x k:Nat} (h:x<2^k):blen x<=k:=by
 unfold blen
 split
 ·omega
 ·rename_i h0
  have:=(Nat.log2_lt h0).2 h
  omega
theorem bits_Len32 (x:Nat) (hx:x<4294967296):Go.Ev.Fn CX 114 [limb x] (.int .i64 (blen x:Nat)):=by
 refine fni Tryz.f114 ?_;unfold Tryz.f114;simp only[Option.get!_some]
 repeat (first|simp only[go_sem]|simp (disch:=first|exact oa|fail) only[AX]|refine wki ?_|refine wqn ?_|refine vpx [] ?_)
 refine vc_cut (Mid:=fun s => ∃y m:Nat,s.tmp 0 = .sv (limb y)/\s.tmp 2 = .sv (.int .i64 m)/\blen x=m+blen y/\y<65536/\m<=16) ?_ ?_
 ·by_cases h:65536<=x
  ·repeat (first|simp only[go_sem]|simp (disch:=first|exact oa|fail) only[AX]|refine wki ?_|refine wqn ?_|refine vpx [] ?_)
   exact⟨x/65536,16,rfl,rfl,blen_shift (k:=16) h,by omega,by omega⟩
  ·repeat (first|simp only[go_sem]|simp (disch:=first|exact oa|fail) only[AX]|refine wki ?_|refine wqn ?_|refine vpx [] ?_)
   exact⟨x,0,rfl,rfl,by omega,by omega,by omega⟩
 rintro s ⟨y,m,g0,g2,hb,hy,hm⟩
 repeat (first|simp only[go_sem,g0,g2]|simp (disch:=first|exact oa|fail) only[AX,g0,g2]|refine wki ?_|refine wqn ?_|refine vpx [] ?_)
 refine vc_cut (Mid:=fun s => ∃y m:Nat,s.tmp 0 = .sv (limb y)/\s.tmp 2 = .sv (.int .i64 m)/\blen x=m+blen y/\y<256/\m<=24) ?_ ?_
 ·by_cases h:256<=y
  ·repeat (first|simp only[go_sem,g0,g2]|simp (disch:=first|exact oa|fail) only[AX,g0,g2]|refine wki ?_|refine wqn ?_|refine vpx [] ?_)
   exact⟨y/256,m+8,rfl,rfl,by rw[hb,blen_shift (k:=8) h,Nat.add_assoc],by omega,by omega⟩
  ·repeat (first|simp only[go_sem,g0,g2]|simp (disch:=first|exact oa|fail) only[AX,g0,g2]|refine wki ?_|refine wqn ?_|refine vpx [] ?_)
   exact⟨y,m,rfl,rfl,hb,by omega,by omega⟩
 clear g0 g2 hb hy hm
 rintro s ⟨y,m,g0,g2,hb,hy,hm⟩
 repeat (first|simp only[go_sem,g0,g2]|simp (disch:=first|exact oa|fail) only[AX,g0,g2]|refine wki ?_|refine wqn ?_|refine vpx [] ?_)
 refine vo_index_tab (i:=y) (by kernel_rfl) (by kernel_rfl) rfl hy ?_
 have hbl:blen y<=8:=blen_le (k:=8) hy
 repeat (first|simp only[go_sem,g0,g2]|simp (disch:=first|exact oa|fail) only[AX,g0,g2]|refine wki ?_|refine wqn ?_|refine vpx [] ?_)
 rw[hb]
theorem bits_LeadingZeros32 (x:Nat) (hx:x<4294967296):Go.Ev.Fn CX 100 [limb x] (.int .i64 ((32-blen x:Nat):Int)):=by
 refine fni Tryz.f100 ?_;unfold Tryz.f100;simp only[Option.get!_some]
 have hbl:blen x<=32:=blen_le (k:=32) hx
 repeat (first|simp only[go_sem]|simp (disch:=first|exact oa|fail) only[AX]|refine wki ?_|refine wqn ?_|refine vpx [] ?_)
 refine vf_of (bits_Len32 x hx) ?_;repeat (first|simp only[go_sem]|simp (disch:=first|exact oa|fail) only[AX]|refine wki ?_|refine wqn ?_|refine vpx [] ?_)
 rw[Int.natCast_sub hbl]
 rfl
end Go.Proofs.YtdahehdomajbgaaGreatDoor
namespace Go.Ev
def natP (l:List UInt8):Option Nat:=if l=[]\/400<l.length\/digs l=false then none else some (natD l)
def frontL (c:UInt8) (l:List UInt8):List UInt8:=l.takeWhile (· != c)
def backL (c:UInt8) (l:List UInt8):List UInt8:=(l.dropWhile (· != c)).tail
def negP (l:List UInt8):Bool:=l.head?==some 45
def absP (l:List UInt8):List UInt8:=if negP l then l.tail else l
def decP (l:List UInt8):Option Rat:=
 if (absP l).contains 46 then
  if frontL 46 (absP l)=[] then none else
  match natP (backL 46 (absP l)),natP (frontL 46 (absP l)++backL 46 (absP l)) with
  |some _,some n=>some (mkRat (sgn (negP l) n) (10^(backL 46 (absP l)).length))
  |_,_=>none
 else
  match natP (frontL 47 (absP l)),natP (if (absP l).contains 47 then backL 47 (absP l) else [49]) with
  |some n,some d=>if d=0 then none else some (mkRat (sgn (negP l) n) d)
  |_,_=>none
def isPM (b:UInt8):Bool:=b==43||b==45
def expP (l:List UInt8):Option Int:=
 if l.length-(l.dropWhile isPM).length>1\/(l.dropWhile isPM).length<1\/(l.dropWhile isPM).length>2\/digs (l.dropWhile isPM)=false then none else
 if natD (l.dropWhile isPM)<=30 then some (if l.head?=some 45 then - (natD (l.dropWhile isPM):Int) else (natD (l.dropWhile isPM):Int)) else none
def tenR (k:Int):Rat:=if k<0 then 1/(10:Rat)^k.natAbs else (10:Rat)^k.natAbs
def numP (l:List UInt8):Nat×Rat:=
 if 60<l.length then (3,0) else
 if l.contains 101 then
  match decP (frontL 101 l),expP (backL 101 l) with
  |some q,some k=>if l.contains 47 then (2,0) else (0,q*tenR k)
  |_,_=>(2,0)
 else match decP l with
  |some q=>(0,q)
  |none=>(2,0)
def gapB (b:UInt8):Bool:=b==32||b==44||b==10
def toks:List UInt8->List UInt8->List (List UInt8)
 |cur,[]=>if cur=[] then [] else [cur.reverse]
 |cur,b::r=>if gapB b then (if cur=[] then toks [] r else cur.reverse::toks [] r) else toks (b::cur) r
def plainL:Bool->List UInt8->List UInt8
 |_,[]=>[]
 |off,b::r=>if b==10 then 10::plainL false r else if off||b==35 then plainL true r else b::plainL false r
def runP:List (List UInt8)->Nat×List Rat
 | []=>(0,[])
 |t::r=>match numP t with
  |(0,q)=>match runP r with
   |(0,l)=>(0,q::l)
   |(e,_)=>(e,[])
  |(e,_)=>(e,[])
def parseP (l:List UInt8):Nat×List Rat:=
 match runP (toks [] (plainL false l)) with
 |(0,x)=>if 256<x.length then (3,[]) else (0,x)
 |(e,_)=>(e,[])
def joinW:List (List UInt8)->List UInt8
 | []=>[]
 | [t]=>t
 |t::u::r=>t++32::joinW (u::r)
theorem join_cons (t:List UInt8) (r:List (List UInt8)):joinW (t::r)=t++(r.map fun x=>[32]++x).flatten:=by
 induction r generalizing t with
 |nil=>simp[joinW]
 |cons u r ih=>rw[joinW,ih u];simp

end Go.Ev
namespace Go.Proofs.YtdahehdomajbgaaGreatDoor
open Go.Ev
theorem idxB_bs {l:List UInt8} {i:Nat}:idxB (bs l) i=(l[i]?).map (fun b => .sv (.int .u8 (b.toNat:Int))):=by
 unfold idxB
 rw[bs_get]
 cases l[i]?<;>rfl
theorem mk_bs {l:List UInt8}:ByteArray.mk l.toArray=bs l:=_root_.id rfl
theorem beq_nil {α:Type} [BEq α] {a:α} {l:List α}:((a::l)==[])=false:=_root_.id rfl
theorem nil_beq {α:Type} [BEq α]:(([]:List α)==[])=true:=_root_.id rfl
theorem u8_back (b:UInt8):((b.toNat:Int)).toNat.toUInt8=b:=by simp
theorem index_cases (c:UInt8) (l:List UInt8):(l.contains c=false/\Lib.indexByte l c = -1/\frontL c l=l/\backL c l=[]) \/
  ∃i:Nat,l.contains c=true/\Lib.indexByte l c=(i:Int)/\i<l.length/\l.take i=frontL c l/\l.drop (i+1)=backL c l:=by
 induction l with
 |nil=>exact .inl ⟨rfl,rfl,rfl,rfl⟩
 |cons b l ih=>
  by_cases hb:b=c
  ·subst hb
   refine .inr ⟨0,by simp,?_,by simp,by simp[frontL],by simp[backL]⟩
   unfold Lib.indexByte
   simp
  ·have hb':(b==c)=false:=by simpa using hb
   have hn:(b != c)=true:=by simpa using hb
   have hcb:(c==b)=false:=by simpa using fun e:c=b=>hb e.symm
   have hf:frontL c (b::l)=b::frontL c l:=by unfold frontL;rw[List.takeWhile_cons,hn];rfl
   have hk:backL c (b::l)=backL c l:=by unfold backL;rw[List.dropWhile_cons,hn];rfl
   have hc:(b::l).contains c=l.contains c:=by rw[List.contains_cons,hcb,Bool.false_or]
   rcases ih with⟨h1,h2,h3,h4⟩|⟨i,h1,h2,h3,h4,h5⟩
   ·refine .inl ⟨hc.trans h1,?_,by rw[hf,h3],hk.trans h4⟩
    unfold Lib.indexByte
    simp[hb',h2]
   ·refine .inr ⟨i+1,hc.trans h1,?_,by simpa using h3,by rw[hf,List.take_succ_cons,h4],by rw[hk,List.drop_succ_cons,h5]⟩
    unfold Lib.indexByte
    have:((i:Int) == -1)=false:=by rw[beq_eq_false_iff_ne];omega
    simp only[hb',h2,this,Bool.false_eq_true,if_false]
    omega
structure StrCx (C:Cx):Prop where
 P:C.P=Tryz.prog
 good:C.good=good
 x1 : ∀s c,C.X 47 [.sv (.str s),.sv (.int .u8 c)]=some (.sv (.int .i64 (Lib.indexByte s.data.toList c.toNat.toUInt8)),List.replicate 2 none)
 x2 : ∀s c,C.X 118 [.sv (.str s),.sv (.int .u8 c)]=some (.sv (.int .i64 (Lib.countByte s.data.toList c.toNat.toUInt8)),List.replicate 2 none)
 n1 : ∀ars,C.X 32 ars=none
 n2 : ∀ars,C.X 107 ars=none
 n3 : ∀ars,C.X 93 ars=none
 n4 : ∀ars,C.X 106 ars=none
 n5 : ∀ars,C.X 84 ars=none
 n6 : ∀ars,C.X 65 ars=none
theorem CB_str:StrCx CB:=⟨rfl,rfl,fun _ _=>rfl,fun _ _=>rfl,fun _=>rfl,fun _=>rfl,fun _=>rfl,fun _=>rfl,fun _=>rfl,fun _=>rfl⟩
theorem CX_str:StrCx CX:=⟨rfl,rfl,fun _ _=>rfl,fun _ _=>rfl,fun _=>rfl,fun _=>rfl,fun _=>rfl,fun _=>rfl,fun _=>rfl,fun _=>rfl⟩
section
variable {C:Cx}
theorem x_index (h:StrCx C) (s:ByteArray) (c:UInt8):Go.Ev.Fn C 47 [.str s,.int .u8 (c.toNat:Int)] (.int .i64 (Lib.indexByte s.data.toList c)):=by
 refine⟨1,List.replicate 2 none,?_⟩
 have:=h.x1 s (c.toNat:Int)
 rw[u8_back]at this
 show (match C.X _ _ with|some r=>some r|none=>_)=_
 rw[show ([SV.str s,SV.int .u8 (c.toNat:Int)].map Arg.sv)=[.sv (.str s),.sv (.int .u8 (c.toNat:Int))] from rfl,this]
theorem x_count (h:StrCx C) (s:ByteArray) (c:UInt8):Go.Ev.Fn C 118 [.str s,.int .u8 (c.toNat:Int)] (.int .i64 (Lib.countByte s.data.toList c)):=by
 refine⟨1,List.replicate 2 none,?_⟩
 have:=h.x2 s (c.toNat:Int)
 rw[u8_back]at this
 show (match C.X _ _ with|some r=>some r|none=>_)=_
 rw[show ([SV.str s,SV.int .u8 (c.toNat:Int)].map Arg.sv)=[.sv (.str s),.sv (.int .u8 (c.toNat:Int))] from rfl,this]
theorem lite_IndexByte (h:StrCx C) (s:ByteArray) (c:UInt8):Go.Ev.Fn C 32 [.str s,.int .u8 (c.toNat:Int)] (.int .i64 (Lib.indexByte s.data.toList c)):=by
 have hx:=x_index h s c
 obtain⟨P,X,mu,gd⟩:=C
 obtain⟨rfl,rfl,_,_,n1,n2,n3,n4,n5,n6⟩:=h
 refine Go.Ev.Fn.intro (fn:=Tryz.f32) (body:=(Tryz.f32).body.get!) (by kernel_rfl) (by kernel_rfl) (by kernel_rfl) n1 (Nat.le_of_ble_eq_true (by kernel_rfl)) ?_;unfold Tryz.f32;simp only[Option.get!_some]
 simp only[go_sem]
 refine vf_of (hx) ?_;simp only[go_sem]
theorem lite_Index (h:StrCx C) (l:List UInt8) (c:UInt8):Go.Ev.Fn C 107 [.str (bs l),.str (bs [c])] (.int .i64 (Lib.indexByte l c)):=by
 have hx:=lite_IndexByte h (bs l) c
 rw[bs_toList]at hx
 obtain⟨P,X,mu,gd⟩:=C
 obtain⟨rfl,rfl,_,_,n1,n2,n3,n4,n5,n6⟩:=h
 refine Go.Ev.Fn.intro (fn:=Tryz.f107) (body:=(Tryz.f107).body.get!) (by kernel_rfl) (by kernel_rfl) (by kernel_rfl) n2 (Nat.le_of_ble_eq_true (by kernel_rfl)) ?_;unfold Tryz.f107;simp only[Option.get!_some]
 by_cases he:[c]=l
 ·subst he
  have:Lib.indexByte [c] c=0:=by unfold Lib.indexByte;simp
  rw[this]
  repeat (first|simp only[go_sem,bs_size,bs_eq,BEq.rfl]|simp (disch:=first|exact oa|fail) only[AX,bs_size,bs_eq,BEq.rfl]|refine wki ?_|refine wqn ?_|refine vpx [] ?_)
 ·have he:([c]==l)=false:=by simpa using he
  repeat (first|simp only[go_sem,bs_size,vo_ix,idxB_bs,bs_eq,he]|simp (disch:=first|exact oa|fail) only[AX,bs_size,vo_ix,idxB_bs,bs_eq,he]|refine wki ?_|refine wqn ?_|refine vpx [] ?_|refine vf_of (by first|exact hx) ?_)
theorem str_Index (h:StrCx C) (l:List UInt8) (c:UInt8):Go.Ev.Fn C 93 [.str (bs l),.str (bs [c])] (.int .i64 (Lib.indexByte l c)):=by
 have hx:=lite_Index h l c
 obtain⟨P,X,mu,gd⟩:=C
 obtain⟨rfl,rfl,_,_,n1,n2,n3,n4,n5,n6⟩:=h
 refine Go.Ev.Fn.intro (fn:=Tryz.f93) (body:=(Tryz.f93).body.get!) (by kernel_rfl) (by kernel_rfl) (by kernel_rfl) n3 (Nat.le_of_ble_eq_true (by kernel_rfl)) ?_;unfold Tryz.f93;simp only[Option.get!_some]
 simp only[go_sem]
 refine vf_of (hx) ?_;simp only[go_sem]
theorem str_Count (h:StrCx C) (l:List UInt8) (c:UInt8):Go.Ev.Fn C 106 [.str (bs l),.str (bs [c])] (.int .i64 (l.count c)):=by
 have hx:=x_count h (bs l) c
 rw[bs_toList,show Lib.countByte l c=l.count c from rfl]at hx
 obtain⟨P,X,mu,gd⟩:=C
 obtain⟨rfl,rfl,_,_,n1,n2,n3,n4,n5,n6⟩:=h
 refine Go.Ev.Fn.intro (fn:=Tryz.f106) (body:=(Tryz.f106).body.get!) (by kernel_rfl) (by kernel_rfl) (by kernel_rfl) n4 (Nat.le_of_ble_eq_true (by kernel_rfl)) ?_;unfold Tryz.f106;simp only[Option.get!_some]
 repeat (first|simp only[go_sem,bs_size,vo_ix,idxB_bs]|simp (disch:=first|exact oa|fail) only[AX,bs_size,vo_ix,idxB_bs]|refine wki ?_|refine wqn ?_|refine vpx [] ?_)
 refine vf_of (hx) ?_;simp only[go_sem]
theorem lite_Cut (h:StrCx C) (l:List UInt8) (c:UInt8) (hl:l.length<=1099511627776):Go.Ev.Fn C 84 [.str (bs l),.str (bs [c])] (.tup [.str (bs (frontL c l)),.str (bs (backL c l)),.bool (l.contains c)]):=by
 have hx:=lite_Index h l c
 obtain⟨P,X,mu,gd⟩:=C
 obtain⟨rfl,rfl,_,_,n1,n2,n3,n4,n5,n6⟩:=h
 refine Go.Ev.Fn.intro (fn:=Tryz.f84) (body:=(Tryz.f84).body.get!) (by kernel_rfl) (by kernel_rfl) (by kernel_rfl) n5 (Nat.le_of_ble_eq_true (by kernel_rfl)) ?_;unfold Tryz.f84;simp only[Option.get!_some]
 rcases index_cases c l with⟨h1,h2,h3,h4⟩|⟨i,h1,h2,h3,h4,h5⟩
 ·rw[h2]at hx
  rw[h1,h3,h4]
  repeat (first|simp only[go_sem,bs_size]|simp (disch:=first|exact oa|fail) only[AX,bs_size]|refine wki ?_|refine wqn ?_|refine vpx [] ?_|refine vf_of (by first|exact hx) ?_)
  rfl
 ·rw[h2]at hx
  rw[h1,<- h4,<- h5]
  repeat (first|simp only[go_sem,bs_size,bs_extract]|simp (disch:=first|exact oa|fail) only[AX,bs_size,bs_extract]|refine wki ?_|refine wqn ?_|refine vpx [] ?_|refine vf_of (by first|exact hx) ?_)
  rw[List.take_of_length_le (by simp)]
theorem str_Cut (h:StrCx C) (l:List UInt8) (c:UInt8) (hl:l.length<=1099511627776):Go.Ev.Fn C 65 [.str (bs l),.str (bs [c])] (.tup [.str (bs (frontL c l)),.str (bs (backL c l)),.bool (l.contains c)]):=by
 have hx:=lite_Cut h l c hl
 obtain⟨P,X,mu,gd⟩:=C
 obtain⟨rfl,rfl,_,_,n1,n2,n3,n4,n5,n6⟩:=h
 refine Go.Ev.Fn.intro (fn:=Tryz.f65) (body:=(Tryz.f65).body.get!) (by kernel_rfl) (by kernel_rfl) (by kernel_rfl) n6 (Nat.le_of_ble_eq_true (by kernel_rfl)) ?_;unfold Tryz.f65;simp only[Option.get!_some]
 simp only[go_sem]
 refine vf_of (hx) ?_;simp only[go_sem]
end
end Go.Proofs.YtdahehdomajbgaaGreatDoor
namespace Go.Proofs.YtdahehdomajbgaaGreatDoor
open Go.Ev
theorem split_none {c:UInt8} {l:List UInt8} (h:l.contains c=false):splitB c l=[l]:=by
 induction l with
 |nil=>rfl
 |cons b l ih=>
  rw[List.contains_cons,Bool.or_eq_false_iff]at h
  have hb:(b==c)=false:=by
   have:=h.1
   simp only[beq_eq_false_iff_ne]at this ⊢
   exact fun e=>this e.symm
  unfold splitB
  rw[hb,ih h.2]
  rfl
theorem split_some {c:UInt8} {l:List UInt8} (h:l.contains c=true):splitB c l=frontL c l::splitB c (backL c l):=by
 induction l with
 |nil=>simp at h
 |cons b l ih=>
  by_cases hb:b=c
  ·subst hb
   rw[show frontL b (b::l)=[] by simp[frontL],show backL b (b::l)=l by simp[backL],splitB]
   simp
  ·have hb':(b==c)=false:=by simpa using hb
   have hn:(b != c)=true:=by simpa using hb
   have hcb:(c==b)=false:=by simpa using fun e:c=b=>hb e.symm
   rw[List.contains_cons,hcb,Bool.false_or]at h
   have hf:frontL c (b::l)=b::frontL c l:=by unfold frontL;rw[List.takeWhile_cons,hn];rfl
   have hk:backL c (b::l)=backL c l:=by unfold backL;rw[List.dropWhile_cons,hn];rfl
   rw[hf,hk,splitB,hb',ih h]
   rfl
theorem split_len (c:UInt8) (l:List UInt8):(splitB c l).length=l.count c+1:=by
 induction l with
 |nil=>rfl
 |cons b l ih=>
  unfold splitB
  rw[List.count_cons]
  cases h:b==c with
  |true=>simp[ih]
  |false=>
   simp only[Bool.false_eq_true,if_false,Nat.add_zero]
   cases hs:splitB c l with
   |nil=>rw[hs]at ih;simp at ih
   |cons x xs=>rw[hs]at ih;exact ih
theorem count_le {c:UInt8} {l:List UInt8}:l.count c<=l.length:=List.count_le_length
theorem back_len {c:UInt8} {l:List UInt8}:(backL c l).length<=l.length:=by
 unfold backL
 rw[List.length_tail]
 have:=(List.dropWhile_sublist (l:=l) (fun x=>x != c)).length_le
 omega
theorem gen_row (l:List UInt8) (c:UInt8) (hl:l.length<=1048576) :
  ∃n,rowN CB.P CB.X CB.mu CB.good n 83 ([.str (bs l),.str (bs [c]),.int .i64 0,.int .i64 (-1)].map Arg.sv)=some (.row ((splitB c l).map strC) 1 0 (splitB c l).length,List.replicate 4 none):=by
 have hc:=str_Count CB_str l c
 have hlen:=split_len c l
 have hcl:=count_le (c:=c) (l:=l)
 refine row_intro (fn:=Tryz.f83) (body:=(Tryz.f83).body.get!) (by kernel_rfl) (by kernel_rfl) (by kernel_rfl) (Nat.le_of_ble_eq_true (by kernel_rfl)) ?_
 unfold Tryz.f83
 simp only[Option.get!_some]
 generalize hm:l.count c=m at *
 repeat (first|simp only[go_sem,bs_size,bs_list,mk_bs,beq_nil]|simp (disch:=first|exact oa|fail) only[AX,bs_size,bs_list,mk_bs,beq_nil]|refine wki ?_|refine wqn ?_|refine vpx [] ?_|refine vf_of (by first|exact hc) ?_)
 refine vp_loop_inv (fun s=>s.tmp 1 = .sv (.str (bs [c]))/\s.tmp 2 = .sv (.int .i64 0)/\s.tmp 3 = .sv (.int .i64 (m:Int))/\s.tmp 9 = .ref 31 0 1 0 (m+1) /\
   ∃ (i:Nat) (r:List UInt8) (cs:List SV),s.tmp 10 = .sv (.int .i64 (i:Int))/\s.tmp 0 = .sv (.str (bs r))/\s.obj 31 0=some cs/\i<=m/\r.length<=l.length/\splitB c r=(splitB c l).drop i/\cs.length=m+1/\cs.take i=((splitB c l).take i).map strC)
  (fun s=>match s.tmp 10 with | .sv (.int _ i)=>m-i.toNat|_=>0) ?_ ?_
 ·refine⟨rfl,rfl,rfl,rfl,0,l,_,rfl,rfl,rfl,by omega,by omega,rfl,by simp,rfl⟩
 rintro s2 ⟨i1,i2,i3,i9,i,r,cs,i10,i0,iO,hi,hr,hs,hcs,ht⟩
 by_cases hend:i=m
 ·subst hend
  have h1:(splitB c r).length=1:=by rw[hs,List.length_drop,hlen];omega
  have hnc:r.contains c=false:=by
   cases hb:r.contains c with
   |false=>rfl
   |true=>
    rw[split_some hb]at h1
    have:=split_len c (backL c r)
    simp at h1
    rw[h1]at this
    simp at this
  have hl1:(splitB c l).drop i=[r]:=by rw[<- hs,split_none hnc]
  have hall:cs.take i++[strC r]++cs.drop (i+1)=(splitB c l).map strC:=by
   rw[ht,List.drop_of_length_le (by omega),List.append_nil]
   have:=List.take_append_drop i (splitB c l)
   rw[hl1]at this
   have e:=congrArg (List.map strC) this
   rw[List.map_append]at e
   exact e
  unfold strC at hall
  repeat (first|simp only[go_sem,i1,i2,i3,i9,i10,i0,iO,bs_size,hcs,hall,hlen]|simp (disch:=first|exact oa|fail) only[AX,i1,i2,i3,i9,i10,i0,iO,bs_size,hcs,hall,hlen]|refine wki ?_|refine wqn ?_|refine vpx [] ?_)
  rfl
 ·have hlt:i<m:=by omega
  have h1:(splitB c r).length=m+1-i:=by rw[hs,List.length_drop,hlen]
  have hct:r.contains c=true:=by
   cases hb:r.contains c with
   |true=>rfl
   |false=>
    rw[split_none hb]at h1
    simp at h1
    omega
  have hix:=str_Index CB_str r c
  rcases index_cases c r with⟨h2,_⟩|⟨k,_,h3,h4,h5,h6⟩
  ·rw[hct]at h2;cases h2
  rw[h3]at hix
  rw[split_some hct]at hs
  have hd:(splitB c l).drop (i+1)=splitB c (backL c r):=by
   rw[<- List.drop_drop,<- hs]
   rfl
  have hg:(splitB c l)[i]?=some (frontL c r):=by
   have:=congrArg (fun x=>x[0]?) hs
   simpa using this.symm
  have hn:cs.take i++[SV.str (bs (frontL c r))]++cs.drop (i+1)=cs.set i (.str (bs (frontL c r))):=by
   rw[List.set_eq_take_append_cons_drop,if_pos (by omega)]
   simp
  have hbl:=back_len (c:=c) (l:=r)
  repeat (first|simp only[go_sem,i1,i2,i3,i9,i10,i0,iO,bs_size,hcs,bs_list,mk_bs,Int.add_zero,Int.toNat_natCast,bs_extract,List.drop_zero,Nat.sub_zero,h5,h6,hn]|simp (disch:=first|exact oa|fail) only[AX,i1,i2,i3,i9,i10,i0,iO,bs_size,hcs,bs_list,mk_bs,Int.add_zero,Int.toNat_natCast,bs_extract,List.drop_zero,Nat.sub_zero,h5,h6,hn]|refine wki ?_|refine wqn ?_|refine vpx [] ?_|refine vf_of (by first|exact hix) ?_)
  refine⟨⟨i+1,backL c r,cs.set i (.str (bs (frontL c r))),rfl,?_,rfl,by omega,by omega,hd.symm,by rw[List.length_set];exact hcs,?_⟩,by omega⟩
  ·rw[<- h6]
   congr 3
   rw[List.take_of_length_le (by rw[List.length_drop];omega)]
  ·rw[List.take_add_one,List.take_add_one,List.map_append,List.take_set_of_le (Nat.le_refl _),ht,List.getElem?_set_self (by omega),hg]
   rfl
theorem xT_ok {G:List (Nat×Value)} (hS:CallOk Tryz.prog G xS):CallOk Tryz.prog G xT:=by
 refine tab_row_ok (mu:=CB.mu) (good:=good) (tabOk_of hS xS_none) good_ok xT fun g args r exps hx => ?_
 unfold xT at hx
 split at hx
 ·rename_i hg
  have hg:g=83:=Nat.eq_of_beq_eq_true hg
  subst hg
  unfold xGenSplit at hx
  split at hx
  ·rename_i s sep
   split at hx
   ·rename_i c hc
    split at hx
    ·rename_i hl
     cases hx
     have e1:s=bs s.data.toList:=rfl
     have e2:sep=bs [c]:=by rw[<- hc];rfl
     rw[e2]
     have hl':s.data.toList.length<=1048576:=by rw[<- bs_size];exact hl
     exact .inr (.inl (gen_row s.data.toList c hl'))
    ·cases hx
   ·cases hx
  ·cases hx
 ·exact .inl hx
theorem split_row (l:List UInt8) (c:UInt8) (hl:l.length<=1048576) :
  ∃n,rowN CZ.P CZ.X CZ.mu CZ.good n 64 ([.str (bs l),.str (bs [c])].map Arg.sv)=some (.row ((splitB c l).map strC) 1 0 (splitB c l).length,List.replicate 2 none):=by
 refine row_intro (fn:=Tryz.f64) (body:=(Tryz.f64).body.get!) (by kernel_rfl) (by kernel_rfl) (by kernel_rfl) (Nat.le_of_ble_eq_true (by kernel_rfl)) ?_
 unfold Tryz.f64
 simp only[Option.get!_some]
 have hg:FnR CZ 83 [.str (bs l),.str (bs [c]),.int .i64 0,.int .i64 (-1)] ((splitB c l).map strC) 1 0 (splitB c l).length:=by
  refine⟨1,List.replicate 4 none,?_⟩
  have h:xT 83 [.sv (.str (bs l)),.sv (.str (bs [c])),.sv (.int .i64 0),.sv (.int .i64 (-1))]=some (.row ((splitB c l).map strC) 1 0 (splitB c l).length,List.replicate 4 none):=by
   unfold xT
   rw[if_pos (by rfl)]
   unfold xGenSplit
   simp only[bs_toList]
   rw[if_pos (by rw[bs_size];exact hl)]
  unfold callN
  have h4:CZ.X 83 ([SV.str (bs l),.str (bs [c]),.int .i64 0,.int .i64 (-1)].map Arg.sv)=some (.row ((splitB c l).map strC) 1 0 (splitB c l).length,List.replicate 4 none):=h
  rw[stq_sv,h4]
 simp only[go_sem]
 refine vf_row hg ?_
 simp only[go_sem]
end Go.Proofs.YtdahehdomajbgaaGreatDoor
namespace Go.Proofs.YtdahehdomajbgaaGreatDoor
open Go.Ev
theorem clone_ok {G:List (Nat×Value)} (hG:GMet G):CallOk Tryz.prog G CZ.X:=xT_ok (xS_ok hG)
theorem cz_none (f:FuncId) (k:Bool) (st:St) (vs:List TV):CZ.X f [.st k st vs]=none:=by
 show xT f [.st k st vs]=none
 unfold xT
 split
 ·rfl
 exact xS_none f k st vs
end Go.Proofs.YtdahehdomajbgaaGreatDoor
namespace Go.Proofs.YtdahehdomajbgaaGreatDoor
open Go.Ev
noncomputable def xO:Callf:=fun g args=>if Nat.beq g 25 then xOver args else none
noncomputable def CO:Cx:={ P:=Tryz.prog,X:=xO,mu:=muF,good:=good }
theorem CO_P:CO.P=Tryz.prog:=_root_.id rfl
theorem CO_mu (f:Nat):CO.mu f=muF f:=_root_.id rfl
attribute [go_sem] CO_P CO_mu
theorem xO_ok {G:List (Nat×Value)}:TabOk Tryz.prog G xO where
 ok:=fun g args r exps h=>by
  unfold xO at h
  split at h
  ·unfold xOver at h
   split at h
   ·intro w F B vals _ _ _ hrep _
    exact(hrep 0 _ rfl).elim
   ·cases h
  ·cases h
 inn:=fun g k st vs r exps h=>by
  unfold xO at h
  split at h
  ·rename_i hg
   rw[show g=25 from Nat.eq_of_beq_eq_true hg]
   refine fun w0 F I Z N β a w vals _=>over_in (fn:=Tryz.f25) (tS:=38) (tR:=4) (e:=46) (size:=40) (by kernel_rfl) (by kernel_rfl) (by kernel_rfl) (by kernel_rfl) (by kernel_rfl) (by kernel_rfl) h w0 F I Z N β a w vals
  ·cases h
 look:=fun f st vs=>by
  unfold xO
  split
  ·rfl
  ·rfl
 eqv:=fun g b s vs r e h l=>by
  unfold xO at h
  split at h
  ·rename_i hg
   obtain⟨m,hm⟩:=over_eqv h l
   exact⟨m,fun v=>(if_pos hg).trans (hm v)⟩
  ·cases h
section
variable {st:St} {d g d2 g2 n i c m:Nat} {cs l:List SV} {b:ByteArray}
theorem over_call {ops:Array Oper} {lo:List Oper} {dst:Option Nat} {Q:St->Prop} {s:St} {off:Nat} (h1:(s.obj d2 g2).isSome=true) (h2:(s.obj d g).isSome=true) (hne : ¬(d2=d/\g2=g)) (hc:0<c)
  (k:WO CO false ops lo (s.putO dst (.sv (.bool false))) Q):WN CO ops lo dst s Q 25 [.ref d2 g2 2 0 1,.rfc d g 2 off n c]:=by
 refine wn_by (st':=s) (r := .sv (.bool false)) (e:=[]) ?_ k
 show (if Nat.beq 25 25 then xOver [.st false s [.ref d2 g2 2 0 1,.rfc d g 2 off n c]] else none)=_
 rw[if_pos (show Nat.beq 25 25=true from rfl)]
 show (if (s.obj d2 g2).isSome=true/\(s.obj d g).isSome=true /\ ¬(d2=d/\g2=g)/\0<c then _ else _)=_
 rw[if_pos ⟨h1,h2,hne,hc⟩]
theorem lay_new {α:Type} {a z t:List α} {x y:α} {k k2 k3:Nat} (ha:a.length=k) (hz:z.length=t.length+2) (h2:k2=k+2) (h3:k3=k+2+t.length) :
  List.take k2 (List.take k (a++z)++[x,y]++List.drop (k+2) (a++z))++t++List.drop k3 (List.take k (a++z)++[x,y]++List.drop (k+2) (a++z))=a++[x,y]++t:=by
 subst ha h2 h3
 have e1:List.take a.length (a++z)=a:=List.take_left
 have e2:List.drop (a.length+2) (a++z)=z.drop 2:=by rw[<- List.drop_drop,List.drop_left]
 rw[e1,e2]
 have e3:(a++[x,y]).length=a.length+2:=by simp
 have e4:List.take (a.length+2) (a++[x,y]++List.drop 2 z)=a++[x,y]:=by rw[<- e3,List.take_left]
 have e5:List.drop (a.length+2+t.length) (a++[x,y]++List.drop 2 z)=[]:=List.drop_of_length_le (by simp;omega)
 rw[e4,e5,List.append_nil]
theorem lay_here {α:Type} {cs:List α} {x y:α} {k k2:Nat} (hk:k+2<=cs.length) (h2:k2=k+2) :
  List.take k (List.take k2 cs++List.drop k cs)++[x,y]++List.drop (k+2) (List.take k2 cs++List.drop k cs)=List.take k cs++[x,y]++List.drop k cs:=by
 subst h2
 have e0:(List.take (k+2) cs).length=k+2:=by rw[List.length_take];omega
 have e1:List.take k (List.take (k+2) cs++List.drop k cs)=List.take k cs:=by
  rw[List.take_append_of_le_length (by omega),List.take_take,Nat.min_eq_left (by omega)]
 have e2:List.drop (k+2) (List.take (k+2) cs++List.drop k cs)=List.drop k cs:=by
  have:=List.drop_left (l₁:=List.take (k+2) cs) (l₂:=List.drop k cs)
  rwa [e0]at this
 rw[e1,e2]
theorem ins_walk (hd:d<N0) (hne : ¬(d2=d/\g2=g)) (hg:g<st.gen d) (hg2:g2<st.gen d2) (ho:st.obj d g=some cs) (ho2:st.obj d2 g2=some [.str b,.sl m l]) (hl:cs.length=n*2) (h1:oneAll cs=true) (hi:i<=n) (hn:n<=100000) (hc:n<=c) :
  ∃k s t,callN CO.P CO.X CO.mu CO.good k 13 [.st false st [.rfc d g 2 0 n c,.sv (.int .i64 (i:Int)),.ref d2 g2 2 0 1]]=some (.st s t,[]) /\
   InsLeaves st d g (n+1) (cs.take (i*2)++[.str b,.sl m l]++cs.drop (i*2)) s t:=by
 refine call_rz (fn:=Tryz.f13) (body:=(Tryz.f13).body.get!) (by kernel_rfl) (by kernel_rfl) (by kernel_rfl) (Nat.le_of_ble_eq_true (by kernel_rfl)) ?_
 unfold Tryz.f13
 simp only[Option.get!_some]
 have hd':d<1000000:=hd
 have hne' : ¬(d=d2/\g=g2):=fun e=>hne ⟨e.1.symm,e.2.symm⟩
 by_cases hin:i=n
 ·subst hin
  by_cases h0:i=0
  ·subst h0
   have:cs=[]:=List.eq_nil_of_length_eq_zero hl
   subst this
   by_cases hcap:0+1<=c
   ·repeat (first|simp only[go_sem,ho,ho2,N0,Nat.zero_le,true_or]|simp (disch:=first|exact oa|fail) only[AX,ho,ho2,N0,Nat.zero_le,true_or]|refine wki ?_|refine wqn ?_)
    refine leaves_here (vs:=[.rfc d g 2 0 0 c,.sv (.int .i64 ((0:Nat):Int)),.ref d2 g2 2 0 1]) [.str b,.sl m l] rfl (fun u => ?_) (fun d' g' => ?_) (fun d' g' => ?_) (fun d' => ?_) (fun _ _ h=>h)
    ·simp only[up_put,up_set]
    ·simp only[hob_put,hob_set,hob_enter]
    ·simp only[obj_put,obj_set,obj_enter]
     rfl
    ·simp only[gen_put,gen_set,gen_enter]
   ·repeat (first|simp only[go_sem,ho,ho2,N0,Nat.zero_le,true_or]|simp (disch:=first|exact oa|fail) only[AX,ho,ho2,N0,Nat.zero_le,true_or]|refine wki ?_|refine wqn ?_)
    refine leaves_new (vs:=[.rfc d g 2 0 0 c,.sv (.int .i64 ((0:Nat):Int)),.ref d2 g2 2 0 1]) 25 rfl (by decide) (fun u => ?_) (fun d' g' => ?_) (fun d' g' => ?_) (fun d' => ?_)
    ·simp only[up_put,up_new]
    ·simp only[hob_put,hob_new,hob_enter]
    ·simp only[obj_put,obj_new,obj_enter,gen_put,gen_enter]
    ·simp only[gen_put,gen_new,gen_enter]
  ·have ec:cs.take (i*2)=cs:=List.take_of_length_le (by omega)
   have ed:cs.drop (i*2)=[]:=List.drop_of_length_le (by omega)
   by_cases hcap:i+1<=c
   ·repeat (first|simp only[go_sem,ho,ho2,hl,N0]|simp (disch:=first|exact oa|fail) only[AX,ho,ho2,hl,N0]|refine wki ?_|refine wqn ?_)
    refine leaves_here (vs:=[.rfc d g 2 0 i c,.sv (.int .i64 (i:Int)),.ref d2 g2 2 0 1]) _ rfl (fun u => ?_) (fun d' g' => ?_) (fun d' g' => ?_) (fun d' => ?_) (fun _ _ h=>h)
    ·simp only[up_put,up_set]
    ·simp only[hob_put,hob_set,hob_enter]
    ·simp only[obj_put,obj_set,obj_enter]
     rw[show cs.drop (i*2+2)=[] from List.drop_of_length_le (by omega),ed]
    ·simp only[gen_put,gen_set,gen_enter]
   ·repeat (first|simp only[go_sem,ho,ho2,hl,N0]|simp (disch:=first|exact oa|fail) only[AX,ho,ho2,hl,N0]|refine wki ?_|refine wqn ?_)
    refine leaves_new (vs:=[.rfc d g 2 0 i c,.sv (.int .i64 (i:Int)),.ref d2 g2 2 0 1]) 25 rfl (by decide) (fun u => ?_) (fun d' g' => ?_) (fun d' g' => ?_) (fun d' => ?_)
    ·simp only[up_put,up_new]
    ·simp only[hob_put,hob_new,hob_enter]
    ·simp only[obj_put,obj_new,obj_enter,gen_put,gen_enter,ed,List.append_nil]
    ·simp only[gen_put,gen_new,gen_enter]
 ·obtain⟨r,rfl⟩ : ∃r,n=i+r:=⟨n-i,by omega⟩
  have hr:0<r:=by omega
  have hA:i+r+1-(i+1)=r:=by omega
  have hB:i+r+1-i=r+1:=by omega
  have hC:i+(r+1)-i=r+1:=by omega
  have hD:i+r-i=r:=by omega
  have hl2:(cs.drop (i*2)).length=r*2:=by rw[List.length_drop];omega
  have hT:List.take (r*2) (List.take ((r+1)*2) (cs.drop (i*2)))=cs.drop (i*2):=by
   rw[List.take_take,Nat.min_eq_left (by omega),List.take_of_length_le (by omega)]
  have hT2:List.take (r*2) (cs.drop (i*2))=cs.drop (i*2):=List.take_of_length_le (by omega)
  have hall:(cs.drop (i*2)).all SV.one=true:=by
   rw[List.all_eq_true]
   unfold oneAll at h1
   rw[List.all_eq_true]at h1
   exact fun x hx=>h1 x (List.mem_of_mem_drop hx)
  by_cases hcap:i+r+1<=c
  ·have hE:List.drop ((i+1)*2+r*2) cs=[]:=List.drop_of_length_le (by omega)
   have hM:min (r+1) 1=1:=by omega
   repeat (first|simp only[go_sem,ho,ho2,hl,N0]|simp (disch:=first|exact oa|fail) only[AX,ho,ho2,hl,N0]|refine wki ?_|refine wqn ?_)
   refine over_call (by simp only[obj_put,obj_enter,ho2];rfl) (by simp only[obj_put,obj_enter,ho];rfl) hne (by omega) ?_
   repeat (first|simp only[go_sem,ho,ho2,hl,N0,hne,hne',Bool.not_false,hA,hB,hT,hl2,hall,hE,hM]|simp (disch:=first|exact oa|fail) only[AX,ho,ho2,hl,N0,hne,hne',Bool.not_false,hA,hB,hT,hl2,hall,hE,hM]|refine wki ?_|refine wqn ?_|refine vpd 11 [] ?_|refine vpd 15 [] ?_)
   refine leaves_here (vs:=[.rfc d g 2 0 (i+r) c,.sv (.int .i64 (i:Int)),.ref d2 g2 2 0 1]) (List.take (i*2) cs++[SV.str b,SV.sl m l]++List.drop (i*2) cs) rfl (fun u => ?_) (fun d' g' => ?_) (fun d' g' => ?_) (fun d' => ?_) (fun _ _ h=>h)
   ·simp only[up_put,up_set]
   ·simp only[hob_put,hob_set,hob_enter]
   ·simp only[obj_put,obj_set,obj_enter]
    rw[lay_here (by omega) (by omega)]
    split
    ·rfl
    ·rfl
   ·simp only[gen_put,gen_set,gen_enter]
  ·repeat (first|simp only[go_sem,ho,ho2,hl,N0,Nat.zero_le,true_or]|simp (disch:=first|exact oa|fail) only[AX,ho,ho2,hl,N0,Nat.zero_le,true_or]|refine wki ?_|refine wqn ?_)
   rw[vo_appendZ (by decide)]
   repeat (first|simp only[go_sem,ho,ho2,hl,N0,hA,hB,hC]|simp (disch:=first|exact oa|fail) only[AX,ho,ho2,hl,N0,hA,hB,hC]|refine wki ?_|refine wqn ?_)
   generalize hz:(List.replicate (r+1) [SV.str { data:={ toList:=[] } },SV.sl 0 []]).flatten=z
   have hzl:z.length=(r+1)*2:=by rw[<- hz];simp
   have hn1 : ¬(d2=40/\g2=st.gen 40):=fun e=>by obtain⟨rfl,e2⟩:=e;omega
   have hn2 : ¬(d=40/\g=st.gen 40):=fun e=>by obtain⟨rfl,e2⟩:=e;omega
   repeat (first|simp only[go_sem,ho,ho2,hl,N0,hn1,hn2,hA,hB,hC,hD,hzl,hT2,hl2,hall]|simp (disch:=first|exact oa|fail) only[AX,ho,ho2,hl,N0,hn1,hn2,hA,hB,hC,hD,hzl,hT2,hl2,hall]|refine wki ?_|refine wqn ?_|refine vpd 11 [] ?_|refine vpd 15 [] ?_)
   have hfin:i+(r+1)=i+r+1:=by omega
   refine leaves_new (vs:=[.rfc d g 2 0 (i+r) c,.sv (.int .i64 (i:Int)),.ref d2 g2 2 0 1]) 40 rfl (by decide) (fun u => ?_) (fun d' g' => ?_) (fun d' g' => ?_) (fun d' => ?_)
   ·simp only[up_put,up_set,up_new]
   ·simp only[hob_put,hob_set,hob_new,hob_enter]
   ·simp only[obj_put,obj_set,obj_new,obj_enter,gen_put,gen_enter]
    rw[lay_new (by rw[List.length_take];omega) (by omega) (by omega) (by omega)]
    split
    ·rfl
    ·rfl
   ·simp only[gen_put,gen_set,gen_new,gen_enter]
theorem ins_in {k:Bool} {st:St} {vs:List TV} {r:Ret} {exps:List (Option (List SV))} (h:xIns [.st k st vs]=some (r,exps))
  (w0:World) (F I:Nat->Prop) (Z:Zy) (N:Nat) (β:Nat->Nat->Nat) (a:Act) (w:World) (vals:Array Value) (hrel:Rel w0 F I Z N β st a w) (hsz:vals.size=vs.length)
  (hv : ∀ (i:Nat) (v:TV),vs[i]?=some v->RepT β w (Mut F β st) (vals.getD i undef) v /\ ∀d g,v.id=some (d,g)->g<st.gen d) :
  Invk Tryz.prog 13 vals w fun e w' => ∃v,e = .returned v/\InRet w0 F I Z N st a w' k v r:=by
 unfold xIns at h
 split at h
 ·rename_i st1 d g n i d2 g2 hargs
  cases hargs
  split at h
  ·rename_i cs b m l ho ho2
   split at h
   ·rename_i hc
    cases h
    obtain⟨hd,hne,hl,h1,hi0,hi,hn⟩:=hc
    have hi2:i=((i.toNat:Nat):Int):=by omega
    have hg:=(hv 0 _ rfl).2 d g rfl
    have hg2:=(hv 2 _ rfl).2 d2 g2 rfl
    refine leaves_in (C:=CO) (G:=Z.gl) rfl xO_ok good_ok (cs0:=cs) hd ho (fun c hc => ?_) hrel hsz hv
    have:=ins_walk hd hne hg hg2 ho ho2 hl h1 hi hn hc
    rw[<- hi2]at this
    exact this
   ·cases h
  ·cases h
 ·cases h
end
end Go.Proofs.YtdahehdomajbgaaGreatDoor
namespace Go.Proofs.YtdahehdomajbgaaGreatDoor
open Go.Ev
theorem or_low {h k m:Nat} (hh:h<2^k):h |||2^k*m=h+2^k*m:=by
 rw[Nat.or_comm,<- Nat.two_pow_add_eq_or_of_lt hh,Nat.add_comm]
theorem mod_shift {v k:Nat} (hk:k<32):v*2^k%4294967296=2^k*(v%2^(32-k)):=by
 rw[Nat.mul_comm v,show 4294967296=2^k*2^(32-k) by rw[<- Nat.pow_add,show k+(32-k)=32 by omega],Nat.mul_mod_mul_left]
theorem getD_set_self {xs:List Nat} {i v:Nat} (h:i<xs.length):(xs.set i v).getD i 0=v:=by
 simp[List.getD_eq_getElem?_getD,h]
theorem getD_set_ne' {xs:List Nat} {i j v:Nat} (h:j≠i):(xs.set i v).getD j 0=xs.getD j 0:=by
 rw[List.getD_eq_getElem?_getD,List.getD_eq_getElem?_getD,List.getElem?_set_ne (fun e=>h e.symm)]
theorem left_row (xs:List Nat) (k n:Nat) (hx:okL xs) (hl:xs.length<=1073741824) (hk:k<32) (hn:xs.length<=n) (hn':n<=xs.length+1) :
  ∃m,rowN CZ.P CZ.X CZ.mu CZ.good m 101 ([natV xs,.int .u64 k,.int .i64 n].map Arg.sv)=some (.row ((limN n (wth xs*2^k)).map limb) 1 0 n,[none,none,none]):=by
 refine row_intro (fn:=Tryz.f101) (body:=(Tryz.f101).body.get!) (by kernel_rfl) (by kernel_rfl) (by kernel_rfl) (Nat.le_of_ble_eq_true (by kernel_rfl)) ?_
 unfold Tryz.f101
 simp only[Option.get!_some]
 repeat (first|simp only[go_sem]|simp (disch:=first|exact oa|fail) only[AX]|refine wki ?_|refine wqn ?_)
 have hD1:2^k<=2^31:=Nat.pow_le_pow_right (by omega) (by omega)
 refine vp_loop_inv (fun s'=>s'.tmp 1 = .sv (.int .u64 k)/\s'.tmp 2 = .sv (.int .i64 n)/\s'.tmp 7 = .ref 12 0 1 0 n/\s'.tmp 13 = .sv (natV xs)/\s'.tmp 14 = .sv (.int .i64 xs.length) /\
   ∃c:List Nat,∃i h:Nat,s'.obj 12 0=some (c.map limb)/\s'.tmp 15 = .sv (.int .i64 i)/\c.length=n/\okL c/\i<=xs.length/\h<2^k/\wth (xs.take i)*2^k=wth (c.take i)+4294967296^i*h /\
    (i<n->c.getD i 0=h) /\ ∀j,i<j->c.getD j 0=0)
  (fun s=>match s.tmp 15 with | .sv (.int _ i)=>xs.length-i.toNat|_=>0) ?_ ?_
 ·refine⟨rfl,rfl,rfl,rfl,rfl,List.replicate n 0,0,0,rfl,rfl,List.length_replicate ..,okL_replicate _,by omega,Nat.pow_pos (by omega),by simp[wth],fun _ => ?_,fun j _ => ?_⟩ <;>
  ·simp only[List.getD_eq_getElem?_getD,List.getElem?_replicate]
   split<;>rfl
 rintro s' ⟨i1,i2,i7,i13,i14,c,i,h,iO,i15,hc,hok,hi,hh,hv,hci,hz⟩
 by_cases hend:i=xs.length
 ·subst hend
  have e:c=limN n (wth xs*2^k):=by
   refine limN_unique hok hc ?_
   rw[List.take_of_length_le (Nat.le_refl _)]at hv
   rcases Nat.lt_or_ge xs.length n with h1|h1
   ·have e1:wth c=wth (c.take (xs.length+1)):=by rw[List.take_of_length_le (by omega)]
    rw[wth_take_succ,hci h1,<- hv]at e1
    have:=wth_lt hok
    rw[hc]at this
    rw[Nat.mod_eq_of_lt (by omega),e1]
   ·have hn2:n=xs.length:=by omega
    subst hn2
    rw[hv,List.take_of_length_le (by omega),Nat.add_mul_mod_self_left]
    have:=wth_lt hok
    rw[hc]at this
    rw[Nat.mod_eq_of_lt this]
  repeat (first|simp only[go_sem,i1,i2,i7,i13,i14,iO,i15]|simp (disch:=first|exact oa|fail) only[AX,i1,i2,i7,i13,i14,iO,i15]|refine wki ?_|refine wqn ?_|refine vpx [] ?_)
  rw[e]
 ·have h1:=getD_lt hx i
  have hin:i<n:=by omega
  have hci:=hci hin
  generalize hvv:xs.getD i 0=v at *
  have hw1:v*2^k<18446744073709551616:=by
   have:v*2^k<=4294967295*2^31:=Nat.mul_le_mul (by omega) hD1
   omega
  have hwq:v*2^k/4294967296<2^k:=by
   rw[Nat.div_lt_iff_lt_mul (by omega),Nat.mul_comm (2^k)]
   exact Nat.mul_lt_mul_of_pos_right h1 (Nat.pow_pos (by omega))
  have hor:h |||v*2^k%4294967296=h+v*2^k%4294967296:=by
   rw[mod_shift hk];exact or_low hh
  have hsum:h+v*2^k%4294967296<4294967296:=by
   rw[mod_shift hk]
   have e1:v%2^(32-k)+1<=2^(32-k):=Nat.mod_lt _ (Nat.pow_pos (by omega))
   have e2:2^k*(v%2^(32-k)+1)<=2^k*2^(32-k):=Nat.mul_le_mul_left _ e1
   rw[<- Nat.pow_add,show k+(32-k)=32 by omega,Nat.mul_add,Nat.mul_one]at e2
   omega
  have hval:wth (xs.take (i+1))*2^k=(wth (c.take i)+4294967296^i*(h+v*2^k%4294967296))+4294967296^(i+1)*(v*2^k/4294967296):=by
   rw[wth_take_succ,hvv,Nat.add_mul,hv,Nat.mul_add,Nat.pow_succ,Nat.mul_assoc (4294967296^i) 4294967296,Nat.mul_assoc (4294967296^i) v]
   have:=Nat.mod_add_div (v*2^k) 4294967296
   have e3:4294967296^i*(v*2^k)=4294967296^i*(v*2^k%4294967296)+4294967296^i*(4294967296*(v*2^k/4294967296)):=by
    rw[<- Nat.mul_add,this]
   omega
  generalize hD:2^k=D at *
  generalize hW:v*D=w at *
  by_cases hin2:i+1<n
  ·repeat (first|simp only[go_sem,i1,i2,i7,i13,i14,iO,i15,hci,hvv,hD,hW,hor]|simp (disch:=first|exact oa|fail) only[AX,i1,i2,i7,i13,i14,iO,i15,hci,hvv,hD,hW,hor]|refine wki ?_|refine wqn ?_|refine vpx [] ?_)
   refine⟨⟨(c.set i (h+w%4294967296)).set (i+1) (w/4294967296),i+1,w/4294967296,rfl,rfl,by rw[List.length_set,List.length_set];exact hc,okL_set (okL_set hok _ _ hsum) _ _ (by omega),by omega,hwq,?_,fun _=>getD_set_self (by rw[List.length_set];omega),fun j hj => ?_⟩,by omega⟩
   ·rw[List.take_set_of_le (Nat.le_refl _),wth_set_take (by omega),hval]
   ·rw[getD_set_ne' (by omega),getD_set_ne' (by omega)]
    exact hz j (by omega)
  ·repeat (first|simp only[go_sem,i1,i2,i7,i13,i14,iO,i15,hci,hvv,hD,hW,hor]|simp (disch:=first|exact oa|fail) only[AX,i1,i2,i7,i13,i14,iO,i15,hci,hvv,hD,hW,hor]|refine wki ?_|refine wqn ?_|refine vpx [] ?_)
   refine⟨⟨c.set i (h+w%4294967296),i+1,w/4294967296,rfl,rfl,by rw[List.length_set];exact hc,okL_set hok _ _ hsum,by omega,hwq,?_,fun hlt=>absurd hlt hin2,fun j hj => ?_⟩,by omega⟩
   ·rw[wth_set_take (by omega),hval]
   ·rw[getD_set_ne' (by omega)]
    exact hz j (by omega)
theorem XL_row {G:List (Nat×Value)} (hG:GMet G):CallOk Tryz.prog G CX.X:=by
 refine tab_row_ok (mu:=CZ.mu) (good:=good) (tabOk_of (clone_ok hG) cz_none) good_ok XL fun g args r exps hx => ?_
 unfold XL at hx
 split at hx
 ·rename_i hg
  have hg:g=101:=Nat.eq_of_beq_eq_true hg
  subst hg
  split at hx
  ·rename_i s k n
   split at hx
   ·rename_i xs hd
    split at hx
    ·rename_i hc
     obtain⟨rfl,h1,h2⟩:=decV_some hd
     cases hx
     exact .inr (.inl (left_row xs k n h1 h2 hc.1 hc.2.1 hc.2.2))
    ·cases hx
   ·cases hx
  ·cases hx
 split at hx
 ·rename_i hg
  have hg:g=64:=Nat.eq_of_beq_eq_true hg
  subst hg
  unfold xSplit at hx
  split at hx
  ·rename_i s sep
   split at hx
   ·rename_i c hc
    split at hx
    ·rename_i hl
     cases hx
     have e2:sep=bs [c]:=by rw[<- hc];rfl
     rw[e2]
     have hl':s.data.toList.length<=1048576:=by rw[<- bs_size];exact hl
     exact .inr (.inl (split_row s.data.toList c hl'))
    ·cases hx
   ·cases hx
  ·cases hx
 split at hx
 ·unfold xIns at hx
  split at hx
  ·exact .inr (.inr ⟨_,_,_,rfl⟩)
  ·cases hx
 exact .inl hx
theorem XL_ok {G:List (Nat×Value)} (hG:GMet G):TabOk Tryz.prog G CX.X where
 ok:=XL_row hG
 inn:=fun g k st vs r exps h=>by
  have h:XL g [.st k st vs]=some (r,exps):=h
  unfold XL at h
  split at h
  ·cases h
  split at h
  ·rw[show xSplit [.st k st vs]=none from rfl]at h;cases h
  split at h
  ·rename_i hg
   rw[show g=13 from Nat.eq_of_beq_eq_true hg]
   exact fun w0 F I Z N β a w vals _=>ins_in h w0 F I Z N β a w vals
  rw[cz_none]at h
  cases h
 look:=fun f st vs=>by
  show XL f [.st true st vs]=none
  unfold XL
  split
  ·rfl
  split
  ·rfl
  split
  ·rfl
  exact cz_none _ _ _ _
 eqv:=fun g b s vs r e h l=>by
  have h:XL g [.st b s vs]=some (r,e):=h
  show ∃m:TV->TV,∀v,XL g [.st b (s.upd l v) vs]=some (r.upd l (m v),e)
  unfold XL at h ⊢
  split at h
  ·cases h
  rename_i c1
  split at h
  ·rw[show xSplit [.st b s vs]=none from rfl]at h;cases h
  rename_i c2
  split at h
  ·rename_i hg
   obtain⟨m,hm⟩:=ins_eqv h l
   exact⟨m,fun v=>(if_neg c1).trans ((if_neg c2).trans ((if_pos hg).trans (hm v)))⟩
  rename_i c3
  rw[cz_none]at h
  cases h
theorem nat_left (xs:List Nat) (k n:Nat) (hx:okL xs) (hl:xs.length<=1073741824) (hk:k<32) (hn:xs.length<=n) (hn':n<=xs.length+1) :
  FnR CX 101 [natV xs,.int .u64 k,.int .i64 n] ((limN n (wth xs*2^k)).map limb) 1 0 n:=by
 refine⟨1,[none,none,none],?_⟩
 have h:XL 101 [.sv (natV xs),.sv (.int .u64 (.ofNat k)),.sv (.int .i64 (.ofNat n))]=some (.row ((limN n (wth xs*2^k)).map limb) 1 0 n,[none,none,none]):=by
  unfold XL
  rw[if_pos (by rfl)]
  simp only[decV_nat hx hl]
  rw[if_pos ⟨hk,hn,hn'⟩]
 unfold callN
 have h4:CX.X 101 ([natV xs,.int .u64 k,.int .i64 n].map Arg.sv)=some (.row ((limN n (wth xs*2^k)).map limb) 1 0 n,[none,none,none]):=h
 rw[stq_sv,h4]
end Go.Proofs.YtdahehdomajbgaaGreatDoor
namespace Go.Proofs.YtdahehdomajbgaaGreatDoor
open Go.Ev
def seg (c:List Nat) (i k:Nat):Nat:=wth ((c.drop i).take k)
theorem seg_zero (c:List Nat) (i:Nat):seg c i 0=0:=by simp[seg,wth]
theorem seg_succ (c:List Nat) (i k:Nat):seg c i (k+1)=seg c i k+4294967296^k*c.getD (i+k) 0:=by
 unfold seg
 rw[wth_take_succ]
 congr 2
 simp[List.getD_eq_getElem?_getD,List.getElem?_drop]
theorem seg_set_ge (c:List Nat) {i k j v:Nat} (h:i+k<=j):seg (c.set j v) i k=seg c i k:=by
 unfold seg
 congr 1
 refine List.ext_getElem? fun n => ?_
 rw[List.getElem?_take,List.getElem?_take]
 split
 ·rw[List.getElem?_drop,List.getElem?_drop,List.getElem?_set_ne (by omega)]
 ·rfl
theorem seg_lt {c:List Nat} (h:okL c) (i k:Nat):seg c i k<4294967296^k:=by
 unfold seg
 have h1:=wth_lt (okL_take (okL_drop h i) k)
 refine Nat.lt_of_lt_of_le h1 (Nat.pow_le_pow_right (by omega) ?_)
 rw[List.length_take]
 exact Nat.min_le_left _ _
theorem seg_set_self (c:List Nat) {i k v:Nat} (h:i+k<c.length):seg (c.set (i+k) v) i (k+1)=seg c i k+4294967296^k*v:=by
 rw[seg_succ,seg_set_ge c (Nat.le_refl _),getD_set_self h]
theorem exp_takes {s:St} {cs ds:List SV} {o1 n1 o2 n2:Nat} {x:SV}:expOf s [.impref cs 1 o1 n1,.impref ds 1 o2 n2,.sv x]=[s.obj 1000000 0,s.obj 1000001 0,none]:=rfl
theorem sub_limb {u y w:Nat} (hu:u<4294967296) (hy:y<4294967296) (hw:w<=1) :
  ((u+(4294967296-y))%4294967296+(4294967296-w))%4294967296+y+w=u+4294967296*(if u<y+w then 1 else 0):=by
 split<;>omega
def Takes (us ds:List Nat) (i x:Nat) (us':List Nat) (b:Bool):Prop:=
 us'.length=us.length/\okL us'/\(∀j,j<i\/i+ds.length<j->us'.getD j 0=us.getD j 0) /\
  (x*wth ds<=seg us i (ds.length+1)->b=false/\seg us' i (ds.length+1)+x*wth ds=seg us i (ds.length+1)) /\
  (seg us i (ds.length+1)<x*wth ds->x*wth ds<=seg us i (ds.length+1)+wth ds->b=true/\seg us' i (ds.length+1)+x*wth ds=seg us i (ds.length+1)+wth ds)
theorem takes_fn (us ds:List Nat) (i x:Nat) (hu:okL us) (hd:okL ds) (hi:i+ds.length<us.length) (hul:us.length<=2147483648) (hx:x<=4294967295) :
  ∃r exps,(∃us' b,Takes us ds i x us' b/\r = .bool b/\exps=[some (us'.map limb),some (ds.map limb),none]) /\
   FnI CX 103 [.impref (us.map limb) 1 i (ds.length+1),.impref (ds.map limb) 1 0 ds.length,.sv (.int .u64 x)] r exps:=by
 refine FnI_of (fn:=Tryz.f103) (body:=(Tryz.f103).body.get!) (by kernel_rfl) (by kernel_rfl) (by kernel_rfl) (fun _=>rfl) (Nat.le_of_ble_eq_true (by kernel_rfl)) ?_
 unfold Tryz.f103
 simp only[Option.get!_some,exp_takes]
 repeat (first|simp only[go_sem,N0]|simp (disch:=first|exact oa|fail) only[AX,N0]|refine wki ?_|refine wqn ?_)
 refine vp_loop_inv (fun s'=>s'.tmp 0 = .ref 1000000 0 1 i (ds.length+1)/\s'.tmp 1 = .ref 1000001 0 1 0 ds.length/\s'.tmp 2 = .sv (.int .u64 x)/\s'.obj 1000001 0=some (ds.map limb)/\s'.tmp 14 = .ref 1000001 0 1 0 ds.length/\s'.tmp 15 = .sv (.int .i64 ds.length) /\
   ∃c:List Nat,∃k carry w:Nat,s'.obj 1000000 0=some (c.map limb)/\s'.tmp 16 = .sv (.int .i64 k)/\s'.tmp 7 = .sv (.int .u64 carry)/\s'.tmp 8 = .sv (limb w)/\c.length=us.length/\okL c/\k<=ds.length/\carry<4294967296/\w<=1 /\
    (∀j,j<i\/i+k<=j->c.getD j 0=us.getD j 0)/\seg c i k+x*wth (ds.take k)=seg us i k+4294967296^k*(carry+w))
  (fun s=>match s.tmp 16 with | .sv (.int _ i)=>ds.length-i.toNat|_=>0) ?_ ?_
 ·refine⟨rfl,rfl,rfl,rfl,rfl,rfl,us,0,0,0,rfl,rfl,rfl,rfl,rfl,hu,by omega,by omega,by omega,fun _ _=>rfl,?_⟩
  simp[seg_zero,wth]
 rintro s' ⟨i0,i1,i2,iD,i14,i15,c,k,carry,w,iO,i16,i7,i8,hc,hok,hk,hcar,hw,hsame,hv⟩
 have e10:(1000001:Nat)≠1000000:=by decide
 by_cases hend:k=ds.length
 ·subst hend
  have h2:=getD_lt hok (i+ds.length)
  have hs0:=hsame (i+ds.length) (.inr (Nat.le_refl _))
  rw[List.take_of_length_le (Nat.le_refl _)]at hv
  generalize huk:c.getD (i+ds.length) 0=u at *
  have hsl:=sub_limb h2 hcar hw
  repeat (first|simp only[go_sem,i0,i1,i2,iD,i14,i15,iO,i16,i7,i8,huk]|simp (disch:=first|exact oa|fail) only[AX,i0,i1,i2,iD,i14,i15,iO,i16,i7,i8,huk]|refine wki ?_|refine wqn ?_|refine vpx [] ?_)
  refine vf_of (bits_Sub32 u carry w h2 hcar hw) ?_;repeat (first|simp only[go_sem,i0,i1,i2,iD,i14,i15,iO,i16,i7,i8,huk]|simp (disch:=first|exact oa|fail) only[AX,i0,i1,i2,iD,i14,i15,iO,i16,i7,i8,huk]|refine wki ?_|refine wqn ?_|refine vpx [] ?_)
  have hv' : ∃v,((u+(4294967296-carry))%4294967296+(4294967296-w))%4294967296=v:=⟨_,rfl⟩
  obtain⟨v,hvv⟩:=hv'
  have hvl:v<4294967296:=by rw[<- hvv];exact Nat.mod_lt _ (by omega)
  rw[hvv]at hsl ⊢
  have hE:seg (c.set (i+ds.length) v) i (ds.length+1)+x*wth ds=seg us i (ds.length+1)+4294967296^(ds.length+1)*(if u<carry+w then 1 else 0):=by
   rw[seg_set_self c (by omega),seg_succ us,<- hs0]
   generalize (if u<carry+w then 1 else 0)=w' at *
   have e1:4294967296^ds.length*(carry+w)+4294967296^ds.length*v=4294967296^ds.length*u+4294967296^(ds.length+1)*w':=by
    rw[Nat.pow_succ,Nat.mul_assoc,<- Nat.mul_add,<- Nat.mul_add]
    congr 1
    omega
   omega
  have hc1:(c.set (i+ds.length) v).length=us.length:=by rw[List.length_set];exact hc
  have hok1:okL (c.set (i+ds.length) v):=okL_set hok _ _ hvl
  have hsame1 : ∀j,j<i\/i+ds.length<j->(c.set (i+ds.length) v).getD j 0=us.getD j 0:=fun j hj=>(getD_set_ne (by omega)).trans (hsame j (by omega))
  generalize hc1':c.set (i+ds.length) v=c1 at *
  by_cases hb:u<carry+w
  ·rw[if_pos hb]at hE ⊢
   have hgt:seg us i (ds.length+1)<x*wth ds:=by
    have:=seg_lt hok1 i (ds.length+1)
    omega
   clear hv hsl hs0 hb huk hvv hvl hsame hok hc
   repeat (first|simp only[go_sem,i0,i1,i2,iD,i14,i15,iO,i16,i7,i8]|simp (disch:=first|exact oa|fail) only[AX,i0,i1,i2,iD,i14,i15,iO,i16,i7,i8]|refine wki ?_|refine wqn ?_|refine vpx [] ?_)
   refine vp_loop_inv (fun s'=>s'.tmp 0 = .ref 1000000 0 1 i (ds.length+1)/\s'.tmp 1 = .ref 1000001 0 1 0 ds.length/\s'.obj 1000001 0=some (ds.map limb)/\s'.tmp 62 = .ref 1000001 0 1 0 ds.length/\s'.tmp 63 = .sv (.int .i64 ds.length) /\
     ∃c2:List Nat,∃k more:Nat,s'.obj 1000000 0=some (c2.map limb)/\s'.tmp 64 = .sv (.int .i64 k)/\s'.tmp 11 = .sv (limb more)/\c2.length=us.length/\okL c2/\k<=ds.length/\more<=1 /\
      (∀j,j<i\/i+k<=j->c2.getD j 0=c1.getD j 0)/\seg c2 i k+4294967296^k*more=seg c1 i k+wth (ds.take k))
    (fun s=>match s.tmp 64 with | .sv (.int _ i)=>ds.length-i.toNat|_=>0) ?_ ?_
   ·refine⟨i0,i1,iD,rfl,rfl,c1,0,0,rfl,rfl,rfl,hc1,hok1,by omega,by omega,fun _ _=>rfl,?_⟩
    ·simp[seg_zero,wth]
   clear i0 i1 i2 iD i14 i15 iO i16 i7 i8
   rintro s2 ⟨j0,j1,jD,j62,j63,c2,k,more,jO,j64,j11,hc2,hok2,hk2,hmore,hsame2,hv2⟩
   by_cases hend2:k=ds.length
   ·subst hend2
    have h3:=getD_lt hok2 (i+ds.length)
    have hs2:=hsame2 (i+ds.length) (.inr (Nat.le_refl _))
    rw[List.take_of_length_le (Nat.le_refl _)]at hv2
    generalize hak:c2.getD (i+ds.length) 0=a at *
    have hv' : ∃m,(a+more)%4294967296=m:=⟨_,rfl⟩
    obtain⟨m,hm⟩:=hv'
    have hml:m<4294967296:=by rw[<- hm];exact Nat.mod_lt _ (by omega)
    have hmd:m+4294967296*((a+more)/4294967296)=a+more:=by rw[<- hm];omega
    have hmq:(a+more)/4294967296<=1:=by omega
    generalize (a+more)/4294967296=q at *
    repeat (first|simp only[go_sem,j0,j1,jD,j62,j63,jO,j64,j11,hak,hm]|simp (disch:=first|exact oa|fail) only[AX,j0,j1,jD,j62,j63,jO,j64,j11,hak,hm]|refine wki ?_|refine wqn ?_|refine vpx [] ?_)
    refine⟨_,_,⟨c2.set (i+ds.length) m,true,⟨by rw[List.length_set];exact hc2,okL_set hok2 _ _ hml,fun j hj=>(getD_set_ne (by omega)).trans ((hsame2 j (by omega)).trans (hsame1 j hj)),fun h=>absurd h (by omega),fun _ hle=>⟨rfl,?_⟩⟩,rfl,rfl⟩,?_,rfl⟩
    ·have hE2:seg (c2.set (i+ds.length) m) i (ds.length+1)+4294967296^(ds.length+1)*q=seg c1 i (ds.length+1)+wth ds:=by
      rw[seg_set_self c2 (by omega),seg_succ c1,<- hs2]
      have e1:4294967296^ds.length*m+4294967296^(ds.length+1)*q=4294967296^ds.length*a+4294967296^ds.length*more:=by
       rw[Nat.pow_succ,Nat.mul_assoc,<- Nat.mul_add,<- Nat.mul_add,hmd]
      omega
     have hlt:=seg_lt (okL_set hok2 (i+ds.length) m hml) i (ds.length+1)
     rcases Nat.eq_zero_or_pos q with rfl|hq
     ·omega
     ·have:q=1:=by omega
      subst this
      omega
    ·rfl
   ·have h1:=getD_lt hd k
    have h2:=getD_lt hok2 (i+k)
    have hs2:=hsame2 (i+k) (.inr (Nat.le_refl _))
    generalize hdk:ds.getD k 0=y at *
    generalize hak:c2.getD (i+k) 0=a at *
    repeat (first|simp only[go_sem,j0,j1,jD,j62,j63,jO,j64,j11,hdk,hak]|simp (disch:=first|exact oa|fail) only[AX,j0,j1,jD,j62,j63,jO,j64,j11,hdk,hak]|refine wki ?_|refine wqn ?_|refine vpx [] ?_)
    refine vf_of (bits_Add32 a y more h2 h1 (by omega)) ?_;repeat (first|simp only[go_sem,j0,j1,jD,j62,j63,jO,j64,j11,hdk,hak]|simp (disch:=first|exact oa|fail) only[AX,j0,j1,jD,j62,j63,jO,j64,j11,hdk,hak]|refine wki ?_|refine wqn ?_|refine vpx [] ?_)
    refine⟨⟨c2.set (i+k) ((a+y+more)%4294967296),k+1,(a+y+more)/4294967296,rfl,rfl,rfl,by rw[List.length_set];exact hc2,okL_set hok2 _ _ (Nat.mod_lt _ (by omega)),by omega,by omega,fun j hj=>(getD_set_ne (by omega)).trans (hsame2 j (by omega)),?_⟩,by omega⟩
    rw[seg_set_self c2 (by omega),seg_succ c1,<- hs2,wth_take_succ,hdk]
    have e1:4294967296^k*((a+y+more)%4294967296)+4294967296^(k+1)*((a+y+more)/4294967296)=4294967296^k*a+(4294967296^k*y+4294967296^k*more):=by
     rw[Nat.pow_succ,Nat.mul_assoc,<- Nat.mul_add,Nat.mod_add_div,<- Nat.mul_add,<- Nat.mul_add,Nat.add_assoc]
    omega
  ·rw[if_neg hb,Nat.mul_zero,Nat.add_zero]at hE
   rw[if_neg hb]
   have hT:Takes us ds i x c1 false:=⟨hc1,hok1,hsame1,fun _=>⟨rfl,hE⟩,fun h=>absurd hE (Nat.ne_of_gt (Nat.lt_of_lt_of_le h (Nat.le_add_left _ _)))⟩
   clear hv hsl hs0 hb huk hvv hvl hsame hok hc hE hc1 hok1 hsame1
   repeat (first|simp only[go_sem,i0,i1,i2,iD,i14,i15,iO,i16,i7,i8]|simp (disch:=first|exact oa|fail) only[AX,i0,i1,i2,iD,i14,i15,iO,i16,i7,i8]|refine wki ?_|refine wqn ?_|refine vpx [] ?_)
   exact⟨_,_,⟨c1,false,hT,rfl,rfl⟩,rfl,rfl⟩
 ·have h1:=getD_lt hd k
  have h2:=getD_lt hok (i+k)
  have h4:=limb_mul (v:=x) (w:=ds.getD k 0) (by omega) h1
  have hs0:=hsame (i+k) (.inr (Nat.le_refl _))
  generalize hdk:ds.getD k 0=y at *
  generalize huk:c.getD (i+k) 0=u at *
  generalize hp:x*y=p at *
  have hP:(carry+p)%4294967296<4294967296:=Nat.mod_lt _ (by omega)
  have hsl:=sub_limb h2 hP hw
  repeat (first|simp only[go_sem,i0,i1,i2,iD,i14,i15,iO,i16,i7,i8,hdk,huk,hp]|simp (disch:=first|exact oa|fail) only[AX,i0,i1,i2,iD,i14,i15,iO,i16,i7,i8,hdk,huk,hp]|refine wki ?_|refine wqn ?_|refine vpx [] ?_)
  refine vf_of (bits_Sub32 u ((carry+p)%4294967296) w h2 hP hw) ?_;repeat (first|simp only[go_sem,i0,i1,i2,iD,i14,i15,iO,i16,i7,i8,hdk,huk,hp]|simp (disch:=first|exact oa|fail) only[AX,i0,i1,i2,iD,i14,i15,iO,i16,i7,i8,hdk,huk,hp]|refine wki ?_|refine wqn ?_|refine vpx [] ?_)
  have hv' : ∃v,((u+(4294967296-(carry+p)%4294967296))%4294967296+(4294967296-w))%4294967296=v:=⟨_,rfl⟩
  obtain⟨v,hvv⟩:=hv'
  have hvl:v<4294967296:=by rw[<- hvv];exact Nat.mod_lt _ (by omega)
  rw[hvv]at hsl ⊢
  refine⟨⟨c.set (i+k) v,k+1,(carry+p)/4294967296,if u<(carry+p)%4294967296+w then 1 else 0,rfl,rfl,rfl,rfl,by rw[List.length_set];exact hc,okL_set hok _ _ hvl,by omega,by omega,by split<;>omega,fun j hj=>(getD_set_ne (by omega)).trans (hsame j (by omega)),?_⟩,by omega⟩
  rw[seg_set_self c (by omega),seg_succ us,<- hs0,wth_take_succ,hdk,Nat.mul_add x,Nat.mul_left_comm x,hp]
  generalize (if u<(carry+p)%4294967296+w then 1 else 0)=w' at *
  have e1:4294967296^k*(carry+w)+(4294967296^k*v+4294967296^k*p)=4294967296^k*u+4294967296^(k+1)*((carry+p)/4294967296+w'):=by
   rw[Nat.pow_succ,Nat.mul_assoc,<- Nat.mul_add,<- Nat.mul_add,<- Nat.mul_add]
   congr 1
   omega
  omega
end Go.Proofs.YtdahehdomajbgaaGreatDoor
namespace Go.Ev
theorem long_guess {B M D U v u x:Nat} (hv:v*M<=D) (hv':D<(v+1)*M) (hu:u*M<=U) (hu':U<(u+1)*M) (hBM:B*M<=D) (hB:0<B) (hUD:U<D*B) (hv0:0<v)
  (hx1:x<=B-1) (hx2:x<=u/v) (hx3 : ∀q,q<=B-1->q<=u/v->q<=x):U/D<=x/\x*D<=U+D:=by
 have hM:0<M:=by
  rcases Nat.eq_zero_or_pos M with h|h
  ·subst h;omega
  ·exact h
 have hD:0<D:=Nat.lt_of_lt_of_le (Nat.mul_pos hB hM) hBM
 constructor
 ·refine hx3 _ ?_ ?_
  ·have:U/D<B:=(Nat.div_lt_iff_lt_mul hD).2 (by rw[Nat.mul_comm];exact hUD)
   omega
  ·rw[Nat.le_div_iff_mul_le hv0]
   have h1:U/D*(v*M)<=U/D*D:=Nat.mul_le_mul_left _ hv
   have h2:U/D*D<=U:=Nat.div_mul_le_self _ _
   have h3:U/D*v*M<(u+1)*M:=by rw[Nat.mul_assoc];omega
   have:=Nat.lt_of_mul_lt_mul_right h3
   omega
 ·have h1:x*v<=u:=(Nat.le_div_iff_mul_le hv0).1 hx2
  have h2:x*D<=x*((v+1)*M):=Nat.mul_le_mul_left _ (Nat.le_of_lt hv')
  have h3:x*((v+1)*M)=x*v*M+x*M:=by rw[Nat.add_mul,Nat.one_mul,Nat.mul_add,Nat.mul_assoc]
  have h4:x*v*M<=u*M:=Nat.mul_le_mul_right _ h1
  have h5:x*M<=B*M:=Nat.mul_le_mul_right _ (by omega)
  omega
theorem long_step {P B D U low W A q us:Nat} (hA:A=D*(P*B*W)+us) (hus:us=U*P+low) (hlow:low<P) (hD:0<D) (hq:q=U/D) :
  A=D*(P*(q+B*W))+((U-q*D)*P+low)/\(U-q*D)*P+low<D*P:=by
 subst hq
 have h1:U-U/D*D=U%D:=by
  have:=Nat.mod_add_div U D
  rw[Nat.mul_comm D]at this
  omega
 rw[h1]
 constructor
 ·have h2:=Nat.mod_add_div U D
  rw[hA,hus]
  have h3:U*P=U%D*P+D*(P*(U/D)):=by
   conv=>lhs;rw[<- h2]
   rw[Nat.add_mul,Nat.mul_assoc,Nat.mul_comm (U/D) P]
  rw[Nat.mul_add P,Nat.mul_add D,h3,Nat.mul_assoc P B W]
  omega
 ·have h2:U%D+1<=D:=Nat.mod_lt _ hD
  have h3:(U%D+1)*P<=D*P:=Nat.mul_le_mul_right _ h2
  rw[Nat.add_mul,Nat.one_mul]at h3
  omega
end Go.Ev
