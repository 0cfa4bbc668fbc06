/- Part 9 of the proof: the evaluator, contracts of functions and their plain laws (joined by program). No condition. -/
import Derived.Test.YtdahehdomajbgaaGreatDoorPart8
import Derived.Orders
import Derived.Laws.Sem
set_option linter.unusedVariables false
set_option linter.unusedSimpArgs false
set_option maxRecDepth 100000
namespace Go
def Sem.Calm {α:Type} (P:Program):Sem α->Prop
 | .pure _=>True
 | .halt _=>True
 | .load _ _ k => ∀v,(k v).Calm P
 | .shape _ k => ∀s,(k s).Calm P
 | .frozen _ k => ∀b,(k b).Calm P
 | .getObj _ k => ∀o,(k o).Calm P
 | .program k=>(k P).Calm P
 | .mark _ k=>k.Calm P
 | .store _ _ _ k=>k.Calm P
 | .new o k=>(∀c t f,o = .cells c t f->f=(0,0)) /\ ∀r,(k r).Calm P
 | .freeze _ _ _=>False
 | .setObj _ _ _=>False
 | .choose _ k => ∀n,(k n).Calm P
 | .sys _ _=>False
theorem Sem.Calm.bind {α β:Type} {P:Program} {x:Sem α} {f:α->Sem β} (hx:x.Calm P) (hf : ∀a,(f a).Calm P):(x >>= f).Calm P:=by
 show (x.bind f).Calm P
 induction x with
 |pure a=>exact hf a
 |halt h=>exact trivial
 |load m a k ih=>exact fun v=>ih v (hx v)
 |shape r k ih=>exact fun s=>ih s (hx s)
 |frozen a k ih=>exact fun b=>ih b (hx b)
 |getObj r k ih=>exact fun o=>ih o (hx o)
 |program k ih=>exact ih P hx
 |mark m k ih=>exact ih hx
 |store m a v k ih=>exact ih hx
 |new o k ih=>exact⟨hx.1,fun r=>ih r (hx.2 r)⟩
 |freeze a n k _=>exact hx.elim
 |setObj r o k _=>exact hx.elim
 |choose q k ih=>exact fun n=>ih n (hx n)
 |sys c k _=>exact hx.elim
def Unf (K:Nat) (w:World):Prop:=K<=w.heap.size /\ ∀b us ty fz,K<=b->w.heap[b]?=some (.cells us ty fz)->fz=(0,0)
def Sem.calms {α:Type} (K:Nat):Result α->Prop
 | .ok _ w=>Unf K w
 | .halt _ _=>True
theorem seen_fz {P:Program} {w:World} {at_:Addr} {u:TypeId} {a:Addr} {atomic:Bool} {r:Array Value×TypeId×(Nat×Nat)×Nat×Value×List (Nat×Nat×List UInt8)} (h:w.seen P at_ u a atomic = .ok r):w.heap[at_.block]?=some (.cells r.1 r.2.1 r.2.2.1):=by
 unfold World.seen at h
 simp only[bind,Except.bind,pure,Except.pure]at h
 repeat' split at h
 all_goals first|(cases h;done)|(cases h;assumption)
theorem viewStore_heap {P:Program} {w w':World} {at_:Addr} {u:TypeId} {a:Addr} {v:Value} {atomic:Bool} {l:List Addr} (h:w.viewStore P at_ u a v atomic = .ok (w',l)) {K:Nat} (hu:Unf K w):Unf K w':=by
 have key : ∀ {r:Array Value×TypeId×(Nat×Nat)×Nat×Value×List (Nat×Nat×List UInt8)} (cs:Array Value),w.seen P at_ u a atomic = .ok r->Unf K { w with heap:=w.heap.setIfInBounds at_.block (.cells cs r.2.1 r.2.2.1) }:=by
  intro r cs hr
  have hs:=seen_fz hr
  refine⟨by show _<=(w.heap.setIfInBounds _ _).size;rw[Array.size_setIfInBounds];exact hu.1,fun b us ty fz hb he => ?_⟩
  replace he:(w.heap.setIfInBounds at_.block (.cells cs r.2.1 r.2.2.1))[b]?=some (.cells us ty fz):=he
  rw[Array.getElem?_setIfInBounds]at he
  by_cases e:at_.block=b
  ·rw[if_pos e]at he
   subst e
   split at he
   ·simp only[Option.some.injEq,Obj.cells.injEq]at he
    rw[<- he.2.2]
    exact hu.2 _ _ _ _ hb hs
   ·cases he
  ·rw[if_neg e]at he
   exact hu.2 _ _ _ _ hb he
 unfold World.viewStore at h
 simp only[bind,Except.bind,pure,Except.pure]at h
 repeat' split at h
 all_goals first|(cases h;done)|(cases h;exact key _ (by assumption))
theorem Sem.Calm.run {α:Type} {P:Program} {K:Nat} {x:Sem α} (hx:x.Calm P) : ∀ {w:World},Unf K w->Sem.calms K (x.run P w):=by
 induction x with
 |pure a=>exact fun h=>h
 |halt h=>exact fun _=>trivial
 |load m a k ih=>
  intro w hw
  simp only[Sem.run]
  split
  ·exact ih _ (hx _) hw
  ·split
   ·exact ih _ (hx _) hw
   ·trivial
 |shape r k ih=>exact fun hw=>ih _ (hx _) hw
 |frozen a k ih=>exact fun hw=>ih _ (hx _) hw
 |getObj r k ih=>
  intro w hw
  simp only[Sem.run]
  split
  ·trivial
  ·exact ih _ (hx _) hw
  ·trivial
 |program k ih=>exact fun hw=>ih _ hx hw
 |mark m k ih=>exact fun hw=>ih hx hw
 |store m a v k ih=>
  intro w hw
  have key:calms K (match w.cell? a with
  | some _ => if w.frozen? a = true then Result.halt (.unsupported (.unsafePointer "a write to bytes that a string shares")) w else k.run P (w.setCell a v)
  |none=>match w.farStore P a v (m == .atomic) with
   | .ok (w,_)=>k.run P w
   | .error h => .halt h w):=by
   split
   ·split
    ·trivial
    ·refine ih hx ⟨by simp only[World.setCell,Array.size_modify];exact hw.1,fun b us ty fz hb he => ?_⟩
     simp only[World.setCell,Array.getElem?_modify]at he
     split at he
     ·rename_i e
      subst e
      cases hb2:w.heap[a.block]? with
      |none=>rw[hb2]at he;cases he
      |some o=>
       rw[hb2]at he
       cases o with
       |cells c e f=>
        simp only[Option.map_some,Option.some.injEq,Obj.cells.injEq]at he
        obtain⟨_,_,rfl⟩:=he
        exact hw.2 _ _ _ _ hb hb2
       |_=>cases he
     ·exact hw.2 _ _ _ _ hb he
   ·split
    ·rename_i w' _ hf
     refine ih hx ?_
     unfold World.farStore at hf
     split at hf
     ·split at hf
      ·rename_i r hr
       cases hf
       exact viewStore_heap hr hw
      ·cases hf
     ·cases hf
    ·trivial
  cases v with
  |agg cs=>trivial
  |tuple cs=>trivial
  |_=>simp only[Sem.run];exact key
 |new o k ih=>
  intro w hw
  refine ih _ (hx.2 _) ⟨by show _<=(w.heap.push o).size;rw[Array.size_push];exact Nat.le_succ_of_le hw.1,fun b us ty fz hb he => ?_⟩
  simp only[Array.getElem?_push]at he
  split at he
  ·exact hx.1 _ _ _ (Option.some.inj he)
  ·exact hw.2 _ _ _ _ hb he
 |freeze a n k _=>exact hx.elim
 |setObj r o k _=>exact hx.elim
 |choose q k ih=>
  intro w hw
  unfold Sem.run
  split
  ·exact ih _ (hx _) hw
  ·exact ih _ (hx _) hw
 |sys c k _=>exact hx.elim
section
variable {P:Program}
theorem program_calm:(program:Sem Program).Calm P:=trivial
theorem load_calm (a:Addr) (m:Mode):(load a m).Calm P:=fun _=>trivial
theorem store_calm (a:Addr) (v:Value) (m:Mode):(store a v m).Calm P:=trivial
theorem choose_calm (q:Question):(choose q).Calm P:=fun _=>trivial
theorem frozen_calm (a:Addr):(frozen a).Calm P:=fun _=>trivial
theorem shape_calm (a:Nat):(shape a).Calm P:=fun _=>trivial
theorem getObj_calm (a:Nat):(getObj a).Calm P:=fun _=>trivial
theorem newRow_calm (e:TypeId) (c:Array Value):(newRow e c).Calm P:=⟨fun _ _ _ h=>(Obj.cells.inj h).2.2.symm,fun _=>trivial⟩
theorem typeInfo_calm (t:TypeId):(typeInfo t).Calm P:=by
 unfold typeInfo
 refine program_calm.bind fun p => ?_
 split<;>trivial
theorem underlying_calm (t:TypeId):(underlying t).Calm P:=by
 unfold underlying
 refine program_calm.bind fun p => ?_
 split<;>trivial
theorem sizeOf_calm (t:TypeId):(sizeOf t).Calm P:=by
 unfold sizeOf
 exact(typeInfo_calm t).bind fun _=>trivial
theorem zeroValue_calm (t:TypeId):(zeroValue t).Calm P:=by
 unfold zeroValue
 refine(typeInfo_calm t).bind fun p => ?_
 split<;>trivial
theorem isAgg_calm (t:TypeId):(isAgg t).Calm P:=by
 unfold isAgg
 refine(underlying_calm t).bind fun p => ?_
 split<;>trivial
theorem loadCellsFrom_calm (a:Addr) : ∀ (n i:Nat) (acc:Array Value),(loadCellsFrom a i n acc).Calm P
 |0,_,_=>trivial
 |n+1,i,acc=>by
  unfold loadCellsFrom
  exact(load_calm _ _).bind fun v=>loadCellsFrom_calm a n (i+1) (acc.push v)
theorem loadCells_calm (a:Addr) (n:Nat):(loadCells a n).Calm P:=loadCellsFrom_calm a n 0 #[]
theorem storeCells_calm (a:Addr) : ∀ (l:List Value) (i:Nat),(storeCells a l i).Calm P
 | [],_=>trivial
 |_::l,i=>(store_calm _ _ _).bind fun _=>storeCells_calm a l (i+1)
theorem elemOf_calm (t:TypeId):(elemOf t).Calm P:=by
 unfold elemOf
 refine(underlying_calm t).bind fun p => ?_
 split<;>trivial
theorem runtimePanic_calm {α:Type} (e:RuntimeError):(runtimePanic e:Sem α).Calm P:=by
 unfold runtimePanic
 refine program_calm.bind fun p => ?_
 dsimp only
 split
 all_goals first|exact trivial|skip
 ·exact(elemOf_calm _).bind fun _=>(newRow_calm _ _).bind fun _=>trivial
 ·exact(elemOf_calm _).bind fun _=>(newRow_calm _ _).bind fun _=>trivial
end
theorem ite_calm {P:Program} {α:Type} {c:Prop} [Decidable c] {a b:Sem α} (h1:a.Calm P) (h2:b.Calm P):(if c then a else b).Calm P:=by
 split<;>assumption
theorem map_calm {P:Program} {α:Type} (f:Nat->α) (q:Question):(f <$> choose q).Calm P:=fun _=>True.intro
theorem pure_calm {P:Program} {α:Type} (a:α):(pure a:Sem α).Calm P:=True.intro
theorem stuck_calm {P:Program} {α:Type} (a:String):(stuck a:Sem α).Calm P:=True.intro
theorem unsup_calm {P:Program} {α:Type} (a:Unsupported):(unsupported a:Sem α).Calm P:=True.intro
theorem mark_calm {P:Program} (a:Mark):(mark a).Calm P:=True.intro
section
variable {P:Program}
theorem lenOf_calm (v:Value):(Builtin.lenOf v).Calm P:=by
 unfold Builtin.lenOf
 split<;>exact True.intro
theorem firstCells_calm (a b:Nat) (v:Value):(Builtin.firstCells a b v).Calm P:=by
 unfold Builtin.firstCells
 split
 ·exact loadCells_calm _ _
 all_goals exact True.intro
theorem askRoom_calm (n:Nat):(askRoom n).Calm P:=by
 unfold askRoom
 split<;>exact True.intro
theorem holds_calm (a:Addr) (n:Nat):(Builtin.holdsCells a n).Calm P:=by
 unfold Builtin.holdsCells
 refine(shape_calm _).bind fun x => ?_
 split<;>exact True.intro
theorem asIntOf_calm (v:Value):(asIntOf v).Calm P:=by
 unfold asIntOf
 split<;>exact True.intro
theorem asInt_calm (v:Value):(asInt v).Calm P:=(asIntOf_calm v).bind fun _=>True.intro
theorem sureAddr_calm (v:Value):(Instr.sureAddr v).Calm P:=by
 unfold Instr.sureAddr
 split<;>exact True.intro
end
theorem mayShare_calm {P:Program} (a b c:Nat) (v:Option Addr) (x:Value):(Builtin.mayShare a b c v x).Calm P:=by
 unfold Builtin.mayShare
 repeat' (first
    |with_reducible exact pure_calm _|with_reducible exact stuck_calm _|with_reducible exact unsup_calm _|with_reducible exact mark_calm _
    |with_reducible exact typeInfo_calm _|with_reducible exact underlying_calm _|with_reducible exact sizeOf_calm _|with_reducible exact loadCells_calm _ _|with_reducible exact load_calm _ _|with_reducible exact program_calm|with_reducible exact zeroValue_calm _|with_reducible exact isAgg_calm _
    |with_reducible exact storeCells_calm _ _ _|with_reducible exact newRow_calm _ _|with_reducible exact choose_calm _|with_reducible exact frozen_calm _|with_reducible exact shape_calm _|with_reducible exact getObj_calm _|with_reducible exact runtimePanic_calm _
    |with_reducible exact map_calm _ _|with_reducible exact holds_calm _ _|with_reducible exact lenOf_calm _|with_reducible exact firstCells_calm _ _ _|with_reducible exact askRoom_calm _|with_reducible exact asIntOf_calm _|with_reducible exact asInt_calm _|with_reducible exact sureAddr_calm _
    |with_reducible refine ite_calm ?_ ?_
    |with_reducible refine Sem.Calm.bind ?_ (fun _ => ?_)
    |split
    |dsimp only)
theorem boundsPanic_calm {P:Program} {α:Type} (k:IntKind) (x y:Int) (c:BoundsCode):(boundsPanic k x y c:Sem α).Calm P:=by
 unfold boundsPanic
 repeat' (first
    |with_reducible exact pure_calm _|with_reducible exact stuck_calm _|with_reducible exact unsup_calm _|with_reducible exact mark_calm _
    |with_reducible exact typeInfo_calm _|with_reducible exact underlying_calm _|with_reducible exact sizeOf_calm _|with_reducible exact loadCells_calm _ _|with_reducible exact load_calm _ _|with_reducible exact program_calm|with_reducible exact zeroValue_calm _|with_reducible exact isAgg_calm _
    |with_reducible exact storeCells_calm _ _ _|with_reducible exact newRow_calm _ _|with_reducible exact choose_calm _|with_reducible exact frozen_calm _|with_reducible exact shape_calm _|with_reducible exact getObj_calm _|with_reducible exact runtimePanic_calm _
    |with_reducible exact map_calm _ _|with_reducible exact holds_calm _ _|with_reducible exact lenOf_calm _|with_reducible exact firstCells_calm _ _ _|with_reducible exact askRoom_calm _|with_reducible exact asIntOf_calm _|with_reducible exact asInt_calm _|with_reducible exact sureAddr_calm _
    |with_reducible refine ite_calm ?_ ?_
    |with_reducible refine Sem.Calm.bind ?_ (fun _ => ?_)
    |split
    |dsimp only)
theorem app_calm {P:Program} (ts:Array TypeId) (t:TypeId) (vs:Array Value):(Builtin.append_ ts t vs).Calm P:=by
 unfold Builtin.append_
 repeat' (first
    |with_reducible exact pure_calm _|with_reducible exact stuck_calm _|with_reducible exact unsup_calm _|with_reducible exact mark_calm _
    |with_reducible exact typeInfo_calm _|with_reducible exact underlying_calm _|with_reducible exact sizeOf_calm _|with_reducible exact loadCells_calm _ _|with_reducible exact load_calm _ _|with_reducible exact program_calm|with_reducible exact zeroValue_calm _|with_reducible exact isAgg_calm _
    |with_reducible exact storeCells_calm _ _ _|with_reducible exact newRow_calm _ _|with_reducible exact choose_calm _|with_reducible exact frozen_calm _|with_reducible exact shape_calm _|with_reducible exact getObj_calm _|with_reducible exact runtimePanic_calm _
    |with_reducible exact map_calm _ _|with_reducible exact holds_calm _ _|with_reducible exact lenOf_calm _|with_reducible exact firstCells_calm _ _ _|with_reducible exact askRoom_calm _|with_reducible exact mayShare_calm _ _ _ _ _|with_reducible exact asIntOf_calm _|with_reducible exact asInt_calm _|with_reducible exact sureAddr_calm _|with_reducible exact boundsPanic_calm _ _ _ _
    |with_reducible refine ite_calm ?_ ?_
    |with_reducible refine Sem.Calm.bind ?_ (fun _ => ?_)
    |split
    |dsimp only)
theorem ix_calm {P:Program} (t:TypeId) (x i:Value):(Instr.indexAt t x i).Calm P:=by
 unfold Instr.indexAt
 repeat' (first
    |with_reducible exact pure_calm _|with_reducible exact stuck_calm _|with_reducible exact unsup_calm _|with_reducible exact mark_calm _
    |with_reducible exact typeInfo_calm _|with_reducible exact underlying_calm _|with_reducible exact sizeOf_calm _|with_reducible exact loadCells_calm _ _|with_reducible exact load_calm _ _|with_reducible exact program_calm|with_reducible exact zeroValue_calm _|with_reducible exact isAgg_calm _
    |with_reducible exact storeCells_calm _ _ _|with_reducible exact newRow_calm _ _|with_reducible exact choose_calm _|with_reducible exact frozen_calm _|with_reducible exact shape_calm _|with_reducible exact getObj_calm _|with_reducible exact runtimePanic_calm _
    |with_reducible exact map_calm _ _|with_reducible exact holds_calm _ _|with_reducible exact lenOf_calm _|with_reducible exact firstCells_calm _ _ _|with_reducible exact askRoom_calm _|with_reducible exact mayShare_calm _ _ _ _ _|with_reducible exact asIntOf_calm _|with_reducible exact asInt_calm _|with_reducible exact sureAddr_calm _|with_reducible exact boundsPanic_calm _ _ _ _
    |with_reducible refine ite_calm ?_ ?_
    |with_reducible refine Sem.Calm.bind ?_ (fun _ => ?_)
    |split
    |dsimp only)
theorem bs_calm {P:Program} (t:TypeId) (n:Nat) (ps:Array (Nat×Value)):(Instr.buildSlice t n ps).Calm P:=by
 unfold Instr.buildSlice
 repeat' (first
    |with_reducible exact pure_calm _|with_reducible exact stuck_calm _|with_reducible exact unsup_calm _|with_reducible exact mark_calm _
    |with_reducible exact typeInfo_calm _|with_reducible exact underlying_calm _|with_reducible exact sizeOf_calm _|with_reducible exact loadCells_calm _ _|with_reducible exact load_calm _ _|with_reducible exact program_calm|with_reducible exact zeroValue_calm _|with_reducible exact isAgg_calm _
    |with_reducible exact storeCells_calm _ _ _|with_reducible exact newRow_calm _ _|with_reducible exact choose_calm _|with_reducible exact frozen_calm _|with_reducible exact shape_calm _|with_reducible exact getObj_calm _|with_reducible exact runtimePanic_calm _
    |with_reducible exact map_calm _ _|with_reducible exact holds_calm _ _|with_reducible exact lenOf_calm _|with_reducible exact firstCells_calm _ _ _|with_reducible exact askRoom_calm _|with_reducible exact mayShare_calm _ _ _ _ _|with_reducible exact asIntOf_calm _|with_reducible exact asInt_calm _|with_reducible exact sureAddr_calm _|with_reducible exact boundsPanic_calm _ _ _ _
    |with_reducible refine ite_calm ?_ ?_
    |with_reducible refine Sem.Calm.bind ?_ (fun _ => ?_)
    |split
    |dsimp only)
theorem viewAt_calm {P:Program} (r:Nat):(viewAt r).Calm P:=by
 unfold viewAt
 repeat' (first
    |with_reducible exact pure_calm _|with_reducible exact stuck_calm _|with_reducible exact unsup_calm _|with_reducible exact mark_calm _
    |with_reducible exact typeInfo_calm _|with_reducible exact underlying_calm _|with_reducible exact sizeOf_calm _|with_reducible exact loadCells_calm _ _|with_reducible exact load_calm _ _|with_reducible exact program_calm|with_reducible exact zeroValue_calm _|with_reducible exact isAgg_calm _
    |with_reducible exact storeCells_calm _ _ _|with_reducible exact newRow_calm _ _|with_reducible exact choose_calm _|with_reducible exact frozen_calm _|with_reducible exact shape_calm _|with_reducible exact getObj_calm _|with_reducible exact runtimePanic_calm _
    |with_reducible exact map_calm _ _|with_reducible exact holds_calm _ _|with_reducible exact lenOf_calm _|with_reducible exact firstCells_calm _ _ _|with_reducible exact askRoom_calm _|with_reducible exact mayShare_calm _ _ _ _ _|with_reducible exact asIntOf_calm _|with_reducible exact asInt_calm _|with_reducible exact sureAddr_calm _|with_reducible exact boundsPanic_calm _ _ _ _
    |with_reducible refine ite_calm ?_ ?_
    |with_reducible refine Sem.Calm.bind ?_ (fun _ => ?_)
    |split
    |dsimp only)
theorem numberAt_calm {P:Program} (r:Nat):(numberAt r).Calm P:=by
 unfold numberAt
 repeat' (first
    |with_reducible exact pure_calm _|with_reducible exact stuck_calm _|with_reducible exact unsup_calm _|with_reducible exact mark_calm _
    |with_reducible exact typeInfo_calm _|with_reducible exact underlying_calm _|with_reducible exact sizeOf_calm _|with_reducible exact loadCells_calm _ _|with_reducible exact load_calm _ _|with_reducible exact program_calm|with_reducible exact zeroValue_calm _|with_reducible exact isAgg_calm _
    |with_reducible exact storeCells_calm _ _ _|with_reducible exact newRow_calm _ _|with_reducible exact choose_calm _|with_reducible exact frozen_calm _|with_reducible exact shape_calm _|with_reducible exact getObj_calm _|with_reducible exact runtimePanic_calm _
    |with_reducible exact map_calm _ _|with_reducible exact holds_calm _ _|with_reducible exact lenOf_calm _|with_reducible exact firstCells_calm _ _ _|with_reducible exact askRoom_calm _|with_reducible exact mayShare_calm _ _ _ _ _|with_reducible exact asIntOf_calm _|with_reducible exact asInt_calm _|with_reducible exact sureAddr_calm _|with_reducible exact boundsPanic_calm _ _ _ _
    |with_reducible refine ite_calm ?_ ?_
    |with_reducible refine Sem.Calm.bind ?_ (fun _ => ?_)
    |split
    |dsimp only)
theorem behind_calm {P:Program} (r:Addr):(behindNumber r).Calm P:=by
 unfold behindNumber
 exact(numberAt_calm _).bind fun _=>True.intro
theorem add0_calm {P:Program} (t:TypeId) (ts:Array TypeId) (x y:Value):(Builtin.unsafeAdd_ ts t #[x,y]).Calm P:=by
 cases x
 case pointer a=>
  cases a
  ·refine Sem.Calm.bind (x:=asInt y) (asInt_calm y) fun n => ?_
   dsimp only
   repeat' (first
      |with_reducible exact viewAt_calm _|with_reducible exact numberAt_calm _|with_reducible exact behind_calm _
      |with_reducible exact pure_calm _|with_reducible exact stuck_calm _|with_reducible exact unsup_calm _|with_reducible exact asInt_calm _
      |with_reducible exact typeInfo_calm _|with_reducible exact underlying_calm _|with_reducible exact program_calm|with_reducible exact shape_calm _
      |with_reducible refine ite_calm ?_ ?_
      |with_reducible refine Sem.Calm.bind ?_ (fun _ => ?_)
      |split
      |dsimp only)
  ·refine Sem.Calm.bind (x:=asInt y) (asInt_calm y) fun n => ?_
   dsimp only
   repeat' (first
      |with_reducible exact viewAt_calm _|with_reducible exact numberAt_calm _|with_reducible exact behind_calm _
      |with_reducible exact pure_calm _|with_reducible exact stuck_calm _|with_reducible exact unsup_calm _|with_reducible exact asInt_calm _
      |with_reducible exact typeInfo_calm _|with_reducible exact underlying_calm _|with_reducible exact program_calm|with_reducible exact shape_calm _
      |with_reducible refine ite_calm ?_ ?_
      |with_reducible refine Sem.Calm.bind ?_ (fun _ => ?_)
      |split
      |dsimp only)
 all_goals exact True.intro
theorem byteOf_calm {P:Program} (a:Addr):(byteOf a).Calm P:=by
 unfold byteOf
 repeat' (first
    |with_reducible exact viewAt_calm _|with_reducible exact numberAt_calm _|with_reducible exact behind_calm _
    |with_reducible exact pure_calm _|with_reducible exact stuck_calm _|with_reducible exact unsup_calm _|with_reducible exact asInt_calm _
    |with_reducible exact typeInfo_calm _|with_reducible exact underlying_calm _|with_reducible exact program_calm|with_reducible exact shape_calm _
    |with_reducible refine ite_calm ?_ ?_
    |with_reducible refine Sem.Calm.bind ?_ (fun _ => ?_)
    |split
    |dsimp only)
 all_goals
  unfold noView
  repeat' (first
     |with_reducible exact viewAt_calm _|with_reducible exact numberAt_calm _|with_reducible exact behind_calm _
     |with_reducible exact pure_calm _|with_reducible exact stuck_calm _|with_reducible exact unsup_calm _|with_reducible exact asInt_calm _
     |with_reducible exact typeInfo_calm _|with_reducible exact underlying_calm _|with_reducible exact program_calm|with_reducible exact shape_calm _
     |with_reducible refine ite_calm ?_ ?_
     |with_reducible refine Sem.Calm.bind ?_ (fun _ => ?_)
     |split
     |dsimp only)
theorem places_calm {P:Program} (a b:Addr):(Op.twoPlaces a b).Calm P:=by
 unfold Op.twoPlaces
 refine program_calm.bind fun p => ?_
 dsimp only
 refine ite_calm True.intro ?_
 exact(byteOf_calm _).bind fun _=>(byteOf_calm _).bind fun _=>True.intro
theorem cmp_calm {P:Program} (a b:Addr):(Op.addrCmp .lss a b).Calm P:=(places_calm a b).bind fun _=>True.intro
theorem moved_calm {P:Program} (t:TypeId) (x y:Value):(movedNumber t x y).Calm P:=by
 unfold movedNumber
 refine(underlying_calm _).bind fun d => ?_
 dsimp only
 refine ite_calm True.intro ?_
 split
 ·refine(behind_calm _).bind fun z => ?_
  refine(add0_calm _ _ _ _).bind fun u => ?_
  split
  ·exact⟨fun _ _ _ h=>(nomatch h),fun _=>True.intro⟩
  ·exact True.intro
 ·exact add0_calm _ _ _ _
theorem movedP_calm {P:Program} (t:TypeId) (x y:Value):(movedPointer t x y).Calm P:=by
 unfold movedPointer
 split
 ·refine(numberAt_calm _).bind fun z => ?_
  exact ite_calm True.intro (add0_calm _ _ _ _)
 ·exact add0_calm _ _ _ _
theorem fl_calm {P:Program} (k:FloatKind) (x y:Nat):(Op.floatArith .add k x y).Calm P:=by
 unfold Op.floatArith
 refine Sem.Calm.bind True.intro fun r => ?_
 dsimp only
 split
 ·exact True.intro
 ·exact(choose_calm _).bind fun _=>True.intro
theorem lss_calm {P:Program} (t:TypeId) (x y:Value):(binOp .lss t x y).Calm P:=by
 cases x
 case pointer a=>
  cases a<;>cases y
  case some.pointer p b=>
   cases b
   ·exact True.intro
   ·exact(behind_calm _).bind fun _=>(behind_calm _).bind fun _=>cmp_calm _ _
  all_goals exact True.intro
 all_goals
  cases y
  all_goals first
   |exact True.intro
   |exact ite_calm True.intro True.intro
theorem add_calm {P:Program} (t:TypeId) (x y:Value):(binOp .add t x y).Calm P:=by
 cases x
 case pointer a=>
  cases y
  case int k n=>exact(underlying_calm _).bind fun _=>ite_calm (movedP_calm _ _ _) (moved_calm _ _ _)
  all_goals exact True.intro
 case int k n=>
  cases y
  case int k' n'=>exact ite_calm True.intro True.intro
  case pointer a=>exact moved_calm _ _ _
  all_goals exact True.intro
 case float k a=>
  cases y
  case float k' b=>exact ite_calm True.intro (fl_calm _ _ _)
  all_goals exact True.intro
 case complex k a b=>
  cases y
  case complex k' c d=>
   have h : ∀x y,(Op.Complex.arith .add k x y).Calm P:=fun x y=>by
    unfold Op.Complex.arith
    refine(fl_calm _ _ _).bind fun u => ?_
    split<;>exact True.intro
   exact ite_calm True.intro ((h _ _).bind fun _=>(h _ _).bind fun _=>True.intro)
  all_goals exact True.intro
 all_goals
  cases y
  all_goals first
   |exact True.intro
   |exact ite_calm True.intro True.intro
theorem len_calm {P:Program} (ts:Array TypeId) (t:TypeId) (vs:Array Value):(Builtin.len_ ts t vs).Calm P:=by
 unfold Builtin.len_
 repeat' (first
    |with_reducible exact viewAt_calm _|with_reducible exact numberAt_calm _|with_reducible exact behind_calm _
    |with_reducible exact pure_calm _|with_reducible exact stuck_calm _|with_reducible exact unsup_calm _|with_reducible exact asInt_calm _
    |with_reducible exact typeInfo_calm _|with_reducible exact underlying_calm _|with_reducible exact program_calm|with_reducible exact shape_calm _
    |with_reducible refine ite_calm ?_ ?_
    |with_reducible refine Sem.Calm.bind ?_ (fun _ => ?_)
    |split
    |dsimp only)
 all_goals exact getObj_calm _
theorem load0_calm {P:Program} (t:TypeId) (x:Value):(Instr.loadAt t x).Calm P:=by
 unfold Instr.loadAt
 refine(sureAddr_calm _).bind fun a => ?_
 unfold loadVar
 refine(isAgg_calm _).bind fun b => ?_
 refine ite_calm ((sizeOf_calm _).bind fun _=>(loadCells_calm _ _).bind fun _=>True.intro) (load_calm _ _)
theorem field_calm {P:Program} (t:TypeId) (x:Value) (f:Nat):(Instr.fieldAt t x f).Calm P:=by
 unfold Instr.fieldAt
 refine(underlying_calm _).bind fun d => ?_
 split
 ·split
  ·refine(sureAddr_calm _).bind fun a=>Sem.Calm.bind ?_ fun _=>True.intro
   unfold fieldPlace
   refine(sizeOf_calm _).bind fun n => ?_
   refine ite_calm ?_ True.intro
   unfold partAt
   exact(byteOf_calm _).bind fun _=>(byteOf_calm _).bind fun _=>True.intro
  ·exact True.intro
 ·exact True.intro
theorem mapM_calm {P:Program} {α β:Type} (f:α->Sem β) (hf : ∀a,(f a).Calm P) : ∀l:List α,(l.mapM f).Calm P
 | []=>by rw[List.mapM_nil];exact True.intro
 |a::l=>by
  rw[List.mapM_cons]
  exact(hf a).bind fun _=>(mapM_calm f hf l).bind fun _=>True.intro
theorem build_calm {P:Program} (t:TypeId) (ps:Array (Nat×Value)):(Instr.build t ps).Calm P:=by
 unfold Instr.build
 refine(zeroValue_calm _).bind fun z => ?_
 refine(underlying_calm _).bind fun z => ?_
 split
 ·rw[Array.mapM_eq_mapM_toList]
  refine Sem.Calm.bind ?_ fun _ => ?_
  ·rw[map_eq_pure_bind]
   refine(mapM_calm _ (fun f => ?_) _).bind fun _ => ?_
   ·exact(sizeOf_calm _).bind fun _=>pure_calm _
   ·exact pure_calm _
  ·split<;>exact True.intro
 ·refine(sizeOf_calm _).bind fun _ => ?_
  split<;>exact True.intro
 ·exact True.intro
def calmO (o:Oper):Bool:=match o.op with
 | .move _ | .assign _=>true
 | .load _ _ | .fieldAddr _ _ _ | .indexAddr _ _ _ | .build _ _ | .buildSlice _ _ _=>true
 | .binOp .lss _ _ _ _ | .binOp .add _ _ _ _=>true
 | .call { callee := .builtin .len,.. } | .call { callee := .builtin .append,.. }=>true
 |_=>false
theorem op_calm {P:Program} {o:Oper} (h:calmO o=true) (ρ:Operand->Value) : ∃s:Sem Value,execOp ρ o=s.bind (fun v => .pure (.value v))/\s.Calm P:=by
 obtain⟨dst,op,ty,pos,after,guard⟩:=o
 unfold calmO at h
 dsimp only at h
 split at h
 case h_1 x=>exact⟨.pure (ρ x),rfl,True.intro⟩
 case h_2 x=>exact⟨.pure (ρ x),rfl,True.intro⟩
 case h_3=>exact⟨_,rfl,load0_calm _ _⟩
 case h_4=>exact⟨_,rfl,field_calm _ _ _⟩
 case h_5=>exact⟨_,rfl,ix_calm _ _ _⟩
 case h_6=>exact⟨_,rfl,build_calm _ _⟩
 case h_7=>exact⟨_,rfl,bs_calm _ _ _⟩
 case h_8=>exact⟨_,rfl,lss_calm _ _ _⟩
 case h_9=>exact⟨_,rfl,add_calm _ _ _⟩
 case h_10=>exact⟨_,rfl,len_calm _ _ _⟩
 case h_11=>exact⟨_,rfl,app_calm _ _ _⟩
 case h_12=>cases h
def keepQ (K:Nat) (Q:Exit->Act->World->Prop):Exit->Act->World->Prop
 | .normal,a,w=>Q .normal a w/\Unf K w
 |e,a,w=>Q e a w
theorem keepQ_out {K:Nat} {Q:Exit->Act->World->Prop} (h:LetsOut Q):LetsOut (keepQ K Q):=h
theorem op_keep {P:Program} {K:Nat} {Q:Exit->Act->World->Prop} {o:Oper} (hc:calmO o=true) {K1 K2:Act->World->Prop} (hk : ∀a w,Unf K w->K1 a w->K2 a w) {a:Act} {w:World} (hu:Unf K w) (h:o.wp P a w K1 Q):o.wp P a w K2 (keepQ K Q):=by
 obtain⟨s,hs,hcalm⟩:=op_calm (P:=P) hc a.eval
 unfold Oper.wp at *
 rw[hs]at h ⊢
 have h2:=hcalm.run hu
 rw[Sem.run_bind']at h ⊢
 cases hr:s.run P w with
 |ok v w' =>
  rw[hr]at h h2
  exact hk _ _ h2 h
 |halt x w' =>
  rw[hr]at h
  cases x<;>exact h
theorem wpOp_keep {P:Program} {K:Nat} {Q:Exit->Act->World->Prop} {ops:Array Oper} (hc : ∀o∈ops.toList,calmO o=true) {i:Nat} {K1 K2:Act->World->Prop} (hk : ∀a w,Unf K w->K1 a w->K2 a w) {a:Act} {w:World} (hu:Unf K w) (h:wpOp P ops Q i K1 a w):wpOp P ops (keepQ K Q) i K2 a w:=by
 unfold wpOp at *
 cases ho:ops[i]? with
 |none=>simp only[ho]at h ⊢;exact hk _ _ hu h
 |some o=>
  simp only[ho]at h ⊢
  have hm:o∈ops.toList:=by
   rw[<- Array.getElem?_toList]at ho
   exact List.mem_of_getElem? ho
  split
  ·rename_i hw
   rw[if_pos hw]at h
   exact h.imp (op_keep (hc o hm) hk hu) fun h=>⟨h.1,keepQ_out h.2⟩
  ·rename_i hw
   rw[if_neg hw]at h
   exact hk _ _ hu h
theorem wpOps_keep {P:Program} {K:Nat} {Q:Exit->Act->World->Prop} {ops:Array Oper} (hc : ∀o∈ops.toList,calmO o=true) : ∀ (l:List Nat) {a:Act} {w:World},Unf K w->wpOps P ops Q l a w->wpOps P ops (keepQ K Q) l a w
 | [],_,_,hu,h=>⟨h,hu⟩
 |_::l,_,_,hu,h=>by
  rw[wpOps_cons]at h ⊢
  exact wpOp_keep hc (fun _ _ h1 h2=>wpOps_keep hc l h1 h2) hu h
theorem wpAny_keep {P:Program} {K:Nat} {md:Region.Mode} {Q:Exit->Act->World->Prop} {ops:Array Oper} (hc : ∀o∈ops.toList,calmO o=true) : ∀ (n:Nat) (l:Array Bool) {a:Act} {w:World},Unf K w->wpAny P md ops Q n l a w->wpAny P md ops (keepQ K Q) n l a w
 |0,_,_,_,hu,h=>⟨h.1,h.2,hu⟩
 |n+1,_,_,_,hu,h=>⟨fun e=>⟨h.1 e,hu⟩,fun i hi=>wpOp_keep hc (fun _ _ h1 h2=>wpAny_keep hc n _ h1 h2) hu (h.2 i hi)⟩
end Go
namespace Go.Proofs.YtdahehdomajbgaaGreatDoor
open Go.Ev
theorem own_mixed:Tryz.prog.follows .mixedOrders=true:=by kernel_rfl
def hd3:Code->Code
 | .seq x _=>x
 |c=>c
def tl3:Code->Code
 | .seq _ y=>y
 |c=>c
noncomputable def own3:Code:=(Tryz.f3).body.get!
def in3:Code->Code
 | .block _ (.loop c)=>c
 | .block _ c=>c
 |c=>c
noncomputable def own3L:Code:=tl3 (hd3 (tl3 (tl3 (tl3 (tl3 (tl3 own3))))))
noncomputable def own3B:Code:=in3 own3L
noncomputable def own3R:Code:=tl3 (tl3 (tl3 (tl3 (tl3 (tl3 own3)))))
section
variable {w0 w:World} {F I:Nat->Prop} {Z:Zy} {st:St} {a:Act} {K:Nat} {Q:Exit->Act->World->Prop}
theorem own_piece {c:Code} {R:Ex->St->Prop} (hG:GMet Z.gl) (hok:okCode 125 c=true) (h:To w0 F I Z 125 st a w) (hw:WP CX c st R)
  (hQ : ∀e s a' w',R e s->To w0 F I Z 125 s a' w'->Q e.cv a' w'):c.wp Tryz.prog Q a w:=by
 obtain⟨n,e,s,he,hr⟩:=hw
 exact exec_wp (callN_all (XL_ok hG) good_ok CX.mu n) own_mixed n hok h he fun a' w' hto=>hQ e s a' w' hr hto
theorem own_keep {id:Nat} {ops:Array Oper} {draw:Bool} {R:Ex->St->Prop} (hG:GMet Z.gl) (hok:okCode 125 (.region id ops draw)=true) (hc:ops.toList.all calmO=true) (h:To w0 F I Z 125 st a w) (hu:Unf K w)
  (hw:WP CX (.region id ops draw) st R) (hQ : ∀s a' w',R .normal s->To w0 F I Z 125 s a' w'->Unf K w'->Q .normal a' w'):(Code.region id ops draw).wp Tryz.prog Q a w:=by
 obtain⟨n,e,s,he,hr⟩:=hw
 have hcall:=callN_all (XL_ok hG) good_ok CX.mu n
 have hc' : ∀o∈ops.toList,calmO o=true:=List.all_eq_true.1 hc
 cases n with
 |zero=>simp[exec]at he
 |succ n=>
  unfold exec at he
  simp only at he
  split at he
  ·rename_i s0 hs0
   have hr0:To w0 F I Z 125 s0 a w:=by
    unfold preFrz at hs0
    split at hs0
    ·obtain⟨β,hb⟩:=h
     exact⟨β,hb.frzAll hs0⟩
    ·cases hs0;exact h
   split at he
   ·rename_i s1 hs
    cases he
    have key:=region_st (Q:=fun e a' w'=>e = .normal/\To w0 F I Z 125 s a' w') hcall hok hr0 hs fun a' w' ht=>⟨rfl,ht⟩
    have fin:(Code.region id ops draw).wp Tryz.prog (keepQ K fun e a' w'=>e = .normal/\To w0 F I Z 125 s a' w') a w:=by
     cases draw with
     |false=>exact wp_region (wpOps_keep hc' _ hu key)
     |true=>exact wp_region_any own_mixed (wpAny_keep hc' _ _ hu key)
    refine wp_mono fin fun e a' w' hk => ?_
    cases e with
    |normal=>exact hQ s a' w' hr hk.1.2 hk.2
    |_=>cases hk.1
   ·cases he
  ·cases he
def calmC:Code->Bool
 | .region _ ops _=>ops.toList.all calmO
 |_=>false
theorem own_keepC {c:Code} {R:Ex->St->Prop} (hG:GMet Z.gl) (hok:okCode 125 c=true) (hc:calmC c=true) (h:To w0 F I Z 125 st a w) (hu:Unf K w)
  (hw:WP CX c st R) (hQ : ∀s a' w',R .normal s->To w0 F I Z 125 s a' w'->Unf K w'->Q .normal a' w'):c.wp Tryz.prog Q a w:=by
 cases c with
 |region id ops draw=>exact own_keep hG hok hc h hu hw hQ
 |_=>cases hc
theorem own_bool {b:Bool} {x:Nat} (h:To w0 F I Z 125 st a w) (hv:st.tmp x = .sv (.bool b)):a.eval (.tmp x) = .bool b:=by
 obtain⟨β,h⟩:=h
 have:=h.eval (.tmp x)
 rw[show st.eval (.tmp x) = .sv (.bool b) from hv]at this
 exact rep_bool this
theorem wxc_bs1 {C:Cx} {ops l:List Oper} {dst:Option Nat} {t ty:TypeId} {pos:String} {af:Array Edge} {g:Option (Nat×Bool)} {p:Nat×Operand} {Q:St->Prop}:WXC C ops.toArray (⟨dst,.buildSlice t 1 #[p],ty,pos,af,g⟩::l) st Q=WO C false ops.toArray [⟨dst,.buildSlice t 1 #[p],ty,pos,af,g⟩] st (WXK C ops.toArray l Q):=wxc_go rfl
theorem wxc_far {C:Cx} {ops l:List Oper} {d s:Nat} {x:Operand} {ts:Array TypeId} {ty:TypeId} {pos:String} {af:Array Edge} {Q:St->Prop} (h:s+6<d):WXC C ops.toArray (⟨some d,.call { callee := .builtin .append,args := #[.tmp s,x],argTypes:=ts },ty,pos,af,none⟩::l) st Q=WO C false ops.toArray [⟨some d,.call { callee := .builtin .append,args := #[.tmp s,x],argTypes:=ts },ty,pos,af,none⟩] st (WXK C ops.toArray l Q):=wxc_go (by show (true&&(true&&Nat.ble d (s+6)))=false;rw[show Nat.ble d (s+6)=false from Bool.eq_false_iff.2 fun e=>Nat.not_le_of_lt h (Nat.le_of_ble_eq_true e)];rfl)
def Own1 (x y:SV) (bm:Nat->Option (List SV)) (ps:List InR) (i:Nat) (s:St):Prop:=s.bm=bm/\s.bw=false/\s.tmp 0 = .sv x/\s.tmp 3 = .sv y/\s.tmp 5 = .sv (.int .i64 (i:Int)) /\
 ((i=0/\s.tmp 4 = .nil)\/(0<i /\ ∃g,s.tmp 4 = .ref 52 g 3 0 i/\s.obj 52 g=some (ratsC (ps.take i))))
theorem own_i {i:Nat} (h:To w0 F I Z 125 st a w) (hv:st.tmp 5 = .sv (.int .i64 (i:Int))):a.tmps.getD 5 undef = .int .i64 (i:Int):=by
 obtain⟨β,h⟩:=h
 have:=h.tmps 5
 rw[hv]at this
 generalize a.tmps.getD 5 undef=u at this ⊢
 cases this
 rfl
def own5 (a:Act):Nat:=match a.tmps.getD 5 undef with
 | .int _ i=>i.toNat
 |_=>0
theorem ratsC_snoc {ps:List InR} {i:Nat} (h:i<ps.length):ratsC (ps.take (i+1))=ratsC (ps.take i)++[.bool (ps.getD i noS).1,natV (ps.getD i noS).2.1,natV (ps.getD i noS).2.2]:=by
 rw[List.take_add_one,List.getElem?_eq_getElem h,List.getD_eq_getElem?_getD,List.getElem?_eq_getElem h]
 unfold ratsC
 rw[List.flatMap_append]
 rfl
theorem own_round {b off c:Nat} {y:SV} {bm:Nat->Option (List SV)} {ps:List InR} {i:Nat} (hl:ps.length<=20) (hrow:RowY bm b off ps) (hb:ps.any big3=false) (hi:i<ps.length) (h:Own1 (conL b off ps.length c) y bm ps i st) :
  WP CX (in3 (hd3 (tl3 own3B))) st fun e s=>e = .normal/\s.bm=bm/\s.bw=false/\s.tmp 0 = .sv (conL b off ps.length c)/\s.tmp 3 = .sv y/\s.tmp 5 = .sv (.int .i64 (i:Int)) /\ ∃g,s.tmp 4 = .ref 52 g 3 0 (i+1)/\s.obj 52 g=some (ratsC (ps.take (i+1))):=by
 obtain⟨h1,h2,h3,h4,h5,h6⟩:=h
 have e0:=ratsC_snoc hi
 have e1:(ratsC (ps.take i)).length=i*3:=by rw[ratsC_len,List.length_take,Nat.min_eq_left (by omega)]
 obtain⟨cs,hbm,hy⟩:=hrow
 obtain⟨u,v,e,hu,hv⟩:=hy i hi
 have hbs:st.bm b=some cs:=by rw[h1];exact hbm
 obtain⟨d1,d2,d3⟩:=take3 e
 clear e hy hbm
 have hbig:big3 (ps.getD i noS)=false:=by
  have:=List.any_eq_false.1 hb (ps.getD i noS) (by rw[List.getD_eq_getElem?_getD,List.getElem?_eq_getElem hi];exact List.getElem_mem hi)
  simpa using this
 generalize ps.getD i noS=p at *
 obtain⟨s,n,d⟩:=p
 unfold big3 at hbig
 rw[Bool.or_eq_false_iff]at hbig
 have n3:n.length<=3:=Nat.le_of_not_lt (of_decide_eq_false hbig.1)
 have d3':d.length<=3:=Nat.le_of_not_lt (of_decide_eq_false hbig.2)
 clear hb hbig
 simp only at hu hv d1 e0
 have en:(n.map limb).length=n.length:=List.length_map _
 have ed:(d.map limb).length=d.length:=List.length_map _
 unfold own3B own3L own3 Tryz.f3
 simp only[Option.get!_some,hd3,tl3,in3]
 rcases h6 with⟨rfl,i4⟩|⟨h0,g,i4,hO⟩
 ·rw[Nat.zero_mul,Nat.add_zero]at d1 d2 d3
  rcases hu with⟨rfl,rfl⟩|⟨b1,o1,c1,rfl,cs1,m1,l1,z1⟩<;>rcases hv with⟨rfl,rfl⟩|⟨b2,o2,c2,rfl,cs2,m2,l2,z2⟩
  ·repeat (first|simp only[go_sem,h2,h3,h4,h5,i4,hbs,d1,d2,d3,Bool.not_false,wxc_bs1,wxc_far]|simp (disch:=first|exact oa|fail) only[AX,h2,h3,h4,h5,i4,hbs,d1,d2,d3,Bool.not_false,wxc_bs1,wxc_far]|refine wki ?_|refine wqn ?_|(refine vp_looseD (id:=10) (l:=[]) (S:=[([0,1,2,3,4,5,6,7,8,9,10,11,12,13,14,15,16,17,18,19,20],some (21,[0])),([],some (22,[])),([23],none)]) (by kernel_rfl) (by kernel_rfl) (by kernel_rfl) (by kernel_rfl) ?_))
   exact⟨h1,_,rfl,(if_pos rfl).trans (congrArg some e0.symm)⟩
  ·rw[<- h1]at m2
   repeat (first|simp only[go_sem,h2,h3,h4,h5,i4,hbs,d1,d2,d3,Bool.not_false,wxc_bs1,wxc_far,en,ed,m2,l2]|simp (disch:=first|exact oa|fail) only[AX,h2,h3,h4,h5,i4,hbs,d1,d2,d3,Bool.not_false,wxc_bs1,wxc_far,en,ed,m2,l2]|refine wki ?_|refine wqn ?_|(refine vp_looseD (id:=10) (l:=[]) (S:=[([0,1,2,3,4,5,6,7,8,9,10,11,12,13,14,15,16,17,18,19,20],some (21,[0])),([],some (22,[])),([23],none)]) (by kernel_rfl) (by kernel_rfl) (by kernel_rfl) (by kernel_rfl) ?_))
   exact⟨h1,_,rfl,(if_pos rfl).trans (congrArg some e0.symm)⟩
  ·rw[<- h1]at m1
   repeat (first|simp only[go_sem,h2,h3,h4,h5,i4,hbs,d1,d2,d3,Bool.not_false,wxc_bs1,wxc_far,en,ed,m1,l1]|simp (disch:=first|exact oa|fail) only[AX,h2,h3,h4,h5,i4,hbs,d1,d2,d3,Bool.not_false,wxc_bs1,wxc_far,en,ed,m1,l1]|refine wki ?_|refine wqn ?_|(refine vp_looseD (id:=10) (l:=[]) (S:=[([0,1,2,3,4,5,6,7,8,9,10,11,12,13,14,15,16,17,18,19,20],some (21,[0])),([],some (22,[])),([23],none)]) (by kernel_rfl) (by kernel_rfl) (by kernel_rfl) (by kernel_rfl) ?_))
   exact⟨h1,_,rfl,(if_pos rfl).trans (congrArg some e0.symm)⟩
  ·rw[<- h1]at m1
   rw[<- h1]at m2
   repeat (first|simp only[go_sem,h2,h3,h4,h5,i4,hbs,d1,d2,d3,Bool.not_false,wxc_bs1,wxc_far,en,ed,m1,l1,m2,l2]|simp (disch:=first|exact oa|fail) only[AX,h2,h3,h4,h5,i4,hbs,d1,d2,d3,Bool.not_false,wxc_bs1,wxc_far,en,ed,m1,l1,m2,l2]|refine wki ?_|refine wqn ?_|(refine vp_looseD (id:=10) (l:=[]) (S:=[([0,1,2,3,4,5,6,7,8,9,10,11,12,13,14,15,16,17,18,19,20],some (21,[0])),([],some (22,[])),([23],none)]) (by kernel_rfl) (by kernel_rfl) (by kernel_rfl) (by kernel_rfl) ?_))
   exact⟨h1,_,rfl,(if_pos rfl).trans (congrArg some e0.symm)⟩
 ·rcases hu with⟨rfl,rfl⟩|⟨b1,o1,c1,rfl,cs1,m1,l1,z1⟩<;>rcases hv with⟨rfl,rfl⟩|⟨b2,o2,c2,rfl,cs2,m2,l2,z2⟩
  ·repeat (first|simp only[go_sem,h2,h3,h4,h5,i4,hbs,d1,d2,d3,Bool.not_false,wxc_bs1,wxc_far,hO,N0,e1]|simp (disch:=first|exact oa|fail) only[AX,h2,h3,h4,h5,i4,hbs,d1,d2,d3,Bool.not_false,wxc_bs1,wxc_far,hO,N0,e1]|refine wki ?_|refine wqn ?_|(refine vp_looseD (id:=10) (l:=[]) (S:=[([0,1,2,3,4,5,6,7,8,9,10,11,12,13,14,15,16,17,18,19,20],some (21,[0])),([],some (22,[])),([23],none)]) (by kernel_rfl) (by kernel_rfl) (by kernel_rfl) (by kernel_rfl) ?_))
   exact⟨h1,_,rfl,(if_pos rfl).trans (congrArg some e0.symm)⟩
  ·rw[<- h1]at m2
   repeat (first|simp only[go_sem,h2,h3,h4,h5,i4,hbs,d1,d2,d3,Bool.not_false,wxc_bs1,wxc_far,hO,N0,e1,en,ed,m2,l2]|simp (disch:=first|exact oa|fail) only[AX,h2,h3,h4,h5,i4,hbs,d1,d2,d3,Bool.not_false,wxc_bs1,wxc_far,hO,N0,e1,en,ed,m2,l2]|refine wki ?_|refine wqn ?_|(refine vp_looseD (id:=10) (l:=[]) (S:=[([0,1,2,3,4,5,6,7,8,9,10,11,12,13,14,15,16,17,18,19,20],some (21,[0])),([],some (22,[])),([23],none)]) (by kernel_rfl) (by kernel_rfl) (by kernel_rfl) (by kernel_rfl) ?_))
   exact⟨h1,_,rfl,(if_pos rfl).trans (congrArg some e0.symm)⟩
  ·rw[<- h1]at m1
   repeat (first|simp only[go_sem,h2,h3,h4,h5,i4,hbs,d1,d2,d3,Bool.not_false,wxc_bs1,wxc_far,hO,N0,e1,en,ed,m1,l1]|simp (disch:=first|exact oa|fail) only[AX,h2,h3,h4,h5,i4,hbs,d1,d2,d3,Bool.not_false,wxc_bs1,wxc_far,hO,N0,e1,en,ed,m1,l1]|refine wki ?_|refine wqn ?_|(refine vp_looseD (id:=10) (l:=[]) (S:=[([0,1,2,3,4,5,6,7,8,9,10,11,12,13,14,15,16,17,18,19,20],some (21,[0])),([],some (22,[])),([23],none)]) (by kernel_rfl) (by kernel_rfl) (by kernel_rfl) (by kernel_rfl) ?_))
   exact⟨h1,_,rfl,(if_pos rfl).trans (congrArg some e0.symm)⟩
  ·rw[<- h1]at m1
   rw[<- h1]at m2
   repeat (first|simp only[go_sem,h2,h3,h4,h5,i4,hbs,d1,d2,d3,Bool.not_false,wxc_bs1,wxc_far,hO,N0,e1,en,ed,m1,l1,m2,l2]|simp (disch:=first|exact oa|fail) only[AX,h2,h3,h4,h5,i4,hbs,d1,d2,d3,Bool.not_false,wxc_bs1,wxc_far,hO,N0,e1,en,ed,m1,l1,m2,l2]|refine wki ?_|refine wqn ?_|(refine vp_looseD (id:=10) (l:=[]) (S:=[([0,1,2,3,4,5,6,7,8,9,10,11,12,13,14,15,16,17,18,19,20],some (21,[0])),([],some (22,[])),([23],none)]) (by kernel_rfl) (by kernel_rfl) (by kernel_rfl) (by kernel_rfl) ?_))
   exact⟨h1,_,rfl,(if_pos rfl).trans (congrArg some e0.symm)⟩
theorem own_loop {x y:SV} {bm:Nat->Option (List SV)} {ps:List InR} (hG:GMet Z.gl) (hl:ps.length<=20) (hx:(∃b off c,x=conL b off ps.length c/\RowY bm b off ps)\/(x = .sl 0 []/\ps=[])) (hb:ps.any big3=false) (h:To w0 F I Z 125 st a w) (hu:Unf K w) (h0:Own1 x y bm ps 0 st)
  (hQ : ∀s a' w',To w0 F I Z 125 s a' w'->Unf K w'->Own1 x y bm ps ps.length s->Q .normal a' w'):own3L.wp Tryz.prog Q a w:=by
 have e:own3L = .block 0 (.loop own3B):=by kernel_rfl
 have eB:own3B = .seq (.seq (hd3 (hd3 own3B)) (.cond (.tmp 27) .skip (.exit 0))) (.seq (.block 1 (in3 (hd3 (tl3 own3B)))) (tl3 (tl3 own3B))):=by kernel_rfl
 rw[e]
 refine wp_block (wp_loop (fun a w => ∃s i,To w0 F I Z 125 s a w/\Unf K w/\i<=ps.length/\Own1 x y bm ps i s) (fun a _=>ps.length-own5 a) ⟨st,0,h,hu,Nat.zero_le _,h0⟩ ?_)
 rintro a w ⟨s,i,ht,hu,hi,ho⟩
 have hi5:own5 a=i:=by unfold own5;rw[own_i ht ho.2.2.2.2.1];rfl
 rw[eB]
 refine wp_seq (wp_seq ?_)
 have w8:WP CX (hd3 (hd3 own3B)) s fun e s2=>e = .normal/\Own1 x y bm ps i s2/\s2.tmp 27 = .sv (.bool (decide (i<ps.length))):=by
  obtain⟨h1,h2,h3,h4,h5,h6⟩:=ho
  unfold own3B own3L own3 Tryz.f3
  simp only[Option.get!_some,hd3,tl3,in3]
  rcases hx with⟨b,off,c,rfl,_⟩|⟨rfl,rfl⟩
  ·rcases Nat.lt_or_ge i ps.length with hlt|hge
   ·rw[decide_eq_true hlt]
    repeat (first|simp only[go_sem,h2,h3,h4,h5]|simp (disch:=first|exact oa|fail) only[AX,h2,h3,h4,h5]|refine wki ?_|refine wqn ?_|(refine vp_looseD (id:=10) (l:=[]) (S:=[([0,1,2,3,4,5,6,7,8,9,10,11,12,13,14,15,16,17,18,19,20],some (21,[0])),([],some (22,[])),([23],none)]) (by kernel_rfl) (by kernel_rfl) (by kernel_rfl) (by kernel_rfl) ?_))
    exact⟨h1,h2,h3,h4,h5,h6⟩
   ·rw[decide_eq_false (by omega)]
    repeat (first|simp only[go_sem,h2,h3,h4,h5]|simp (disch:=first|exact oa|fail) only[AX,h2,h3,h4,h5]|refine wki ?_|refine wqn ?_|(refine vp_looseD (id:=10) (l:=[]) (S:=[([0,1,2,3,4,5,6,7,8,9,10,11,12,13,14,15,16,17,18,19,20],some (21,[0])),([],some (22,[])),([23],none)]) (by kernel_rfl) (by kernel_rfl) (by kernel_rfl) (by kernel_rfl) ?_))
    exact⟨h1,h2,h3,h4,h5,h6⟩
  ·have hi0:i=0:=by simpa using hi
   subst hi0
   repeat (first|simp only[go_sem,h2,h3,h4,h5]|simp (disch:=first|exact oa|fail) only[AX,h2,h3,h4,h5]|refine wki ?_|refine wqn ?_|(refine vp_looseD (id:=10) (l:=[]) (S:=[([0,1,2,3,4,5,6,7,8,9,10,11,12,13,14,15,16,17,18,19,20],some (21,[0])),([],some (22,[])),([23],none)]) (by kernel_rfl) (by kernel_rfl) (by kernel_rfl) (by kernel_rfl) ?_))
   exact⟨⟨h1,h2,h3,h4,h5,h6⟩,rfl⟩
 refine own_keepC hG (by kernel_rfl) (by kernel_rfl) ht hu w8 fun s2 a2 w2 hr ht2 hu2 => ?_
 obtain⟨_,ho2,h27⟩:=hr
 clear w8 ht hu ho
 refine wp_cond (t:=decide (i<ps.length)) (own_bool ht2 h27) ?_
 rcases Nat.lt_or_ge i ps.length with hlt|hge
 ·rw[decide_eq_true hlt]
  refine wp_skip ?_
  obtain⟨b,off,c,hxe,hrow⟩:=hx.resolve_right (fun e=>by rw[e.2]at hlt;exact absurd hlt (Nat.not_lt_zero _))
  refine wp_seq (wp_block ?_)
  refine own_keepC hG (by kernel_rfl) (by kernel_rfl) ht2 hu2 (by rw[hxe]at ho2;exact own_round hl hrow hb hlt ho2) fun s3 a3 w3 hr ht3 hu3 => ?_
  obtain⟨_,h1,h2,h3,h4,h5,g,h6,h7⟩:=hr
  rw[<- hxe]at h3
  have w9:WP CX (tl3 (tl3 own3B)) s3 fun e s2=>e = .normal/\Own1 x y bm ps (i+1) s2:=by
   unfold own3B own3L own3 Tryz.f3
   simp only[Option.get!_some,hd3,tl3,in3]
   repeat (first|simp only[go_sem,h2,h3,h4,h5]|simp (disch:=first|exact oa|fail) only[AX,h2,h3,h4,h5]|refine wki ?_|refine wqn ?_|(refine vp_looseD (id:=10) (l:=[]) (S:=[([0,1,2,3,4,5,6,7,8,9,10,11,12,13,14,15,16,17,18,19,20],some (21,[0])),([],some (22,[])),([23],none)]) (by kernel_rfl) (by kernel_rfl) (by kernel_rfl) (by kernel_rfl) ?_))
   exact⟨h1,h2,h3,h4,rfl,.inr ⟨Nat.succ_pos _,g,h6,h7⟩⟩
  refine own_keepC hG (by kernel_rfl) (by kernel_rfl) ht3 hu3 w9 fun s4 a4 w4 hr ht4 hu4 => ?_
  refine⟨⟨s4,i+1,ht4,hu4,hlt,hr.2⟩,?_⟩
  have hi6:own5 a4=i+1:=by unfold own5;rw[own_i ht4 hr.2.2.2.2.2.1];rfl
  rw[hi5,hi6]
  omega
 ·rw[decide_eq_false (by omega)]
  have ei:i=ps.length:=by omega
  subst ei
  exact wp_exit (hQ _ _ _ ht2 hu2 ho2)
end
end Go.Proofs.YtdahehdomajbgaaGreatDoor
namespace Go.Proofs.YtdahehdomajbgaaGreatDoor
open Go.Ev
section
variable {w:World} {M B:Nat->Prop}
def RowZ (bm:Nat->Option (List SV)) (M:Nat->Prop) (b off:Nat) (ps:List InR):Prop := ∃cs,bm b=some cs /\ ∀i,i<ps.length -> ∃u v,(cs.drop (off+i*3)).take 3=[.bool (ps.getD i noS).1,u,v]/\SlX bm u (ps.getD i noS).2.1/\SlX bm v (ps.getD i noS).2.2/\(u = .sl 0 [] \/ ∃b' o c,u=conL b' o (ps.getD i noS).2.1.length c /\ ¬M b')
theorem RowZ.y {bm:Nat->Option (List SV)} {b off:Nat} {ps:List InR} (h:RowZ bm M b off ps):RowY bm b off ps:=by
 obtain⟨cs,h1,h2⟩:=h
 exact⟨cs,h1,fun i hi=>by
  obtain⟨u,v,e,hu,hv,_⟩:=h2 i hi
  exact⟨u,v,e,hu,hv⟩⟩
theorem take3_mk {cs:List SV} {k:Nat} {a b c:SV} (h1:cs[k]?=some a) (h2:cs[k+1]?=some b) (h3:cs[k+2]?=some c):(cs.drop k).take 3=[a,b,c]:=by
 refine List.ext_getElem? fun i => ?_
 match i with
 |0=>rw[List.getElem?_take_of_lt (by omega),List.getElem?_drop];exact h1
 |1=>rw[List.getElem?_take_of_lt (by omega),List.getElem?_drop];exact h2
 |2=>rw[List.getElem?_take_of_lt (by omega),List.getElem?_drop];exact h3
 |i+3=>rw[List.getElem?_eq_none (by rw[List.length_take];omega)];rfl
theorem rowZ_of {us:Array Value} {b off:Nat} {ps:List InR} (hbm:bmW w B b=some (us.toList.map toCon)) (hc : ∀i s,(ratsC ps)[i]?=some s -> ∃v,(us.toList.map toCon)[off+i]?=some (toCon v)/\Rep w M v s) (hB : ∀b,¬M b->b<w.heap.size->B b):RowZ (bmW w B) M b off ps:=by
 refine⟨_,hbm,fun i hi => ?_⟩
 obtain⟨rest,hr⟩:=ratsC_atS hi
 have at0 : ∀j s,(SV.bool (ps.getD i noS).1::natV (ps.getD i noS).2.1::natV (ps.getD i noS).2.2::rest)[j]?=some s->(ratsC ps)[i*3+j]?=some s:=fun j s h=>by
  rw[<- List.getElem?_drop,hr]
  exact h
 obtain⟨v0,e0,r0⟩:=hc _ _ (at0 0 _ rfl)
 obtain⟨v1,e1,r1⟩:=hc _ _ (at0 1 _ rfl)
 obtain⟨v2,e2,r2⟩:=hc _ _ (at0 2 _ rfl)
 have t0:toCon v0 = .bool (ps.getD i noS).1:=by
  cases r0
  rfl
 rw[t0]at e0
 obtain⟨s1,p1⟩:=slx_of r1 hB
 obtain⟨s2,_⟩:=slx_of r2 hB
 exact⟨toCon v1,toCon v2,take3_mk e0 (by rw[<- e1];congr 1) (by rw[<- e2];congr 1),s1,s2,p1⟩
end
theorem own_arg {w:World} {M:Nat->Prop} {v:Value} {ps:List InR} (h:Rep w M v (rowV ps)) : ∃x,(∀M',Rep w M' v x)/\((∃b off c,x=conL b off ps.length c/\RowY (bmW w fun _=>True) b off ps)\/(x = .sl 0 []/\ps=[])):=by
 by_cases h0:ps=[]
 ·subst h0
  refine⟨.sl 0 [],fun M' => ?_,.inr ⟨rfl,rfl⟩⟩
  have h:Rep w M v (.sl 0 []):=h
  cases h with
  |sl0 A n cap hn=>exact .sl0 _ _ _ hn
  |sl a n cap hn cells c hb hc hr=>exact .sl0 _ _ _ hn
 ·have hpos:0<ps.length:=List.length_pos_iff.2 h0
  have hlen:=ratsC_len ps
  have h:Rep w M v (.sl ps.length (ratsC ps)):=h
  generalize hcs:ratsC ps=cells at h
  cases h with
  |sl0 A n cap hn=>
   rw[hcs]at hlen
   rw[List.length_nil]at hlen
   omega
  |sl a n cap hn cells c hb hc hr=>
   rw[hcs]at hlen
   obtain⟨us,ty,fz,ea,hbk,hbm,hget⟩:=cells_at (B:=fun _=>True) (n:=ps.length*3) (c:=c) (fun i hi=>hc i cells[i] (List.getElem?_eq_getElem (by omega))) (by omega) True.intro
   obtain⟨b,off,sp⟩:=a
   cases ea
   refine⟨conL b off ps.length cap,fun M' => .con _ rfl,.inl ⟨b,off,cap,rfl,?_⟩⟩
   refine(rowZ_of (M:=M) hbm (fun i s hi => ?_) fun _ _ _=>True.intro).y
   have hlt:i<ps.length*3:=by
    have:=(List.getElem?_eq_some_iff.1 hi).1
    rw[hcs,hlen]at this
    exact this
   exact⟨c i,hget i hlt,hr i s (by rw[<- hcs];exact hi)⟩
def stB (bm:Nat->Option (List SV)) (x y:SV):St:=⟨fun t=>if t=0 then .sv x else if t=3 then .sv y else if t=4 then .nil else if t=5 then .sv (.int .i64 0) else .undef,fun _ _=>none,fun _=>0,fun _ _=>none,fun _ => .undef,bm,false⟩
theorem own_viewB {w:World} {a:Act} {x y:SV} (hd:a.defers=[]) (hs:a.tmps.size=125) (h0 : ∀M,Rep w M (a.tmps.getD 0 undef) x) (h3 : ∀M,Rep w M (a.tmps.getD 3 undef) y) (h4:a.tmps.getD 4 undef = .slice none 0 0) (h5:a.tmps.getD 5 undef = .int .i64 0) :
  To w (fun b=>b<w.heap.size) (fun _=>False) ⟨fun _=>0,fun _=>undef,False,[]⟩ 125 (stB (bmW w fun _=>True) x y) a w:=by
 have hid : ∀t,((stB (bmW w fun _=>True) x y).tmp t).id=none:=fun t=>by
  simp only[stB]
  repeat' split
  all_goals rfl
 exact⟨fun _ _=>0,{
  defers:=hd
  size:=hs
  tmps:=fun t=>by
   simp only[stB]
   repeat' split
   ·rename_i e;subst e;exact h0 _
   ·rename_i e;subst e;exact h3 _
   ·rename_i e;subst e;exact h4
   ·rename_i e;subst e;rw[h5];exact .int _ _
   ·exact True.intro
  ids:=fun t d g e=>by rw[hid]at e;cases e
  objs:=fun d g cs h=>by cases h
  own:=fun d g h=>by cases h
  room:=by decide
  inj:=fun d g d' g' h=>by cases h
  gens:=fun d g h=>by cases h
  ext:=Ext.refl _ _
  old:=fun b hb=>hb
  imps:=fun b hb=>hb.elim
  pin:=fun _ _ _ _=>rfl
  ups:=fun t=>True.intro
  uids:=fun t d g e=>by cases e
  glob:=fun g v hg=>by cases hg
  hobs:=fun d g ts h=>by cases h
  bms:=fun b cs h=>by
   have h:bmW w (fun _=>True) b=some cs:=h
   obtain⟨_,us,ty,fz,hb,rfl⟩:=bmW_get h
   exact⟨fun d g h=>(by cases h),us,ty,fz,hb,fun e=>(by cases e),fun i s hi=>bmW_cells hi⟩ }⟩
def stC (bm:Nat->Option (List SV)) (z x:SV):St:=⟨fun t=>if t=0 then .sv z else if t=3 then .ptr 2000021 0 0 else if t=4 then .sv x else .undef,fun d g=>if d=2000021/\g=0 then some [] else none,fun _=>1,fun d g=>if d=2000021/\g=0 then some [.nil,.sv (.int .i64 6)] else none,fun _ => .undef,bm,true⟩
theorem own_viewC {w:World} {a:Act} {z x:SV} {K bS:Nat} {cs:Array Value} {ty:TypeId} (hu:Unf K w) (hd:a.defers=[]) (hs:a.tmps.size=125) (hbS:bS<K)
  (hz:Rep w (fun b=>(K<=b/\b<w.heap.size)\/b=bS) (a.tmps.getD 0 undef) z) (h3:a.tmps.getD 3 undef = .pointer (some ⟨bS,0,none⟩)) (h4 : ∀M,Rep w M (a.tmps.getD 4 undef) x)
  (hob:w.heap[bS]?=some (.cells cs ty (0,0))) (hc0:cs[0]?=some (.slice none 0 0)) (hc1:cs[1]?=some (.int .i64 6)) :
  To w (fun b=>K<=b/\b<w.heap.size) (fun b=>(bmW w (fun b=>K<=b/\b<w.heap.size) b).isSome=true\/b=bS) ⟨fun _=>bS,fun _=>undef,True,[]⟩ 125 (stC (bmW w fun b=>K<=b/\b<w.heap.size) z x) a w:=by
 generalize hbm:(bmW w fun b=>K<=b/\b<w.heap.size)=bm
 have hlt:bS<w.heap.size:=Nat.lt_of_lt_of_le hbS hu.1
 have hobj : ∀d g,((stC bm z x).obj d g).isSome=true->d=2000021/\g=0:=fun d g h=>by
  simp only[stC]at h
  split at h
  ·assumption
  ·cases h
 have hid : ∀t d g,((stC bm z x).tmp t).id=some (d,g)->g<(stC bm z x).gen d:=fun t d g e=>by
  simp only[stC]at e
  split at e
  ·cases e
  split at e
  ·simp only[TV.id,Option.some.injEq,Prod.mk.injEq]at e
   rw[<- e.2]
   exact Nat.succ_pos _
  split at e
  ·cases e
  ·cases e
 have hmut : ∀b,Mut (fun b=>K<=b/\b<w.heap.size) (fun _ _=>bS) (stC bm z x) b->(K<=b/\b<w.heap.size)\/b=bS:=by
  rintro b (h|⟨d,g,_,rfl⟩)
  ·exact .inl h
  ·exact .inr rfl
 exact⟨fun _ _=>bS,{
  defers:=hd
  size:=hs
  tmps:=fun t=>by
   simp only[stC]
   split
   ·rename_i e
    subst e
    exact Rep.mono (w:=w) (fun _ _ _=>rfl) (fun b _ hm=>hmut b hm) hz
   split
   ·rename_i e;subst e;exact h3
   split
   ·rename_i e;subst e;exact h4 _
   ·exact True.intro
  ids:=hid
  objs:=fun d g l h=>by
   have:=hobj d g (by rw[h];rfl)
   simp only[stC]at h
   rw[if_pos this]at h
   cases h
   exact⟨cs,ty,hob,fun i s hi=>by simp at hi⟩
  own:=fun d g h=>by
   obtain⟨rfl,rfl⟩:=hobj d g h
   exact⟨fun _ => .inr ⟨True.intro,.inr rfl⟩,fun _ h=>absurd h (by decide)⟩
  room:=by decide
  inj:=fun d g d' g' h h' _=>by
   obtain⟨rfl,rfl⟩:=hobj d g h
   obtain⟨rfl,rfl⟩:=hobj d' g' h'
   exact⟨rfl,rfl⟩
  gens:=fun d g h=>by
   obtain⟨rfl,rfl⟩:=hobj d g h
   exact Nat.succ_pos _
  ext:=Ext.refl _ _
  old:=fun b hb=>hb.2
  imps:=fun b hb=>⟨.inr True.intro,fun _=>by
   rcases hb with hb|rfl
   ·exact .inr hb
   ·exact .inl fun h=>Nat.not_le_of_lt hbS h.1⟩
  pin:=fun _ _ _ _=>rfl
  ups:=fun t=>True.intro
  uids:=fun t d g e=>by cases e
  glob:=fun g v hg=>by cases hg
  hobs:=fun d g ts h=>by
   simp only[stC]at h
   split at h
   ·rename_i e
    obtain⟨rfl,rfl⟩:=e
    cases h
    refine⟨by decide,rfl,cs,ty,hob,fun i t hi => ?_⟩
    match i with
    |0=>cases hi;exact⟨_,hc0,rfl,rfl,fun d' g' e=>by cases e⟩
    |1=>cases hi;exact⟨_,hc1,rfl,.int _ _,fun d' g' e=>by cases e⟩
    |i+2=>cases hi
   ·cases h
  bms:=fun b l h=>by
   have h:bm b=some l:=h
   have hi:(bm b).isSome=true:=by rw[h];rfl
   rw[<- hbm]at h
   obtain⟨hB,us,ty,fz,hb,rfl⟩:=bmW_get h
   refine⟨fun d g _ e => ?_,us,ty,fz,hb,fun _=>⟨hu.2 b us ty fz hB.1 hb,hB,.inl hi⟩,fun i s hi=>bmW_cells hi⟩
   rw[<- e]at hB
   exact Nat.not_le_of_lt hbS hB.1 }⟩
end Go.Proofs.YtdahehdomajbgaaGreatDoor
namespace Go.Proofs.YtdahehdomajbgaaGreatDoor
open Go.Ev
def HdU (bm:Nat->Option (List SV)) (b:Nat) (u:SV):Prop:=u = .sl 0 [] \/ ∃b' o k c' cs',u=conL b' o k c'/\b'≠b/\bm b'=some cs'/\(0<k->o+k<=cs'.length)/\k<=c'/\k<=3
def HdR (bm:Nat->Option (List SV)) (x:SV) (n i:Nat):Prop:=(x = .sl 0 []/\n=0) \/ ∃b c,x=conL b 0 n c/\n<=c /\ ∃cs,bm b=some cs/\n*3<=cs.length /\ ∀j,i<=j->j<n -> ∃u,(cs.drop (j*3+1)).take 1=[u]/\HdU bm b u
theorem splice_far {cs new:List SV} {off k:Nat} (h:off+new.length<=cs.length) (hk:off+new.length<=k):((splice cs off new).drop k).take 1=(cs.drop k).take 1:=by
 refine List.ext_getElem? fun i => ?_
 match i with
 |0=>rw[List.getElem?_take_of_lt (by omega),List.getElem?_take_of_lt (by omega),List.getElem?_drop,List.getElem?_drop,splice_get h,if_neg (by omega)]
 |i+1=>rw[List.getElem?_eq_none (by rw[List.length_take];omega),List.getElem?_eq_none (by rw[List.length_take];omega)]
theorem HdU.far {bm:Nat->Option (List SV)} {b b1:Nat} {u:SV} {cs new:List SV} {off:Nat} (h:HdU bm b u) (hb:bm b1=some cs) (hl:off+new.length<=cs.length):HdU (fun b'=>if b'=b1 then some (splice cs off new) else bm b') b u:=by
 rcases h with rfl|⟨b',o,k,c',cs',rfl,hne,hbm,hlen,hc⟩
 ·exact .inl rfl
 ·by_cases e:b'=b1
  ·subst e
   rw[hb]at hbm
   cases hbm
   exact .inr ⟨b',o,k,c',_,rfl,hne,if_pos rfl,fun h=>by rw[splice_len hl];exact hlen h,hc⟩
  ·exact .inr ⟨b',o,k,c',cs',rfl,hne,(if_neg e).trans hbm,hlen,hc⟩
theorem hdR_of {bm:Nat->Option (List SV)} {x:SV} {ps:List InR} {M:Nat->Prop} (hb:ps.any big3=false) (hx:(∃b c,x=conL b 0 ps.length c/\ps.length<=c/\RowZ bm M b 0 ps/\M b)\/(x = .sl 0 []/\ps=[])):HdR bm x ps.length 0:=by
 rcases hx with⟨b,c,rfl,hc,⟨cs,hbm,hZ⟩,hM⟩|⟨rfl,rfl⟩
 ·refine .inr ⟨b,c,rfl,hc,cs,hbm,?_,fun j _ hj => ?_⟩
  ·rcases Nat.eq_zero_or_pos ps.length with h0|h0
   ·omega
   ·obtain⟨u,v,e,_⟩:=hZ (ps.length-1) (by omega)
    have:=congrArg List.length e
    rw[List.length_take,List.length_drop]at this
    simp only[List.length_cons,List.length_nil]at this
    omega
  ·obtain⟨u,v,e,hu,hv,hp⟩:=hZ j hj
   obtain⟨_,e1,_⟩:=take3 e
   rw[Nat.zero_add]at e1
   refine⟨u,e1,?_⟩
   rcases hp with rfl|⟨b',o,c',rfl,hne⟩
   ·exact .inl rfl
   ·rcases hu with⟨hu,_⟩|⟨b2,o2,c2,hu,cs',h1,h2,h3⟩
    ·cases hu
    ·cases hu
     have hbig:big3 (ps.getD j noS)=false:=by
      have:=List.any_eq_false.1 hb (ps.getD j noS) (by rw[List.getD_eq_getElem?_getD,List.getElem?_eq_getElem hj];exact List.getElem_mem hj)
      simpa using this
     unfold big3 at hbig
     rw[Bool.or_eq_false_iff]at hbig
     have n3:(ps.getD j noS).2.1.length<=3:=Nat.le_of_not_lt (of_decide_eq_false hbig.1)
     refine .inr ⟨b',o,_,c',cs',rfl,fun e=>hne (e▸hM),h1,fun hk => ?_,h3,n3⟩
     have:=congrArg List.length h2
     rw[List.length_take,List.length_drop,List.length_map]at this
     omega
 ·exact .inl ⟨rfl,rfl⟩
def lenU:SV->Nat
 | .con (.slice _ n _)=>n
 |_=>0
def Own2 (ps:List InR) (qs:List Rat) (s:St):Prop:=s.tmp 0 = .sv (rowV ps)/\s.tmp 3 = .ptr 2000021 0 0/\s.tmp 6 = .sv (.int .i64 0)/\SessR s 2000021 0 [([97],qs.length,rvsC qs)] 6/\s.bw=true/\0<s.gen 2000021
theorem rats_nil:Go.Ev.Fn CX 8 [.sl 0 [],.sl 0 []] (.bool true):=by
 refine fni Tryz.f8 ?_;unfold Tryz.f8;simp only[Option.get!_some]
 repeat (first|simp only[go_sem]|simp (disch:=first|exact oa|fail) only[AX]|refine wki ?_|refine wqn ?_|refine vpd 6 [] ?_)
 rw[vp_loop]
 repeat (first|simp only[go_sem]|simp (disch:=first|exact oa|fail) only[AX]|refine wki ?_|refine wqn ?_|refine vpd 6 [] ?_)
noncomputable def own3T:Code:=tl3 (tl3 (tl3 (tl3 (tl3 own3R))))
def Own4 (ps:List InR) (qs:List Rat) (s:St):Prop:=s.tmp 0 = .sv (.sl qs.length (ratsC ps))/\s.tmp 3 = .ptr 2000021 0 0/\SessR s 2000021 0 [([97],qs.length,rvsC qs)] 6/\s.bw=true/\0<s.gen 2000021
theorem own_tail {st:St} {ps:List InR} {qs:List Rat} (hql:qs.length=ps.length) (hl:ps.length<=20) (hz : ∀q∈qs,szR q 500) (hrow:RowC (ratsC ps) qs 3) (h:Own4 ps qs st):WP CX own3T st fun e s=>e = .ret/\s.tmp 2 = .sv (.bool true):=by
 have kn:=law22_known
 obtain⟨i0,i3,iS,iw,ig⟩:=h
 unfold own3T own3R own3 Tryz.f3
 simp only[Option.get!_some,hd3,tl3,in3]
 repeat (first|simp only[go_sem,i3]|simp (disch:=first|exact oa|fail) only[AX,i3]|refine wki ?_|refine wqn ?_|(refine vp_looseD (id:=10) (l:=[]) (S:=[([0,1,2,3,4,5,6,7,8,9,10,11,12,13,14,15,16,17,18,19,20],some (21,[0])),([],some (22,[])),([23],none)]) (by kernel_rfl) (by kernel_rfl) (by kernel_rfl) (by kernel_rfl) ?_))
 refine own_Get (d:=2000021) (g:=0) (qs:=qs) hz (by omega) (iS.of rfl (fun _=>rfl) (Nat.le_refl _)) iw ig ?_
 intro s2 T hk hS hT hob
 have j0:s2.tmp 0 = .sv (.sl qs.length (ratsC ps)):=hk.sv 0 _ i0
 rcases hT with⟨rfl,h0⟩|⟨gm,rfl,hO,hgm⟩
 ·have hp0:ps=[]:=List.eq_nil_of_length_eq_zero (by rw[<- hql,h0];rfl)
  subst hp0
  subst h0
  have j0:s2.tmp 0 = .sv (.sl 0 []):=j0
  have rn:=rats_nil
  repeat (first|simp only[go_sem,j0]|simp (disch:=first|exact oa|fail) only[AX,j0]|refine wki ?_|refine wqn ?_|(refine vp_looseD (id:=10) (l:=[]) (S:=[([0,1,2,3,4,5,6,7,8,9,10,11,12,13,14,15,16,17,18,19,20],some (21,[0])),([],some (22,[])),([23],none)]) (by kernel_rfl) (by kernel_rfl) (by kernel_rfl) (by kernel_rfl) ?_)|refine vf_of (by first|exact rn|exact kn) ?_)
 ·repeat (first|simp only[go_sem,j0,hO]|simp (disch:=first|exact oa|fail) only[AX,j0,hO]|refine wki ?_|refine wqn ?_|(refine vp_looseD (id:=10) (l:=[]) (S:=[([0,1,2,3,4,5,6,7,8,9,10,11,12,13,14,15,16,17,18,19,20],some (21,[0])),([],some (22,[])),([23],none)]) (by kernel_rfl) (by kernel_rfl) (by kernel_rfl) (by kernel_rfl) ?_))
  refine own_Rats (e:=16) (f:=gm) (qs:=qs) (cs:=ratsC ps) (L:=3) hz hrow (by decide) (by decide) (by omega) hO (by decide) ?_
  intro s3 hs
  have m117:s3.tmp 117 = .sv (.bool true):=hs.tmp 117
  clear hs
  repeat (first|simp only[go_sem,m117]|simp (disch:=first|exact oa|fail) only[AX,m117]|refine wki ?_|refine wqn ?_|(refine vp_looseD (id:=10) (l:=[]) (S:=[([0,1,2,3,4,5,6,7,8,9,10,11,12,13,14,15,16,17,18,19,20],some (21,[0])),([],some (22,[])),([23],none)]) (by kernel_rfl) (by kernel_rfl) (by kernel_rfl) (by kernel_rfl) ?_)|refine vf_of (by first|exact kn) ?_)
theorem own_rest {st:St} {ps:List InR} {x:SV} {M:Nat->Prop} (hok : ∀p∈ps,p.ok) (hb:ps.any big3=false) (hl:ps.length<=20) (hz : ∀q∈ps.map InR.q,szR q 500)
  (hx:(∃b c,x=conL b 0 ps.length c/\ps.length<=c/\RowZ st.bm M b 0 ps/\M b)\/(x = .sl 0 []/\ps=[]))
  (h0:st.tmp 0 = .sv (rowV ps)) (h3:st.tmp 3 = .ptr 2000021 0 0) (h4:st.tmp 4 = .sv x) (hob:st.hob 2000021 0=some [.nil,.sv (.int .i64 6)]) (hgd:0<st.gen 2000021) (hbw:st.bw=true) :
  WP CX own3R st fun e s=>e = .ret/\s.tmp 2 = .sv (.bool true):=by
 have kn:=law22_known
 have o5:=ref2_Int 5 (by omega)
 have hql:(ps.map InR.q).length=ps.length:=List.length_map _
 generalize hqs:ps.map InR.q=qs at *
 have hrow:RowC (ratsC ps) qs 3:=by rw[<- hqs];exact big3_row hb hok
 have hA:RowA st.bm x qs:=by
  rcases hx with⟨b,c,rfl,hc,hZ,_⟩|⟨rfl,rfl⟩
  ·exact .inl ⟨b,0,c,by rw[hql],by rw[<- hqs];exact hZ.y.row hok hb,by omega⟩
  ·exact .inr ⟨[],by rw[hql];rfl,by rw[<- hqs];rfl⟩
 unfold own3R own3 Tryz.f3
 simp only[Option.get!_some,hd3,tl3,in3]
 repeat (first|simp only[go_sem,h3,h4]|simp (disch:=first|exact oa|fail) only[AX,h3,h4]|refine wki ?_|refine wqn ?_|(refine vp_looseD (id:=10) (l:=[]) (S:=[([0,1,2,3,4,5,6,7,8,9,10,11,12,13,14,15,16,17,18,19,20],some (21,[0])),([],some (22,[])),([23],none)]) (by kernel_rfl) (by kernel_rfl) (by kernel_rfl) (by kernel_rfl) ?_))
 refine own_Set (d:=2000021) (g:=0) (qs:=qs) hA hbw (by omega) (by decide) hob hgd ?_
 intro s1 hk hS
 have k0:s1.tmp 0 = .sv (rowV ps):=hk.sv 0 _ h0
 have k3:s1.tmp 3 = .ptr 2000021 0 0:=hk.pt 3 h3
 have k4:s1.tmp 4 = .sv x:=hk.sv 4 _ h4
 have kbm:s1.bm=st.bm:=hk.bmw.1
 have kbw:s1.bw=true:=hk.bmw.2.trans hbw
 have kgd:0<s1.gen 2000021:=Nat.lt_of_lt_of_le hgd hk.gd
 repeat (first|simp only[go_sem,k0,k3,k4]|simp (disch:=first|exact oa|fail) only[AX,k0,k3,k4]|refine wki ?_|refine wqn ?_|(refine vp_looseD (id:=10) (l:=[]) (S:=[([0,1,2,3,4,5,6,7,8,9,10,11,12,13,14,15,16,17,18,19,20],some (21,[0])),([],some (22,[])),([23],none)]) (by kernel_rfl) (by kernel_rfl) (by kernel_rfl) (by kernel_rfl) ?_))
 have hH0:HdR s1.bm x ps.length 0:=by rw[kbm];exact hdR_of hb hx
 refine vp_mono (R:=fun e s=>e = .exit 2/\Own2 ps qs s) ?_ ?_
 ·refine vp_loop_inv (fun s=>Own2 ps qs s/\s.tmp 4 = .sv x /\ ∃i:Nat,s.tmp 7 = .sv (.int .i64 (i:Int))/\i<=ps.length/\HdR s.bm x ps.length i)
   (fun s=>match s.tmp 7 with | .sv (.int _ i)=>ps.length-i.toNat|_=>0) ⟨⟨k0,k3,rfl,hS.of rfl (fun _=>rfl) (Nat.le_refl _),kbw,kgd⟩,k4,0,rfl,Nat.zero_le _,hH0⟩ ?_
  clear hS k0 k3 k4 kbm kbw kgd hk hH0 hA hx h0 h3 h4 hob hgd hbw
  rintro s ⟨⟨i0,i3,i6,iS,iw,ig⟩,i4,i,i7,hi,hH⟩
  rcases Nat.lt_or_ge i ps.length with hlt|hge
  ·obtain⟨b,c,rfl,hc,cs,hbm,hcl,hhd⟩:=hH.resolve_left (fun e=>by have:=e.2;omega)
   obtain⟨u,hu,hU⟩:=hhd i (Nat.le_refl _) hlt
   repeat (first|simp only[go_sem,i0,i3,i4,i7,hbm,hu]|simp (disch:=first|exact oa|fail) only[AX,i0,i3,i4,i7,hbm,hu]|refine wki ?_|refine wqn ?_|(refine vp_looseD (id:=10) (l:=[]) (S:=[([0,1,2,3,4,5,6,7,8,9,10,11,12,13,14,15,16,17,18,19,20],some (21,[0])),([],some (22,[])),([23],none)]) (by kernel_rfl) (by kernel_rfl) (by kernel_rfl) (by kernel_rfl) ?_))
   refine vp_mono (R:=fun e s=>e = .exit 4/\Own2 ps qs s/\s.tmp 4 = .sv (conL b 0 ps.length c)/\s.tmp 7 = .sv (.int .i64 (i:Int))/\s.bm b=some cs /\ ∀j,i<=j->j<ps.length -> ∃u,(cs.drop (j*3+1)).take 1=[u]/\HdU s.bm b u) ?_ ?_
   ·refine vp_loop_inv (fun s=>Own2 ps qs s/\s.tmp 4 = .sv (conL b 0 ps.length c)/\s.tmp 7 = .sv (.int .i64 (i:Int))/\s.bm b=some cs/\(∀j,i<=j->j<ps.length -> ∃u,(cs.drop (j*3+1)).take 1=[u]/\HdU s.bm b u) /\ ∃k:Nat,s.tmp 8 = .sv (.int .i64 (k:Int))/\k<=lenU u)
     (fun s=>match s.tmp 8 with | .sv (.int _ i)=>lenU u-i.toNat|_=>0) ⟨⟨i0,i3,i6,iS.of rfl (fun _=>rfl) (Nat.le_refl _),iw,ig⟩,i4,i7,hbm,hhd,0,rfl,Nat.zero_le _⟩ ?_
    clear i0 i3 i6 iS iw ig i4 i7 hbm hhd hU hH
    rintro s ⟨⟨i0,i3,i6,iS,iw,ig⟩,i4,i7,hbm,hhd,k,i8,hk⟩
    obtain⟨u2,hu2,hU⟩:=hhd i (Nat.le_refl _) hlt
    rw[hu]at hu2
    cases hu2
    rcases hU with rfl|⟨b',o,l,c',cs',rfl,hne,hbm',hlen,hc',hl3⟩
    ·have hk0:k=0:=by simpa[lenU]using hk
     subst hk0
     repeat (first|simp only[go_sem,i0,i3,i4,i7,i8,hbm,hu]|simp (disch:=first|exact oa|fail) only[AX,i0,i3,i4,i7,i8,hbm,hu]|refine wki ?_|refine wqn ?_|(refine vp_looseD (id:=10) (l:=[]) (S:=[([0,1,2,3,4,5,6,7,8,9,10,11,12,13,14,15,16,17,18,19,20],some (21,[0])),([],some (22,[])),([23],none)]) (by kernel_rfl) (by kernel_rfl) (by kernel_rfl) (by kernel_rfl) ?_))
     exact⟨⟨i0,i3,i6,iS.of rfl (fun _=>rfl) (Nat.le_refl _),iw,ig⟩,hhd⟩
    ·rcases Nat.lt_or_ge k l with hkl|hkl
     ·have hol:=hlen (by omega)
      repeat (first|simp only[go_sem,i0,i3,i4,i7,i8,hbm,hu,hbm',iw,Bool.not_false]|simp (disch:=first|exact oa|fail) only[AX,i0,i3,i4,i7,i8,hbm,hu,hbm',iw,Bool.not_false]|refine wki ?_|refine wqn ?_|(refine vp_looseD (id:=10) (l:=[]) (S:=[([0,1,2,3,4,5,6,7,8,9,10,11,12,13,14,15,16,17,18,19,20],some (21,[0])),([],some (22,[])),([23],none)]) (by kernel_rfl) (by kernel_rfl) (by kernel_rfl) (by kernel_rfl) ?_))
      have hl9:o+k+[SV.int .u32 9].length<=cs'.length:=by
       show o+k+1<=cs'.length
       omega
      refine⟨⟨⟨i0,i3,i6,iS.of rfl (fun _=>rfl) (Nat.le_refl _),iw,ig⟩,fun j hj hjn => ?_,k+1,rfl,hkl⟩,?_⟩
      ·obtain⟨u',e',hU'⟩:=hhd j hj hjn
       exact⟨u',e',hU'.far hbm' hl9⟩
      ·show l-(k+1)<l-k
       omega
     ·repeat (first|simp only[go_sem,i0,i3,i4,i7,i8,hbm,hu,Bool.not_false]|simp (disch:=first|exact oa|fail) only[AX,i0,i3,i4,i7,i8,hbm,hu,Bool.not_false]|refine wki ?_|refine wqn ?_|(refine vp_looseD (id:=10) (l:=[]) (S:=[([0,1,2,3,4,5,6,7,8,9,10,11,12,13,14,15,16,17,18,19,20],some (21,[0])),([],some (22,[])),([23],none)]) (by kernel_rfl) (by kernel_rfl) (by kernel_rfl) (by kernel_rfl) ?_))
      exact⟨⟨i0,i3,i6,iS.of rfl (fun _=>rfl) (Nat.le_refl _),iw,ig⟩,hhd⟩
   ·rintro e s ⟨rfl,⟨i0,i3,i6,iS,iw,ig⟩,i4,i7,hbm,hhd⟩
    repeat (first|simp only[go_sem,i0,i3,i4,i7,hbm,iw]|simp (disch:=first|exact oa|fail) only[AX,i0,i3,i4,i7,hbm,iw]|refine wki ?_|refine wqn ?_|(refine vp_looseD (id:=10) (l:=[]) (S:=[([0,1,2,3,4,5,6,7,8,9,10,11,12,13,14,15,16,17,18,19,20],some (21,[0])),([],some (22,[])),([23],none)]) (by kernel_rfl) (by kernel_rfl) (by kernel_rfl) (by kernel_rfl) ?_))
    have hl3:i*3+[SV.bool false,.sl 0 [],.sl 0 []].length<=cs.length:=by
     show i*3+3<=cs.length
     omega
    refine⟨⟨⟨i0,i3,i6,iS.of rfl (fun _=>rfl) (Nat.le_refl _),iw,ig⟩,i+1,rfl,by omega,.inr ⟨b,c,rfl,hc,splice cs (i*3) [.bool false,.sl 0 [],.sl 0 []],if_pos rfl,by rw[splice_len hl3];exact hcl,fun j hj hjn => ?_⟩⟩,by omega⟩
    obtain⟨u',e',hU'⟩:=hhd j (by omega) hjn
    exact⟨u',(splice_far hl3 (by show i*3+3<=j*3+1;omega)).trans e',hU'.far hbm hl3⟩
  ·have ei:i=ps.length:=by omega
   subst ei
   rcases hH with⟨rfl,hn⟩|⟨b,c,rfl,_⟩
   ·repeat (first|simp only[go_sem,i0,i3,i4,i7]|simp (disch:=first|exact oa|fail) only[AX,i0,i3,i4,i7]|refine wki ?_|refine wqn ?_|(refine vp_looseD (id:=10) (l:=[]) (S:=[([0,1,2,3,4,5,6,7,8,9,10,11,12,13,14,15,16,17,18,19,20],some (21,[0])),([],some (22,[])),([23],none)]) (by kernel_rfl) (by kernel_rfl) (by kernel_rfl) (by kernel_rfl) ?_))
    exact⟨i0,i3,i6,iS.of rfl (fun _=>rfl) (Nat.le_refl _),iw,ig⟩
   ·repeat (first|simp only[go_sem,i0,i3,i4,i7]|simp (disch:=first|exact oa|fail) only[AX,i0,i3,i4,i7]|refine wki ?_|refine wqn ?_|(refine vp_looseD (id:=10) (l:=[]) (S:=[([0,1,2,3,4,5,6,7,8,9,10,11,12,13,14,15,16,17,18,19,20],some (21,[0])),([],some (22,[])),([23],none)]) (by kernel_rfl) (by kernel_rfl) (by kernel_rfl) (by kernel_rfl) ?_))
    exact⟨i0,i3,i6,iS.of rfl (fun _=>rfl) (Nat.le_refl _),iw,ig⟩
 ·rintro e s ⟨rfl,i0,i3,i6,iS,iw,ig⟩
  clear hS k0 k3 k4 kbm kbw kgd hk hH0 hA hx h0 h3 h4 hob hgd hbw
  repeat (first|simp only[go_sem,i0,i3,i6]|simp (disch:=first|exact oa|fail) only[AX,i0,i3,i6]|refine wki ?_|refine wqn ?_|(refine vp_looseD (id:=10) (l:=[]) (S:=[([0,1,2,3,4,5,6,7,8,9,10,11,12,13,14,15,16,17,18,19,20],some (21,[0])),([],some (22,[])),([23],none)]) (by kernel_rfl) (by kernel_rfl) (by kernel_rfl) (by kernel_rfl) ?_))
  refine own_Get (d:=2000021) (g:=0) (qs:=qs) hz (by omega) (iS.of rfl (fun _=>rfl) (Nat.le_refl _)) iw ig ?_
  intro s2 T hk hS hT hob
  have j0:s2.tmp 0 = .sv (.sl qs.length (ratsC ps)):=by rw[hql];exact hk.sv 0 _ i0
  have j3:s2.tmp 3 = .ptr 2000021 0 0:=hk.pt 3 i3
  have j6:s2.tmp 6 = .sv (.int .i64 0):=hk.sv 6 _ i6
  have jbw:s2.bw=true:=hk.bmw.2.trans iw
  have jgd:0<s2.gen 2000021:=Nat.lt_of_lt_of_le ig hk.gd
  rcases hT with⟨rfl,h0⟩|⟨gm,rfl,hO,hgm⟩
  ·have hp0:ps=[]:=List.eq_nil_of_length_eq_zero (by rw[<- hql,h0];rfl)
   subst hp0
   subst h0
   have j0:s2.tmp 0 = .sv (.sl 0 []):=j0
   have rn:=rats_nil
   repeat (first|simp only[go_sem,j0,j3,j6,Bool.not_true]|simp (disch:=first|exact oa|fail) only[AX,j0,j3,j6,Bool.not_true]|refine wki ?_|refine wqn ?_|(refine vp_looseD (id:=10) (l:=[]) (S:=[([0,1,2,3,4,5,6,7,8,9,10,11,12,13,14,15,16,17,18,19,20],some (21,[0])),([],some (22,[])),([23],none)]) (by kernel_rfl) (by kernel_rfl) (by kernel_rfl) (by kernel_rfl) ?_)|refine vf_of (by first|exact rn) ?_)
   refine vp_mono (R:=fun e s=>e = .exit 6/\Own4 [] [] s) ?_ ?_
   ·rw[vp_loop]
    repeat (first|simp only[go_sem]|simp (disch:=first|exact oa|fail) only[AX]|refine wki ?_|refine wqn ?_|(refine vp_looseD (id:=10) (l:=[]) (S:=[([0,1,2,3,4,5,6,7,8,9,10,11,12,13,14,15,16,17,18,19,20],some (21,[0])),([],some (22,[])),([23],none)]) (by kernel_rfl) (by kernel_rfl) (by kernel_rfl) (by kernel_rfl) ?_))
    exact⟨j0,j3,hS.of rfl (fun _=>rfl) (Nat.le_refl _),jbw,jgd⟩
   ·rintro e s ⟨rfl,h⟩
    exact own_tail hql hl hz hrow h
  ·repeat (first|simp only[go_sem,j0,j3,j6,hO]|simp (disch:=first|exact oa|fail) only[AX,j0,j3,j6,hO]|refine wki ?_|refine wqn ?_|(refine vp_looseD (id:=10) (l:=[]) (S:=[([0,1,2,3,4,5,6,7,8,9,10,11,12,13,14,15,16,17,18,19,20],some (21,[0])),([],some (22,[])),([23],none)]) (by kernel_rfl) (by kernel_rfl) (by kernel_rfl) (by kernel_rfl) ?_))
   refine own_Rats (e:=16) (f:=gm) (qs:=qs) (cs:=ratsC ps) (L:=3) hz hrow (by decide) (by decide) (by omega) hO (by decide) ?_
   intro s3 hs
   have m0:s3.tmp 0 = .sv (.sl qs.length (ratsC ps)):=(hs.tmp 0).trans j0
   have m3:s3.tmp 3 = .ptr 2000021 0 0:=(hs.tmp 3).trans j3
   have m9:s3.tmp 9 = .ref 16 gm 3 0 qs.length:=hs.tmp 9
   have mO:s3.obj 16 gm=some (rvsC qs):=(hs.obj 16 gm).trans hO
   have mS:SessR s3 2000021 0 [([97],qs.length,rvsC qs)] 6:=hS.of (by rw[hs.hob];rfl) (fun _=>(hs.obj _ _).trans rfl) (by rw[hs.gen];exact Nat.le_refl _)
   have mbw:s3.bw=true:=hs.bmw.2.trans jbw
   have mgd:0<s3.gen 2000021:=by rw[hs.gen];exact jgd
   have m94:s3.tmp 94 = .sv (.bool false):=hs.tmp 94
   clear hs
   repeat (first|simp only[go_sem,m0,m3,m9,mO,m94,Bool.not_true]|simp (disch:=first|exact oa|fail) only[AX,m0,m3,m9,mO,m94,Bool.not_true]|refine wki ?_|refine wqn ?_|(refine vp_looseD (id:=10) (l:=[]) (S:=[([0,1,2,3,4,5,6,7,8,9,10,11,12,13,14,15,16,17,18,19,20],some (21,[0])),([],some (22,[])),([23],none)]) (by kernel_rfl) (by kernel_rfl) (by kernel_rfl) (by kernel_rfl) ?_))
   have hrl:=rvsC_len qs
   refine vp_mono (R:=fun e s=>e = .exit 6/\Own4 ps qs s) ?_ ?_
   ·refine vp_loop_inv (fun s=>Own4 ps qs s/\s.tmp 9 = .ref 16 gm 3 0 qs.length /\ ∃cs,s.obj 16 gm=some cs/\cs.length=qs.length*3 /\ ∃i:Nat,s.tmp 11 = .sv (.int .i64 (i:Int))/\i<=qs.length)
     (fun s=>match s.tmp 11 with | .sv (.int _ i)=>qs.length-i.toNat|_=>0) ⟨⟨m0,m3,mS.of rfl (fun _=>rfl) (Nat.le_refl _),mbw,mgd⟩,m9,_,mO,hrl,0,rfl,Nat.zero_le _⟩ ?_
    rintro s ⟨⟨i0,i3,iS,iw,ig⟩,i9,cs,iO,hcl,i,i11,hi⟩
    by_cases hend:i=qs.length
    ·subst hend
     repeat (first|simp only[go_sem,i0,i3,i9,i11]|simp (disch:=first|exact oa|fail) only[AX,i0,i3,i9,i11]|refine wki ?_|refine wqn ?_|(refine vp_looseD (id:=10) (l:=[]) (S:=[([0,1,2,3,4,5,6,7,8,9,10,11,12,13,14,15,16,17,18,19,20],some (21,[0])),([],some (22,[])),([23],none)]) (by kernel_rfl) (by kernel_rfl) (by kernel_rfl) (by kernel_rfl) ?_))
     exact⟨i0,i3,iS.of rfl (fun _=>rfl) (Nat.le_refl _),iw,ig⟩
    ·repeat (first|simp only[go_sem,i0,i3,i9,i11,iO]|simp (disch:=first|exact oa|fail) only[AX,i0,i3,i9,i11,iO]|refine wki ?_|refine wqn ?_|(refine vp_looseD (id:=10) (l:=[]) (S:=[([0,1,2,3,4,5,6,7,8,9,10,11,12,13,14,15,16,17,18,19,20],some (21,[0])),([],some (22,[])),([23],none)]) (by kernel_rfl) (by kernel_rfl) (by kernel_rfl) (by kernel_rfl) ?_))
     refine vf_of (o5) ?_;repeat (first|simp only[go_sem,i0,i3,i9,i11,iO,hcl,rvC]|simp (disch:=first|exact oa|fail) only[AX,i0,i3,i9,i11,iO,hcl,rvC]|refine wki ?_|refine wqn ?_|(refine vp_looseD (id:=10) (l:=[]) (S:=[([0,1,2,3,4,5,6,7,8,9,10,11,12,13,14,15,16,17,18,19,20],some (21,[0])),([],some (22,[])),([23],none)]) (by kernel_rfl) (by kernel_rfl) (by kernel_rfl) (by kernel_rfl) ?_))
     refine⟨⟨⟨i0,i3,iS.of rfl (fun _ => ?_) (Nat.le_refl _),iw,ig⟩,_,rfl,?_,i+1,rfl,by omega⟩,by omega⟩
     ·simp only[obj_set,obj_put]
      exact if_neg (by omega)
     ·simp only[List.length_append,List.length_take,List.length_drop,List.length_cons,List.length_nil]
      omega
   ·rintro e s ⟨rfl,h⟩
    exact own_tail hql hl hz hrow h
end Go.Proofs.YtdahehdomajbgaaGreatDoor
namespace Go.Proofs.YtdahehdomajbgaaGreatDoor
open Go.Ev Go.RowKit
theorem own_fin {w0 w:World} {F I:Nat->Prop} {Z:Zy} {s:St} {a:Act} (h:To w0 F I Z 125 s a w) (h2:s.tmp 2 = .sv (.bool true)):a.defers=[] /\ ∃v,(results Tryz.f3 a.tmps).run Tryz.prog w = .ok v w/\v = .bool true:=by
 obtain⟨β,h⟩:=h
 refine⟨h.defers,?_⟩
 have e:retI Tryz.prog s (Tryz.f3).results.toList=some (.sv (.bool true)):=by
  have e0:(Tryz.f3).results.toList=[.tmp 2]:=by kernel_rfl
  rw[e0]
  show (resTV Tryz.prog s (.tmp 2)).map TV.noCap=_
  show some (TV.noCap (s.tmp 2))=_
  rw[h2]
  rfl
 obtain⟨v,hv,hr,_⟩:=h.reti e
 refine⟨v,hv,?_⟩
 cases hr
 rfl
theorem rep_nil {w w':World} {M M':Nat->Prop} {v:Value} (h:Rep w M v (.sl 0 [])):Rep w' M' v (.sl 0 []):=by
 cases h with
 |sl0 A n cap hn=>exact .sl0 _ _ _ hn
 |sl a n cap hn cells c hb hc hr=>exact .sl0 _ _ _ hn
theorem own_head {w0 w:World} {F I:Nat->Prop} {Z:Zy} {st:St} {a:Act} {ps:List InR} {Q:Exit->Act->World->Prop} (hG:GMet Z.gl) (hm:ps.length<=maxLen) (hok : ∀p∈ps,p.ok) (h:To w0 F I Z 125 st a w) (h0:st.tmp 0 = .sv (rowV ps)) (hbw:st.bw=false)
  (hret : ∀s a' w',To w0 F I Z 125 s a' w'->s.tmp 2 = .sv (.bool true)->Q .ret a' w')
  (hgo:ps.length<=20->ps.any big3=false -> ∀s a' w' g,To w0 F I Z 125 s a' w'->s.tmp 0 = .sv (rowV ps)->s.tmp 3 = .ptr 2000021 g 0->s.hob 2000021 g=some [.nil,.sv (.int .i64 6)]->s.tmp 4 = .nil->s.tmp 5 = .sv (.int .i64 0)->own3L.wp Tryz.prog (Exit.then (own3R.wp Tryz.prog Q) Q) a' w'):own3.wp Tryz.prog Q a w:=by
 have e:own3 = .seq (hd3 own3) (.seq (hd3 (tl3 own3)) (.seq (hd3 (tl3 (tl3 own3))) (.seq (hd3 (tl3 (tl3 (tl3 own3)))) (.seq (hd3 (tl3 (tl3 (tl3 (tl3 own3))))) (.seq (.seq (hd3 (hd3 (tl3 (tl3 (tl3 (tl3 (tl3 own3))))))) own3L) own3R))))):=by kernel_rfl
 rw[e]
 have w0':WP CX (hd3 own3) st fun e s=>e = .normal/\s.tmp 0 = .sv (rowV ps)/\s.bw=false:=by
  unfold own3 Tryz.f3
  simp only[Option.get!_some,hd3,tl3,in3]
  repeat (first|simp only[go_sem,h0,hbw]|simp (disch:=first|exact oa|fail) only[AX,h0,hbw]|refine wki ?_|refine wqn ?_|(refine vp_looseD (id:=10) (l:=[]) (S:=[([0,1,2,3,4,5,6,7,8,9,10,11,12,13,14,15,16,17,18,19,20],some (21,[0])),([],some (22,[])),([23],none)]) (by kernel_rfl) (by kernel_rfl) (by kernel_rfl) (by kernel_rfl) ?_))
 refine wp_seq (own_piece hG (by kernel_rfl) h w0' fun e s a1 w1 hr h1 => ?_)
 obtain⟨rfl,h0,hbw⟩:=hr
 clear w0' h
 have w1':WP CX (hd3 (tl3 own3)) s fun e s=>(e = .ret/\s.tmp 2 = .sv (.bool true))\/(e = .normal/\ps.length<=20/\ps.any big3=false/\s.tmp 0 = .sv (rowV ps)/\s.bw=false):=by
  unfold own3 Tryz.f3
  simp only[Option.get!_some,hd3,tl3,in3]
  by_cases hl:20<ps.length
  ·repeat (first|simp only[go_sem,h0,hbw]|simp (disch:=first|exact oa|fail) only[AX,h0,hbw]|refine wki ?_|refine wqn ?_|(refine vp_looseD (id:=10) (l:=[]) (S:=[([0,1,2,3,4,5,6,7,8,9,10,11,12,13,14,15,16,17,18,19,20],some (21,[0])),([],some (22,[])),([23],none)]) (by kernel_rfl) (by kernel_rfl) (by kernel_rfl) (by kernel_rfl) ?_))
   exact .inl True.intro
  ·have hbg:=law22_big ps (by omega)
   repeat (first|simp only[go_sem,h0,hbw]|simp (disch:=first|exact oa|fail) only[AX,h0,hbw]|refine wki ?_|refine wqn ?_|(refine vp_looseD (id:=10) (l:=[]) (S:=[([0,1,2,3,4,5,6,7,8,9,10,11,12,13,14,15,16,17,18,19,20],some (21,[0])),([],some (22,[])),([23],none)]) (by kernel_rfl) (by kernel_rfl) (by kernel_rfl) (by kernel_rfl) ?_)|refine vf_of (by first|exact hbg) ?_)
   cases hany:ps.any big3 with
   |true=>
    repeat (first|simp only[go_sem,h0,hbw,hany]|simp (disch:=first|exact oa|fail) only[AX,h0,hbw,hany]|refine wki ?_|refine wqn ?_|(refine vp_looseD (id:=10) (l:=[]) (S:=[([0,1,2,3,4,5,6,7,8,9,10,11,12,13,14,15,16,17,18,19,20],some (21,[0])),([],some (22,[])),([23],none)]) (by kernel_rfl) (by kernel_rfl) (by kernel_rfl) (by kernel_rfl) ?_))
    exact .inl True.intro
   |false=>
    repeat (first|simp only[go_sem,h0,hbw,hany]|simp (disch:=first|exact oa|fail) only[AX,h0,hbw,hany]|refine wki ?_|refine wqn ?_|(refine vp_looseD (id:=10) (l:=[]) (S:=[([0,1,2,3,4,5,6,7,8,9,10,11,12,13,14,15,16,17,18,19,20],some (21,[0])),([],some (22,[])),([23],none)]) (by kernel_rfl) (by kernel_rfl) (by kernel_rfl) (by kernel_rfl) ?_))
    exact .inr (by omega)
 refine wp_seq (own_piece hG (by kernel_rfl) h1 w1' fun e s a2 w2 hr h2 => ?_)
 rcases hr with⟨rfl,hr⟩|⟨rfl,hl,hb,h0,hbw⟩
 ·exact hret _ _ _ h2 hr
 clear w1' h1
 have w3':WP CX (hd3 (tl3 (tl3 own3))) s fun e s=>e = .normal /\ ∃g,s.tmp 0 = .sv (rowV ps)/\s.bw=false/\s.tmp 3 = .ptr 2000021 g 0/\s.hob 2000021 g=some [.nil,.sv (.int .i64 6)]:=by
  have hN:=sess_New
  unfold own3 Tryz.f3
  simp only[Option.get!_some,hd3,tl3,in3]
  repeat (first|simp only[go_sem,h0,hbw]|simp (disch:=first|exact oa|fail) only[AX,h0,hbw]|refine wki ?_|refine wqn ?_|(refine vp_looseD (id:=10) (l:=[]) (S:=[([0,1,2,3,4,5,6,7,8,9,10,11,12,13,14,15,16,17,18,19,20],some (21,[0])),([],some (22,[])),([23],none)]) (by kernel_rfl) (by kernel_rfl) (by kernel_rfl) (by kernel_rfl) ?_))
  refine vf_heap hN ?_
  repeat (first|simp only[go_sem,h0,hbw]|simp (disch:=first|exact oa|fail) only[AX,h0,hbw]|refine wki ?_|refine wqn ?_|(refine vp_looseD (id:=10) (l:=[]) (S:=[([0,1,2,3,4,5,6,7,8,9,10,11,12,13,14,15,16,17,18,19,20],some (21,[0])),([],some (22,[])),([23],none)]) (by kernel_rfl) (by kernel_rfl) (by kernel_rfl) (by kernel_rfl) ?_))
  exact⟨_,rfl,if_pos rfl⟩
 refine wp_seq (own_piece hG (by kernel_rfl) h2 w3' fun e s a3 w3 hr h3 => ?_)
 obtain⟨rfl,g,h0,hbw,hp,hob⟩:=hr
 clear w3' h2
 have w4':WP CX (hd3 (tl3 (tl3 (tl3 own3)))) s fun e s=>e = .normal/\s.tmp 0 = .sv (rowV ps)/\s.bw=false/\s.tmp 3 = .ptr 2000021 g 0/\s.hob 2000021 g=some [.nil,.sv (.int .i64 6)]:=by
  unfold own3 Tryz.f3
  simp only[Option.get!_some,hd3,tl3,in3]
  repeat (first|simp only[go_sem,h0,hbw,hp]|simp (disch:=first|exact oa|fail) only[AX,h0,hbw,hp]|refine wki ?_|refine wqn ?_|(refine vp_looseD (id:=10) (l:=[]) (S:=[([0,1,2,3,4,5,6,7,8,9,10,11,12,13,14,15,16,17,18,19,20],some (21,[0])),([],some (22,[])),([23],none)]) (by kernel_rfl) (by kernel_rfl) (by kernel_rfl) (by kernel_rfl) ?_))
  exact hob
 refine wp_seq (own_piece hG (by kernel_rfl) h3 w4' fun e s a4 w4 hr h4 => ?_)
 obtain⟨rfl,h0,hbw,hp,hob⟩:=hr
 clear w4' h3
 have w5':WP CX (hd3 (tl3 (tl3 (tl3 (tl3 own3))))) s fun e s=>e = .normal/\s.tmp 0 = .sv (rowV ps)/\s.tmp 3 = .ptr 2000021 g 0/\s.hob 2000021 g=some [.nil,.sv (.int .i64 6)]/\s.tmp 4 = .nil:=by
  unfold own3 Tryz.f3
  simp only[Option.get!_some,hd3,tl3,in3]
  repeat (first|simp only[go_sem,h0,hp]|simp (disch:=first|exact oa|fail) only[AX,h0,hp]|refine wki ?_|refine wqn ?_|(refine vp_looseD (id:=10) (l:=[]) (S:=[([0,1,2,3,4,5,6,7,8,9,10,11,12,13,14,15,16,17,18,19,20],some (21,[0])),([],some (22,[])),([23],none)]) (by kernel_rfl) (by kernel_rfl) (by kernel_rfl) (by kernel_rfl) ?_))
  exact hob
 refine wp_seq (own_piece hG (by kernel_rfl) h4 w5' fun e s a5 w5 hr h5 => ?_)
 obtain⟨rfl,h0,hp,hob,hn⟩:=hr
 clear w5' h4
 have w6':WP CX (hd3 (hd3 (tl3 (tl3 (tl3 (tl3 (tl3 own3))))))) s fun e s=>e = .normal/\s.tmp 0 = .sv (rowV ps)/\s.tmp 3 = .ptr 2000021 g 0/\s.hob 2000021 g=some [.nil,.sv (.int .i64 6)]/\s.tmp 4 = .nil/\s.tmp 5 = .sv (.int .i64 0):=by
  unfold own3 Tryz.f3
  simp only[Option.get!_some,hd3,tl3,in3]
  repeat (first|simp only[go_sem,h0,hp,hn]|simp (disch:=first|exact oa|fail) only[AX,h0,hp,hn]|refine wki ?_|refine wqn ?_|(refine vp_looseD (id:=10) (l:=[]) (S:=[([0,1,2,3,4,5,6,7,8,9,10,11,12,13,14,15,16,17,18,19,20],some (21,[0])),([],some (22,[])),([23],none)]) (by kernel_rfl) (by kernel_rfl) (by kernel_rfl) (by kernel_rfl) ?_))
  exact hob
 refine wp_seq (wp_seq (own_piece hG (by kernel_rfl) h5 w6' fun e s a6 w6 hr h6 => ?_))
 obtain⟨rfl,h0,hp,hob,hn,h50⟩:=hr
 exact hgo hl hb s a6 w6 g h6 h0 hp hob hn h50
theorem own_from {w w1:World} {I:Nat->Prop} {Z:Zy} {s:St} {a:Act} {g:Nat} {ps:List InR} {Q:Exit->Act->World->Prop} (hI : ∀b,¬I b) (hZ : ¬Z.old) (hok : ∀p∈ps,p.ok) (hl:ps.length<=20) (hb:ps.any big3=false) (h:To w (fun _=>False) I Z 125 s a w1)
  (h0:s.tmp 0 = .sv (rowV ps)) (hp:s.tmp 3 = .ptr 2000021 g 0) (hob:s.hob 2000021 g=some [.nil,.sv (.int .i64 6)]) (hn:s.tmp 4 = .nil) (h5:s.tmp 5 = .sv (.int .i64 0))
  (hQ : ∀s a' w2 w3 (K bS:Nat) F2 Z2,w.heap.size<=K->w.heap.size<=bS->To w2 F2 (fun b=>(bmW w2 (fun b=>K<=b/\b<w2.heap.size) b).isSome=true\/b=bS) Z2 125 s a' w3->Ext I w w1->Ext (fun _=>False) w1 w2->s.tmp 2 = .sv (.bool true)->Q .ret a' w3):own3L.wp Tryz.prog (Exit.then (own3R.wp Tryz.prog Q) Q) a w1:=by
 obtain⟨β,h⟩:=h
 have r0:Rep w1 (Mut (fun _=>False) β s) (a.tmps.getD 0 undef) (rowV ps):=by
  have:=h.tmps 0
  rw[h0]at this
  exact this
 have r3:a.tmps.getD 3 undef = .pointer (some ⟨β 2000021 g,0,none⟩):=by
  have:=h.tmps 3
  rw[hp]at this
  exact this
 have r4:a.tmps.getD 4 undef = .slice none 0 0:=by
  have:=h.tmps 4
  rw[hn]at this
  exact this
 have r5:a.tmps.getD 5 undef = .int .i64 0:=by
  have:=h.tmps 5
  rw[h5]at this
  generalize a.tmps.getD 5 undef=u at this ⊢
  cases this
  rfl
 obtain⟨_,hoS,us,ty,hbk,hcs⟩:=h.hobs 2000021 g _ hob
 have hownS:=((h.own 2000021 g (by rw[hoS];rfl)).1 (.inr (by decide))).resolve_right (fun x=>hZ x.1)
 have hmS:Mut (fun _=>False) β s (β 2000021 g) := .inr ⟨2000021,g,by rw[hoS];rfl,rfl⟩
 generalize β 2000021 g=bS at *
 have hS1:bS<w1.heap.size:=(Array.getElem?_eq_some_iff.1 hbk).1
 have c0:us[0]?=some (.slice none 0 0):=by
  obtain⟨v,hv,_,hr,_⟩:=hcs 0 _ rfl
  rw[hv]
  exact congrArg some hr
 have c1:us[1]?=some (.int .i64 6):=by
  obtain⟨v,hv,_,hr,_⟩:=hcs 1 _ rfl
  rw[hv]
  cases hr
  rfl
 obtain⟨x,hx,hxs⟩:=own_arg r0
 have hB:=own_viewB h.defers h.size hx (y := .con (.pointer (some ⟨bS,0,none⟩))) (fun M=>by rw[r3];exact .con _ rfl) r4 r5
 have hu1:Unf w1.heap.size w1:=⟨Nat.le_refl _,fun b us ty fz hb he=>absurd (Array.getElem?_eq_some_iff.1 he).1 (Nat.not_lt_of_le hb)⟩
 refine own_loop gmet hl hxs hb hB hu1 ⟨rfl,rfl,rfl,rfl,rfl,.inl ⟨rfl,rfl⟩⟩ fun s2 a2 w2 ht hu2 ho => ?_
 obtain⟨β2,h2⟩:=ht
 obtain⟨o1,o2,o3,o4,o5,o6⟩:=ho
 have q0:Rep w2 (Mut (fun b=>b<w1.heap.size) β2 s2) (a2.tmps.getD 0 undef) x:=by
  have:=h2.tmps 0
  rw[o3]at this
  exact this
 have q3:a2.tmps.getD 3 undef = .pointer (some ⟨bS,0,none⟩):=by
  have:=h2.tmps 3
  rw[o4]at this
  generalize a2.tmps.getD 3 undef=u at this ⊢
  cases this
  rfl
 have hz:Rep w2 (fun b=>(w1.heap.size<=b/\b<w2.heap.size)\/b=bS) (a2.tmps.getD 0 undef) (rowV ps):=by
  rcases hxs with⟨b,off,c,rfl,_⟩|⟨rfl,rfl⟩
  ·have e1:a2.tmps.getD 0 undef=a.tmps.getD 0 undef:=by
    have q1:=hx (fun _=>False)
    generalize a2.tmps.getD 0 undef=u at q0 ⊢
    generalize a.tmps.getD 0 undef=u' at q1 ⊢
    cases q0
    cases q1
    rfl
   rw[e1]
   refine Rep.mono (w:=w1) (fun p hp1 _ => ?_) (fun b hlt hm => ?_) r0
   ·unfold World.cell?
    rw[h2.ext.block _ hp1 (fun x=>x)]
   ·rcases hm with hm|rfl
    ·exact absurd hlt (Nat.not_lt_of_le hm.1)
    ·exact hmS
  ·exact rep_nil q0
 have hbk2:w2.heap[bS]?=some (.cells us ty (0,0)):=by rw[h2.ext.block _ hS1 (fun x=>x)];exact hbk
 have key : ∀x2:SV,(∀M,Rep w2 M (a2.tmps.getD 4 undef) x2)->((∃b c,x2=conL b 0 ps.length c/\ps.length<=c/\RowZ (bmW w2 fun b=>w1.heap.size<=b/\b<w2.heap.size) (Mut (fun b=>b<w1.heap.size) β2 s2) b 0 ps/\Mut (fun b=>b<w1.heap.size) β2 s2 b)\/(x2 = .sl 0 []/\ps=[]))->own3R.wp Tryz.prog Q a2 w2:=by
  intro x2 hx2 hc
  have hC:=own_viewC (z:=rowV ps) (x:=x2) hu2 h2.defers h2.size hS1 hz q3 hx2 hbk2 c0 c1
  have hsz : ∀q∈ps.map InR.q,szR q 500:=fun q hq=>szR_mono (row_sz (by omega) (big3_row hb hok) q hq) (by omega)
  refine own_piece gmet (by kernel_rfl) hC (own_rest hok hb hl hsz hc rfl rfl rfl rfl (Nat.succ_pos _) rfl) fun e s3 a3 w3 hr h3 => ?_
  obtain⟨rfl,hr⟩:=hr
  exact hQ s3 a3 w2 w3 _ _ _ _ h.ext.size hownS h3 h.ext h2.ext hr
 rcases o6 with⟨en,o6⟩|⟨_,g2,o6,oO⟩
 ·have r:=h2.tmps 4
  rw[o6]at r
  have r:a2.tmps.getD 4 undef = .slice none 0 0:=r
  exact key (.sl 0 []) (fun M=>by rw[r];exact .sl0 _ _ _ (Nat.le_refl _)) (.inr ⟨rfl,List.eq_nil_of_length_eq_zero en⟩)
 ·have r:=h2.tmps 4
  rw[o6]at r
  obtain⟨cap,cs,ty2,hv,hcap,hbI,_⟩:=r
  rw[List.take_length]at oO
  obtain⟨us2,ty3,hbI2,hall⟩:=h2.objs 52 g2 _ oO
  have hown:=((h2.own 52 g2 (by rw[oO];rfl)).1 (.inl (by decide))).resolve_right (fun x=>x.1)
  have hlt:β2 52 g2<w2.heap.size:=(Array.getElem?_eq_some_iff.1 hbI2).1
  refine key (conL (β2 52 g2) 0 ps.length cap) (fun M=>by rw[hv];exact .con _ rfl) (.inl ⟨_,cap,rfl,hcap,?_,.inr ⟨52,g2,by rw[oO];rfl,rfl⟩⟩)
  refine rowZ_of (bmW_some ⟨hown,hlt⟩ hbI2) (fun i y hi => ?_) fun b hb1 hb2=>⟨Nat.le_of_not_lt fun hlt=>hb1 (.inl hlt),hb2⟩
  obtain⟨_,v,hv,hr⟩:=hall i y hi
  refine⟨v,?_,hr⟩
  rw[Nat.zero_add,List.getElem?_map,Array.getElem?_toList,hv]
  rfl
theorem own_walk (w:World) (s:SV) (sh:ShpT Tryz.prog 7 22 [s]) (v:Value) (rp:Rep w (fun _=>False) v s) :
  Calls Tryz.prog 3 #[v] w fun e w'=>e = .returned (.bool true)/\Below w.heap.size w w':=by
 obtain⟨ps,hs,hm,hok⟩:=shp_rats (n:=3) sh
 cases hs
 refine calls_of_wp (fn:=Tryz.f3) (c:=own3) (by kernel_rfl) (by kernel_rfl) ?_
 have hent:=entry (w:=w) (F:=fun _=>False) (B:=fun _=>0) (vals := #[v]) (args:=[.sv (rowV ps)]) (N:=125) (G:=[]) (fun g v hg=>by cases hg) (by decide) (show 1<=125 by decide) (fun b hb=>hb.elim) rfl
  (fun i x hi=>by
   match i with
   |0=>cases hi;exact rp
   |i+1=>cases hi)
  (fun i j x y hx hy hi=>by
   match i with
   |0=>cases hx;cases hi
   |i+1=>cases hx)
 have hI : ∀b,¬impB [.sv (rowV ps)] (fun _=>0) b:=by
  rintro b ⟨i,x,hx,hi,_⟩
  match i with
  |0=>cases hx;cases hi
  |i+1=>cases hx
 refine own_head gmet hm hok ⟨_,hent⟩ rfl rfl (fun s a1 w1 ht h2 => ?_) fun hl hb s a1 w1 g ht h0 hp hob hn h5=>own_from hI (fun x=>x) hok hl hb ht h0 hp hob hn h5 fun s3 a3 w2 w3 K bS F2 Z2 hK hbS h3 e1 e2 hr => ?_
 ·obtain⟨hd,v,hv,rfl⟩:=own_fin ht h2
  obtain⟨β,ht⟩:=ht
  exact⟨hd,_,hv,rfl,⟨ht.ext.os,ht.ext.tape,ht.ext.output,ht.ext.size,fun b hb=>ht.ext.block b hb (hI b)⟩⟩
 ·obtain⟨hd,v,hv,rfl⟩:=own_fin h3 hr
  obtain⟨β,h3⟩:=h3
  refine⟨hd,_,hv,rfl,⟨h3.ext.os.trans (e2.os.trans e1.os),h3.ext.tape.trans (e2.tape.trans e1.tape),h3.ext.output.trans (e2.output.trans e1.output),Nat.le_trans e1.size (Nat.le_trans e2.size h3.ext.size),fun b hb => ?_⟩⟩
  rw[h3.ext.block b (Nat.lt_of_lt_of_le hb (Nat.le_trans e1.size e2.size)) ?_,e2.block b (Nat.lt_of_lt_of_le hb e1.size) (fun x=>x),e1.block b hb (hI b)]
  rintro(h|rfl)
  ·obtain⟨cs,hcs⟩:=Option.isSome_iff_exists.1 h
   exact Nat.not_le_of_lt hb (Nat.le_trans hK (bmW_get hcs).1.1)
  ·exact Nat.not_le_of_lt hb hbS
end Go.Proofs.YtdahehdomajbgaaGreatDoor
