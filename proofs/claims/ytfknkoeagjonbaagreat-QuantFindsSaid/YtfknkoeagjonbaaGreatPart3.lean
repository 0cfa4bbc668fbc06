/- Part 3 of the proof: the evaluator, contracts of functions and their plain laws (joined by program). No condition. -/
import Derived.Test.YtfknkoeagjonbaaGreatPart2
import Derived.Laws.BitsLemmas
import Derived.Laws.Bits64
import Derived.KernelRfl
import Derived.Test.YtfknkoeagjonbaaGreatProg
import Derived.Lib.SliceRun
import Derived.Lib.Bytealg
import Derived.Lib.Join
import Derived.Lib.SlTrimSet
import Derived.Lib.Atoi
import Derived.Laws.Externs
set_option linter.unusedVariables false
set_option linter.unusedSimpArgs false
set_option maxRecDepth 100000
namespace Go.Ev
structure Cx where
 P:Program
 X:Callf
 mu:FuncId->Bool
 good:FuncId->Bool
def Fn (C:Cx) (f:FuncId) (args:List SV) (r:SV):Prop := ∃n e,callN C.P C.X C.mu C.good n f (args.map Arg.sv)=some (.sv r,e)
def WP (C:Cx) (c:Code) (st:St) (Q:Ex->St->Prop):Prop := ∃n e st',exec C.P (callN C.P C.X C.mu C.good n) C.mu n c st=some (e,st')/\Q e st'
def WO (C:Cx) (soft:Bool) (ops:Array Oper) (l:List Oper) (st:St) (Q:St->Prop):Prop:=
 ∃n st',execOps C.P (callN C.P C.X C.mu C.good n) C.mu soft ops l st=some st'/\Q st'
def nx (C:Cx) (b:Code) (Q:Ex->St->Prop) (e:Ex) (st:St):Prop:=match e with
 | .normal=>WP C b st Q
 |e=>Q e st
def bk (id:Nat) (Q:Ex->St->Prop) (e:Ex) (st:St):Prop:=match e with
 | .exit i=>if i=id then Q .normal st else Q (.exit i) st
 |e=>Q e st
def WJ (C:Cx) (c b:Code) (st:St) (Q:Ex->St->Prop):Prop:=
 ∃n e st',jumps (exec C.P (callN C.P C.X C.mu C.good n) C.mu n) c n (exec C.P (callN C.P C.X C.mu C.good n) C.mu n b st)=some (e,st')/\Q e st'
def SC (C:Cx) (c:Code) (Q:Ex->St->Prop) (e:Ex) (st:St):Prop:=match e with
 | .goto l=>match findLabel c l with
  |some rest=>WJ C c rest st Q
  |none=>Q (.goto l) st
 |e=>Q e st
def WV (C:Cx) (soft:Bool) (ops:Array Oper) (l:List Oper) (dst:Option Nat) (st:St) (Q:St->Prop) (v:Option TV):Prop:=match v with
 |some v=>WO C soft ops l (st.putO dst v) Q
 |none=>False
def WS (C:Cx) (soft:Bool) (ops:Array Oper) (l:List Oper) (Q:St->Prop) (s:Option St):Prop:=match s with
 |some st=>WO C soft ops l st Q
 |none=>False
def WB2 (C:Cx) (ops:Array Oper) (l:List Oper) (dst:Option Nat) (t:TypeId) (ps:Array (Nat×Operand)) (Q:St->Prop) (s:Option St):Prop:=match s with
 |some st=>WV C false ops l dst st Q (val C.P st (.build t ps))
 |none=>False
def WB (C:Cx) (soft:Bool) (ops:Array Oper) (l:List Oper) (dst:Option Nat) (t:TypeId) (ps:Array (Nat×Operand)) (st:St) (Q:St->Prop) (v:Option TV):Prop:=match v with
 |some v=>WO C soft ops l (st.putO dst v) Q
 |none=>if soft then False else WB2 C ops l dst t ps Q (frzAll st (ps.toList.map fun p=>st.eval p.2))
def WT2 (C:Cx) (ops:Array Oper) (l:List Oper) (dst:Option Nat) (t t':TypeId) (x:Operand) (Q:St->Prop) (s:Option St):Prop:=match s with
 |some st=>WV C false ops l dst st Q (val C.P st (.convert t t' x))
 |none=>False
def WT (C:Cx) (soft:Bool) (ops:Array Oper) (l:List Oper) (dst:Option Nat) (t t':TypeId) (x:Operand) (st:St) (Q:St->Prop) (v:Option TV):Prop:=match v with
 |some v=>WO C soft ops l (st.putO dst v) Q
 |none=>if soft then False else WT2 C ops l dst t t' x Q (frzAll st [st.eval x])
def WM2 (C:Cx) (ops:Array Oper) (l:List Oper) (dst:Option Nat) (f:Go.Fn) (fs ps:Array Operand) (Q:St->Prop) (s:Option St):Prop:=match s with
 |some st=>WV C false ops l dst st Q (val C.P st (.makeFunc f fs ps))
 |none=>False
def WM (C:Cx) (soft:Bool) (ops:Array Oper) (l:List Oper) (dst:Option Nat) (f:Go.Fn) (fs ps:Array Operand) (st:St) (Q:St->Prop) (v:Option TV):Prop:=match v with
 |some v=>WO C soft ops l (st.putO dst v) Q
 |none=>if soft then False else WM2 C ops l dst f fs ps Q (frzAll st (ps.toList.map st.eval))
def WF (C:Cx) (soft:Bool) (ops:Array Oper) (l:List Oper) (dst:Option Nat) (st:St) (Q:St->Prop) (g:FuncId) (ss:List SV):Prop:=
 ∃n,WS C soft ops l Q (afterCall soft dst st (callN C.P C.X C.mu C.good n g (ss.map Arg.sv)))
def WY (C:Cx) (ops:Array Oper) (l:List Oper) (dst:Option Nat) (st:St) (Q:St->Prop) (g:FuncId) (caps:List SV) (ss:Option (List SV)):Prop:=match ss with
 |some ss=>WF C false ops l dst st Q g (ss++caps)
 |none=>False
def WZ (C:Cx) (ops:Array Oper) (l:List Oper) (dst:Option Nat) (args:List Operand) (Q:St->Prop) (g:FuncId) (caps:List SV) (s:Option St):Prop:=match s with
 |some st=>WY C ops l dst st Q g caps (allSV (args.map st.eval))
 |none=>False
def WI (C:Cx) (ops:Array Oper) (l:List Oper) (dst:Option Nat) (st:St) (Q:St->Prop) (g:FuncId) (vs:List TV) (di:Bool) (ars:Option (List Arg)):Prop:=match ars with
 |some ars=>di=true /\ ∃n s exps st',callN C.P C.X C.mu C.good n g ars=some (.sv s,exps)/\expAll st vs (exps.take vs.length)=some st'/\WO C false ops l (st'.putO dst (.sv s)) Q
 |none=>False
def WR (C:Cx) (ops:Array Oper) (l:List Oper) (dst:Option Nat) (st:St) (Q:St->Prop) (g:FuncId) (caps:List SV) (vs:List TV):Prop:=
 ∃n,WS C true ops l Q (roCall (callN C.P C.X C.mu C.good n) (muS C.mu true ops) dst g caps vs st)
def WA (C:Cx) (soft:Bool) (ops:Array Oper) (l:List Oper) (dst:Option Nat) (args:List Operand) (st:St) (Q:St->Prop) (vs:List TV) (g:TV) (ss:Option (List SV)):Prop:=match g with
 | .sv (.fn g caps)=>match ss with
  |some ss=>WF C soft ops l dst st Q g (ss++caps)
  |none=>if soft then WR C ops l dst st Q g caps vs else if C.mu g then WI C ops l dst st Q g vs (distinct (impIds vs)) ((impArgs st vs).map (· ++ caps.map Arg.sv)) else WZ C ops l dst args Q g caps (frzAll st vs)
 |_=>False
def WG (C:Cx) (soft:Bool) (ops:Array Oper) (o:Oper) (l:List Oper) (st:St) (Q:St->Prop) (v:TV) (want:Bool):Prop:=match v with
 | .sv (.bool b)=>if b=want then WO C soft ops ({ o with guard:=none }::l) st Q else WO C soft ops l (st.putO o.dst .skip) Q
 | .skip=>WO C soft ops l (st.putO o.dst .skip) Q
 |_=>False
def WC (C:Cx) (v:TV) (t e:Code) (st:St) (Q:Ex->St->Prop):Prop:=match v with
 | .sv (.bool b)=>WP C (if b then t else e) st Q
 |_=>False
section
variable {C:Cx} {soft:Bool} {ops:Array Oper} {l:List Oper} {st:St} {Q:St->Prop} {R:Ex->St->Prop} {d:Nat} {dst:Option Nat}
 {ty:TypeId} {pos:String} {af:Array Edge}
theorem exec_up {n m k:Nat} {c:Code} {r:Ex×St} (h:exec C.P (callN C.P C.X C.mu C.good n) C.mu n c st=some r) (hm:n<=m:=by omega) (hk:n<=k:=by omega) :
  exec C.P (callN C.P C.X C.mu C.good m) C.mu k c st=some r:=exec_mono (callN_mono C.X hm) hk h
theorem ops_up {n m:Nat} {s:St} (h:execOps C.P (callN C.P C.X C.mu C.good n) C.mu soft ops l st=some s) (hm:n<=m) :
  execOps C.P (callN C.P C.X C.mu C.good m) C.mu soft ops l st=some s:=execOps_mono (callN_mono C.X hm) h
theorem vo_nil:WO C soft ops [] st Q=Q st:=
 propext ⟨fun ⟨n,s,h,q⟩=>by unfold execOps at h;cases h;exact q,fun q=>⟨0,st,rfl,q⟩⟩
theorem vo_step {o:Oper} {s:Option St} (h : ∀c,stepO C.P c C.mu soft ops o st=s):WO C soft ops (o::l) st Q=WS C soft ops l Q s:=by
 apply propext;constructor
 ·rintro⟨n,s',h',q⟩
  unfold execOps at h';rw[h]at h';cases s with
  |none=>cases h'
  |some s=>exact⟨n,s',h',q⟩
 ·intro h';cases s with
  |none=>exact h'.elim
  |some s=>
   obtain⟨n,s',h',q⟩:=h';refine⟨n,s',?_,q⟩;unfold execOps;rw[h];exact h'
theorem vo_move {x:Operand}:WO C soft ops (⟨dst,.move x,ty,pos,af,none⟩::l) st Q=WO C soft ops l (st.putO dst (st.eval x)) Q:=vo_step (s:=some _) fun _=>by cases soft<;>rfl
theorem vo_assign {x:Operand}:WO C soft ops (⟨dst,.assign x,ty,pos,af,none⟩::l) st Q=WO C soft ops l (st.putO dst (st.eval x)) Q:=vo_step (s:=some _) fun _=>by cases soft<;>rfl
def isVal:Op->Bool
 | .pick .. | .nilCheck _ | .binOp .. | .unOp .. | .extract .. | .field .. | .fieldAddr .. | .indexAddr .. | .index .. | .slice .. => true
 | .call { callee := .builtin .len,.. }=>true
 | .call { callee := .builtin .min,.. }=>true
 | .call { callee := .builtin .max,.. }=>true
 |_=>false
def idxB (s:ByteArray) (i:Nat):Option TV:=match s[i]? with
 |some b=>some (.sv (.int .u8 b.toNat))
 |none=>none
def idxV (P:Program) (t:TypeId) (v:TV) (i:Option Nat):Option TV:=match v,i with
 | .sv (.str s),some i=>if isStr P t then idxB s i else none
 |_,_=>none
def WK (C:Cx) (soft:Bool) (ops:Array Oper) (l:List Oper) (Q:St->Prop) (k:Bool) (s:Option St):Prop:=if k then WS C soft ops l Q s else False
theorem wk_true {s:Option St}:WK C soft ops l Q true s=WS C soft ops l Q s:=_root_.id rfl
theorem wk_intro {k:Bool} {s:Option St} (h:k=true) (h':WS C soft ops l Q s):WK C soft ops l Q k s:=by rw[h];exact h'
def loadSt (P:Program) (dst:Option Nat) (st:St) (t:TypeId) (x:Operand):Option St:=match val P st (.load t x) with
 |some v=>some (st.putO dst v)
 |none=>none
theorem vo_load {t:TypeId} {x:Operand}:WO C false ops (⟨dst,.load t x,ty,pos,af,none⟩::l) st Q=WS C false ops l Q (loadSt C.P dst st t x):=vo_step fun _=>rfl
theorem step_mu {mu mu':FuncId->Bool} {c:Callf} {op:Op} (h:isMem op=true):step C.P c mu soft dst op st=step C.P c mu' soft dst op st:=by
 cases op<;>first|rfl|cases h
theorem vo_step' {op:Op} {s:Option St} (hm:isMem op=true) (h : ∀c,step C.P c C.mu true dst op st=s):WO C true ops (⟨dst,op,ty,pos,af,none⟩::l) st Q=WK C true ops l Q (lkv ops op (adrOp st op)) s:=by
 have : ∀c,stepO C.P c C.mu true ops ⟨dst,op,ty,pos,af,none⟩ st=if lkv ops op (adrOp st op) then s else none:=fun c=>by
  simp only[stepO,stepS,hm,(step_mu (mu':=C.mu) hm).trans (h _),yU];cases lkv ops op (adrOp st op)<;>rfl
 rw[vo_step this];unfold WK;cases lkv ops op (adrOp st op)<;>rfl
theorem vo_loadS {t:TypeId} {x:Operand}:WO C true ops (⟨dst,.load t x,ty,pos,af,none⟩::l) st Q=WK C true ops l Q (lkv ops (.load t x) (st.eval x).adr) (loadSt C.P dst st t x):=vo_step' rfl fun _=>rfl
theorem vo_storeS {t:TypeId} {a x:Operand}:WO C true ops (⟨none,.store t a x,ty,pos,af,none⟩::l) st Q=WK C true ops l Q (lkv ops (.store t a x) (st.eval a).adr) (store C.P true st t a x):=vo_step' rfl fun _=>rfl
theorem vo_allocS {t:TypeId}:WO C true ops (⟨some d,.alloc t,ty,pos,af,none⟩::l) st Q=WK C true ops l Q (lkv ops (.alloc t) none) (hard C.P (some d) st (.alloc t)):=vo_step' rfl fun _=>rfl
theorem vo_makeS {t:TypeId} {x y:Operand}:WO C true ops (⟨some d,.makeSlice t x y,ty,pos,af,none⟩::l) st Q=WK C true ops l Q (lkv ops (.makeSlice t x y) none) (hard C.P (some d) st (.makeSlice t x y)):=vo_step' rfl fun _=>rfl
theorem step_val {mu:FuncId->Bool} {c:Callf} {op:Op} (h:isVal op=true):step C.P c mu soft dst op st=(match val C.P st op with|some v=>some (st.putO dst v)|none=>none):=by
 unfold isVal at h;split at h<;>first|(cases h;done)|(show (match val C.P st _ with|some v=>some (st.putO dst v)|none=>if soft then none else none)=_;cases val C.P st _<;>cases soft<;>rfl)
theorem isVal_mem {op:Op} (h:isVal op=true):isMem op=false:=by
 cases op<;>first|rfl|cases h
theorem vo_val {op:Op} (h:isVal op=true):WO C soft ops (⟨dst,op,ty,pos,af,none⟩::l) st Q=WV C soft ops l dst st Q (val C.P st op):=by
 have hs : ∀c,stepO C.P c C.mu soft ops ⟨dst,op,ty,pos,af,none⟩ st=(match val C.P st op with|some v=>some (st.putO dst v)|none=>none):=fun c=>by
  show stepS _ _ _ _ _ _ _ _=_;unfold stepS;rw[isVal_mem h,Bool.and_false,yY,if_neg (by simp)];exact step_val (c:=c) h
 rw[vo_step hs];cases val C.P st op<;>rfl
section
variable {x y z:Operand} {t t':TypeId} {n:Nat}
theorem vo_nilCheck:WO C soft ops (⟨dst,.nilCheck x,ty,pos,af,none⟩::l) st Q=WV C soft ops l dst st Q (val C.P st (.nilCheck x)):=vo_val rfl
theorem vo_pick:WO C soft ops (⟨dst,.pick x y z,ty,pos,af,none⟩::l) st Q=WV C soft ops l dst st Q (val C.P st (.pick x y z)):=vo_val rfl
theorem vo_build {ps:Array (Nat×Operand)}:WO C soft ops (⟨dst,.build t ps,ty,pos,af,none⟩::l) st Q=WB C soft ops l dst t ps st Q (val C.P st (.build t ps)):=by
 have hs : ∀c,stepO C.P c C.mu soft ops ⟨dst,.build t ps,ty,pos,af,none⟩ st=(match val C.P st (.build t ps) with|some v=>some (st.putO dst v)|none=>if soft then none else frzV C.P dst st (.build t ps)):=fun c=>by
  show stepS _ _ _ _ _ _ _ _=_;unfold stepS;rw[show isMem (.build t ps)=false from rfl,Bool.and_false,yY,if_neg (by simp)];rfl
 rw[vo_step hs];cases val C.P st (.build t ps) with
 |some v=>rfl
 |none=>
  cases soft with
  |true=>rfl
  |false=>
   show WS C false ops l Q (frzV C.P dst st (.build t ps))=WB2 C ops l dst t ps Q (frzAll st (ps.toList.map fun p=>st.eval p.2));unfold frzV;dsimp only;cases frzAll st (ps.toList.map fun p=>st.eval p.2) with
   |none=>rfl
   |some s1=>
    show WS C false ops l Q (match val C.P s1 (.build t ps) with|some v=>some (s1.putO dst v)|none=>none)=WV C false ops l dst s1 Q (val C.P s1 (.build t ps));cases val C.P s1 (.build t ps)<;>rfl
theorem vo_bin {op:BinOp}:WO C soft ops (⟨dst,.binOp op t x y t',ty,pos,af,none⟩::l) st Q=WV C soft ops l dst st Q (val C.P st (.binOp op t x y t')):=vo_val rfl
theorem vo_un {op:UnOp}:WO C soft ops (⟨dst,.unOp op t x,ty,pos,af,none⟩::l) st Q=WV C soft ops l dst st Q (val C.P st (.unOp op t x)):=vo_val rfl
theorem vo_extract:WO C soft ops (⟨dst,.extract x n,ty,pos,af,none⟩::l) st Q=WV C soft ops l dst st Q (val C.P st (.extract x n)):=vo_val rfl
theorem vo_field:WO C soft ops (⟨dst,.field t x n,ty,pos,af,none⟩::l) st Q=WV C soft ops l dst st Q (val C.P st (.field t x n)):=vo_val rfl
theorem vo_fieldAddr:WO C soft ops (⟨dst,.fieldAddr t x n,ty,pos,af,none⟩::l) st Q=WV C soft ops l dst st Q (val C.P st (.fieldAddr t x n)):=vo_val rfl
theorem vo_indexAddr:WO C soft ops (⟨dst,.indexAddr t x y,ty,pos,af,none⟩::l) st Q=WV C soft ops l dst st Q (val C.P st (.indexAddr t x y)):=vo_val rfl
theorem vo_index:WO C soft ops (⟨dst,.index t x y,ty,pos,af,none⟩::l) st Q=WV C soft ops l dst st Q (val C.P st (.index t x y)):=vo_val rfl
theorem vo_slice {lo hi mx:Option Operand}:WO C soft ops (⟨dst,.slice t x lo hi mx,ty,pos,af,none⟩::l) st Q=WV C soft ops l dst st Q (val C.P st (.slice t x lo hi mx)):=vo_val rfl
theorem vo_convert:WO C soft ops (⟨dst,.convert t t' x,ty,pos,af,none⟩::l) st Q=WT C soft ops l dst t t' x st Q (val C.P st (.convert t t' x)):=by
 have hs : ∀c,stepO C.P c C.mu soft ops ⟨dst,.convert t t' x,ty,pos,af,none⟩ st=(match val C.P st (.convert t t' x) with|some v=>some (st.putO dst v)|none=>if soft then none else frzV C.P dst st (.convert t t' x)):=fun c=>by
  show stepS _ _ _ _ _ _ _ _=_;unfold stepS;rw[show isMem (.convert t t' x)=false from rfl,Bool.and_false,yY,if_neg (by simp)];rfl
 rw[vo_step hs];cases val C.P st (.convert t t' x) with
 |some v=>rfl
 |none=>
  cases soft with
  |true=>rfl
  |false=>
   show WS C false ops l Q (frzV C.P dst st (.convert t t' x))=WT2 C ops l dst t t' x Q (frzAll st [st.eval x]);unfold frzV;dsimp only;cases frzAll st [st.eval x]with
   |none=>rfl
   |some s1=>
    show WS C false ops l Q (match val C.P s1 (.convert t t' x) with|some v=>some (s1.putO dst v)|none=>none)=WV C false ops l dst s1 Q (val C.P s1 (.convert t t' x));cases val C.P s1 (.convert t t' x)<;>rfl
theorem vo_makeFunc {f:Go.Fn} {ps fs:Array Operand}:WO C soft ops (⟨dst,.makeFunc f fs ps,ty,pos,af,none⟩::l) st Q=WM C soft ops l dst f fs ps st Q (val C.P st (.makeFunc f fs ps)):=by
 have hs : ∀c,stepO C.P c C.mu soft ops ⟨dst,.makeFunc f fs ps,ty,pos,af,none⟩ st=(match val C.P st (.makeFunc f fs ps) with|some v=>some (st.putO dst v)|none=>if soft then none else frzV C.P dst st (.makeFunc f fs ps)):=fun c=>by
  show stepS _ _ _ _ _ _ _ _=_;unfold stepS;rw[show isMem (.makeFunc f fs ps)=false from rfl,Bool.and_false,yY,if_neg (by simp)];rfl
 rw[vo_step hs];cases val C.P st (.makeFunc f fs ps) with
 |some v=>rfl
 |none=>
  cases soft with
  |true=>rfl
  |false=>
   show WS C false ops l Q (frzV C.P dst st (.makeFunc f fs ps))=WM2 C ops l dst f fs ps Q (frzAll st (ps.toList.map st.eval));unfold frzV;dsimp only;cases frzAll st (ps.toList.map st.eval) with
   |none=>rfl
   |some s1=>
    show WS C false ops l Q (match val C.P s1 (.makeFunc f fs ps) with|some v=>some (s1.putO dst v)|none=>none)=WV C false ops l dst s1 Q (val C.P s1 (.makeFunc f fs ps));cases val C.P s1 (.makeFunc f fs ps)<;>rfl
end
theorem isStr_match {α:Type} (o:Option TypeDesc) (a:α):(match o with|some .string=>some a|_=>none)=if (match o with|some .string=>true|_=>false)=true then some a else none:=by
 cases o with
 |none=>rfl
 |some d=>cases d<;>rfl
def lenV (P:Program) (t:TypeId) (v:TV):Option TV:=match lenTV v,v with
 |some n,.sv (.str _)=>if isStr P t then some (.sv (.int .i64 n)) else none
 |some n,_=>match elm P t with
  |some _=>some (.sv (.int .i64 n))
  |none=>none
 |none,_=>none
theorem vo_len {x:Operand} {t:TypeId}:WO C soft ops (⟨dst,.call { callee := .builtin .len,args := #[x],argTypes := #[t] },ty,pos,af,none⟩::l) st Q=WV C soft ops l dst st Q (lenV C.P t (st.eval x)):=by
 rw[vo_val rfl];congr 1;simp only[val,lenV,isStr];cases hl:lenTV (st.eval x) with
 |none=>rfl
 |some n=>
  cases hx:st.eval x with
  |sv s=>
   cases s with
   |str b=>
    dsimp only;exact isStr_match _ _
   |_=>rfl
  |_=>rfl
theorem vo_min {args:Array Operand} {tys:Array TypeId}:WO C soft ops (⟨dst,.call { callee := .builtin .min,args:=args,argTypes:=tys },ty,pos,af,none⟩::l) st Q =
  WV C soft ops l dst st Q (match allSV (args.toList.map st.eval) with|some l=>(minSV l).map TV.sv|none=>none):=vo_val rfl
theorem vo_max {args:Array Operand} {tys:Array TypeId}:WO C soft ops (⟨dst,.call { callee := .builtin .max,args:=args,argTypes:=tys },ty,pos,af,none⟩::l) st Q =
  WV C soft ops l dst st Q (match allSV (args.toList.map st.eval) with|some l=>(maxSV l).map TV.sv|none=>none):=vo_val rfl
theorem vo_alloc {t:TypeId}:WO C false ops (⟨some d,.alloc t,ty,pos,af,none⟩::l) st Q=WS C false ops l Q (hard C.P (some d) st (.alloc t)):=vo_step fun _=>rfl
theorem vo_box {t:TypeId} {x:Operand}:WO C soft ops (⟨some d,.box t x,ty,pos,af,none⟩::l) st Q=WS C soft ops l Q (hard C.P (some d) st (.box t x)):=vo_step fun _=>by cases soft<;>rfl
theorem vo_makeH {t:TypeId} {x y:Operand}:WO C false ops (⟨some d,.makeSlice t x y,ty,pos,af,none⟩::l) st Q=WS C false ops l Q (hard C.P (some d) st (.makeSlice t x y)):=vo_step fun _=>rfl
theorem vo_lit {t:TypeId} {n:Nat} {ps:Array (Nat×Operand)}:WO C false ops (⟨some d,.buildSlice t n ps,ty,pos,af,none⟩::l) st Q=WS C false ops l Q (hard C.P (some d) st (.buildSlice t n ps)):=vo_step fun _=>rfl
def softLit (P:Program) (dst:Option Nat) (st:St) (t:TypeId) (n:Nat) (parts:Array (Nat×Operand)):Option St:=
 match litC P st t n parts with
 |some (_,cs)=>some (st.putO dst (.sv (.sl n cs)))
 |none=>none
theorem vo_softlit {t:TypeId} {n:Nat} {ps:Array (Nat×Operand)}:WO C true ops (⟨dst,.buildSlice t n ps,ty,pos,af,none⟩::l) st Q=WS C true ops l Q (softLit C.P dst st t n ps):=vo_step fun _=>rfl
theorem vo_store {t:TypeId} {a x:Operand}:WO C false ops (⟨none,.store t a x,ty,pos,af,none⟩::l) st Q=WS C false ops l Q (store C.P false st t a x):=vo_step fun _=>rfl
theorem vo_append {s x:Operand} {t:TypeId}:WO C soft ops (⟨dst,.call { callee := .builtin .append,args := #[s,x],argTypes := #[t,t] },ty,pos,af,none⟩::l) st Q=WS C soft ops l Q (append C.P dst st t s x):=
 vo_step fun _=>by cases soft<;>simp[stepO,stepS,step,isMem,isStore,isLoad,isAlloc]
theorem vo_copy {s x:Operand} {t t':TypeId}:WO C soft ops (⟨dst,.call { callee := .builtin .copy,args := #[s,x],argTypes := #[t,t'] },ty,pos,af,none⟩::l) st Q=WS C soft ops l Q (copy C.P dst st t s x):=
 vo_step fun _=>by cases soft<;>rfl
theorem vo_acall {f:Operand} {args:Array Operand} {tys:Array TypeId} :
  WO C soft ops (⟨dst,.call { callee := .value f,args:=args,argTypes:=tys },ty,pos,af,none⟩::l) st Q = ∃n,WS C soft ops l Q (acall (callN C.P C.X C.mu C.good n) (muS C.mu soft ops) soft dst f args.toList st):=by
 have e : ∀c,stepO C.P c C.mu soft ops ⟨dst,.call { callee := .value f,args:=args,argTypes:=tys },ty,pos,af,none⟩ st=acall c (muS C.mu soft ops) soft dst f args.toList st:=fun c=>by cases soft<;>rfl
 apply propext;constructor
 ·rintro⟨n,s,h,q⟩
  unfold execOps at h;rw[e]at h;refine⟨n,?_⟩;cases hx:acall (callN C.P C.X C.mu C.good n) (muS C.mu soft ops) soft dst f args.toList st with
  |none=>rw[hx]at h;cases h
  |some s1=>rw[hx]at h;exact⟨n,s,h,q⟩
 ·rintro⟨n,h⟩
  cases hx:acall (callN C.P C.X C.mu C.good n) (muS C.mu soft ops) soft dst f args.toList st with
  |none=>rw[hx]at h;exact h.elim
  |some s1=>
   rw[hx]at h;obtain⟨m,s,h,q⟩:=h;refine⟨max n m,s,?_,q⟩;unfold execOps;rw[e,acall_mono (callN_mono C.X (Nat.le_max_left n m)) hx];exact ops_up h (Nat.le_max_right n m)
theorem ws_none:WS C soft ops l Q none=False:=_root_.id rfl
theorem ex_false:(∃_:Nat,False)=False:=by simp
theorem vo_call {f:Operand} {args:Array Operand} {tys:Array TypeId} :
  WO C soft ops (⟨dst,.call { callee := .value f,args:=args,argTypes:=tys },ty,pos,af,none⟩::l) st Q=WA C soft ops l dst args.toList st Q (args.toList.map st.eval) (st.eval f) (allSV (args.toList.map st.eval)):=by
 rw[vo_acall];unfold acall;split
 ·rename_i g caps hg;rw[hg];unfold WA;cases hss:allSV (args.toList.map st.eval) with
  |some ss=>rfl
  |none=>
   simp only;cases soft with
   |true=>simp only[if_true,WR]
   |false=>
    simp only[Bool.false_eq_true,if_false];rw[show muS C.mu false ops=C.mu from rfl];cases hmu:C.mu g with
    |false=>
     simp only[Bool.false_eq_true,if_false];cases hz:frzAll st (args.toList.map st.eval) with
     |none=>simp only[WZ,ws_none,ex_false]
     |some st' =>
      simp only[WZ];cases hs2:allSV (args.toList.map st'.eval) with
      |none=>simp only[WY,ws_none,ex_false]
      |some ss=>rfl
    |true=>
     simp only[if_true];unfold WI;cases hd:distinct (impIds (args.toList.map st.eval)) with
     |false=>
      simp only[Bool.false_eq_true,if_false,ws_none,ex_false,false_and];cases impArgs st (args.toList.map st.eval)<;>rfl
     |true=>
      simp only[if_true,true_and];cases has:impArgs st (args.toList.map st.eval) with
      |none=>simp only[wq,ws_none,ex_false]
      |some ars=>
       simp only[yp];apply propext;constructor
       ·rintro⟨n,h⟩
        cases hc:callN C.P C.X C.mu C.good n g (ars++caps.map Arg.sv) with
        |none=>rw[hc]at h;exact h.elim
        |some re=>
         obtain⟨r,exps⟩:=re;rw[hc]at h;simp only at h;cases hx:expAll st (args.toList.map st.eval) (exps.take args.toList.length) with
         |none=>rw[hx]at h;exact h.elim
         |some st' =>
          rw[hx]at h;cases r with
          |obj cs=>exact h.elim
          |row=>exact h.elim
          |sv s=>exact⟨n,s,exps,st',hc,by rw[zZ];exact hx,h⟩
       ·rintro⟨n,s,exps,st',hc,hx,h⟩
        rw[zZ]at hx;exact⟨n,by rw[hc];simp only;rw[hx];exact h⟩
 ·rename_i hne;unfold WA;split
  ·rename_i g caps hg;exact(hne _ _ hg).elim
  ·simp only[ws_none,ex_false]
theorem vo_guard {op:Op} {j:Nat} {want:Bool} {t:Nat} (h:(ops[j]?).bind (·.dst)=some t) :
  WO C soft ops (⟨dst,op,ty,pos,af,some (j,want)⟩::l) st Q=WG C soft ops ⟨dst,op,ty,pos,af,none⟩ l st Q (st.tmp t) want:=by
 have hs : ∀c,stepO C.P c C.mu soft ops ⟨dst,op,ty,pos,af,some (j,want)⟩ st=match st.tmp t with
   | .sv (.bool b)=>if b=want then stepS C.P c C.mu soft ops dst op st else some (st.putO dst .skip)
   | .skip=>some (st.putO dst .skip)
   |_=>none:=fun c=>by simp only[stepO,h];rfl
 unfold WG;split
 ·rename_i b hb;by_cases hw:b=want
  ·rw[if_pos hw];have hs' : ∀c,stepO C.P c C.mu soft ops ⟨dst,op,ty,pos,af,some (j,want)⟩ st=stepO C.P c C.mu soft ops ⟨dst,op,ty,pos,af,none⟩ st:=fun c=>by
    rw[hs,hb];simp[hw,stepO]
   unfold WO;simp only[execOps,hs']
  ·rw[if_neg hw];exact vo_step (s:=some _) fun c=>by rw[hs,hb];simp[hw]
 ·rename_i hb;exact vo_step (s:=some _) fun c=>by rw[hs,hb]
 ·rename_i hn hn2;refine propext ⟨?_,fun h=>h.elim⟩;rintro⟨n,s,he,_⟩
  unfold execOps at he;rw[hs]at he;split at he
  ·rename_i hx;split at hx
   ·rename_i b hb;exact absurd hb (hn b)
   ·rename_i hb;exact absurd hb hn2
   ·cases hx
  ·cases he
def gdst (ops:Array Oper) (j:Nat):Option Nat:=(ops[j]?).bind (·.dst)
def WG2 (C:Cx) (soft:Bool) (ops:Array Oper) (o:Oper) (l:List Oper) (st:St) (Q:St->Prop) (want:Bool) (t:Option Nat):Prop:=match t with
 |some t=>WG C soft ops o l st Q (st.tmp t) want
 |none=>WO C soft ops l st Q/\False
theorem vo_guard2 {op:Op} {j:Nat} {want:Bool}:WO C soft ops (⟨dst,op,ty,pos,af,some (j,want)⟩::l) st Q=WG2 C soft ops ⟨dst,op,ty,pos,af,none⟩ l st Q want (gdst ops j):=by
 cases h:gdst ops j with
 |some t=>exact vo_guard h
 |none=>
  apply propext;constructor
  ·rintro⟨n,s,he,_⟩
   unfold execOps at he;have:stepO C.P (callN C.P C.X C.mu C.good n) C.mu soft ops ⟨dst,op,ty,pos,af,some (j,want)⟩ st=none:=by
    unfold stepO;have h':(ops[j]?).bind (·.dst)=none:=h;simp only[h']
   rw[this]at he;cases he
  ·rintro⟨_,h⟩
   exact h.elim
theorem wg2_some {o:Oper} {want:Bool} {t:Nat}:WG2 C soft ops o l st Q want (some t)=WG C soft ops o l st Q (st.tmp t) want:=_root_.id rfl
theorem wg_tt {ty:TypeId} {pos:String} {af:Array Edge} {op:Op}:WG C soft ops ⟨dst,op,ty,pos,af,none⟩ l st Q (.sv (.bool true)) true=WO C soft ops (⟨dst,op,ty,pos,af,none⟩::l) st Q:=_root_.id rfl
theorem wg_ff {ty:TypeId} {pos:String} {af:Array Edge} {op:Op}:WG C soft ops ⟨dst,op,ty,pos,af,none⟩ l st Q (.sv (.bool false)) false=WO C soft ops (⟨dst,op,ty,pos,af,none⟩::l) st Q:=_root_.id rfl
theorem wg_tf {ty:TypeId} {pos:String} {af:Array Edge} {op:Op}:WG C soft ops ⟨dst,op,ty,pos,af,none⟩ l st Q (.sv (.bool true)) false=WO C soft ops l (st.putO dst .skip) Q:=_root_.id rfl
theorem wg_ft {ty:TypeId} {pos:String} {af:Array Edge} {op:Op}:WG C soft ops ⟨dst,op,ty,pos,af,none⟩ l st Q (.sv (.bool false)) true=WO C soft ops l (st.putO dst .skip) Q:=_root_.id rfl
theorem wg_skip {ty:TypeId} {pos:String} {af:Array Edge} {op:Op} {want:Bool}:WG C soft ops ⟨dst,op,ty,pos,af,none⟩ l st Q .skip want=WO C soft ops l (st.putO dst .skip) Q:=_root_.id rfl
theorem wg_congr {o:Oper} {want:Bool} {v v':TV} (h:v=v'):WG C soft ops o l st Q v want=WG C soft ops o l st Q v' want:=by rw[h]
theorem wg2_congr {o:Oper} {want:Bool} {t t':Option Nat} (h:t=t'):WG2 C soft ops o l st Q want t=WG2 C soft ops o l st Q want t':=by rw[h]
theorem vp_region' {id:Nat} {draw:Bool}:WP C (.region id ops draw) st R=WS C draw ops ops.toList (R .normal) (preFrz C.P draw ops st):=by
 apply propext;constructor
 ·rintro⟨n,e,s,h,q⟩
  cases n with
  |zero=>simp[exec]at h
  |succ n=>
   unfold exec at h;dsimp only at h;cases h0:preFrz C.P draw ops st with
   |none=>rw[h0]at h;cases h
   |some st0=>
    rw[h0]at h;dsimp only at h;cases hx:execOps C.P (callN C.P C.X C.mu C.good (n+1)) C.mu draw ops ops.toList st0 with
    |none=>rw[hx]at h;cases h
    |some s'=>rw[hx]at h;cases h;exact⟨_,_,hx,q⟩
 ·intro h;cases h0:preFrz C.P draw ops st with
  |none=>rw[h0]at h;exact h.elim
  |some st0=>
   rw[h0]at h;obtain⟨n,s,h,q⟩:=h;refine⟨n+1,.normal,s,?_,q⟩;unfold exec;dsimp only;rw[h0];dsimp only;rw[ops_up h (yg n)]
theorem vp_region {id:Nat}:WP C (.region id ops false) st R=WO C false ops ops.toList st (R .normal):=vp_region'
theorem vp_draw {id:Nat} {l:List Nat} (h:rootsOf C.P ops=l) (k:WS C true ops ops.toList (R .normal) (frzAll st ((l.map st.tmp).filter ownRef))):WP C (.region id ops true) st R:=by
 rw[vp_region'];unfold preFrz;rw[if_pos rfl,h];exact k
theorem vp_seq {a b:Code}:WP C (.seq a b) st R=WP C a st (nx C b R):=by
 apply propext;constructor
 ·rintro⟨n,e,s,h,q⟩
  cases n with
  |zero=>simp[exec]at h
  |succ n=>
   unfold exec at h;dsimp only at h;cases hx:exec C.P (callN C.P C.X C.mu C.good (n+1)) C.mu n a st with
   |none=>rw[hx]at h;cases h
   |some x=>
    obtain⟨x,s'⟩:=x;rw[hx]at h;refine⟨n+1,x,s',exec_mono (CallLe.refl _) (yg n) hx,?_⟩;cases x with
    |normal=>exact⟨n+1,e,s,exec_mono (CallLe.refl _) (yg n) h,q⟩
    |exit i=>cases h;exact q
    |ret=>cases h;exact q
    |goto l=>cases h;exact q
 ·rintro⟨n,e,s,h,q⟩
  cases e with
  |normal=>
   obtain⟨m,e',s',h',q'⟩:=q;refine⟨max n m+1,e',s',?_,q'⟩;unfold exec;dsimp only;rw[exec_up h];exact exec_up h'
  |exit i=>
   refine⟨n+1,_,s,?_,q⟩;unfold exec;dsimp only;rw[exec_up h]
  |ret=>
   refine⟨n+1,_,s,?_,q⟩;unfold exec;dsimp only;rw[exec_up h]
  |goto l=>
   refine⟨n+1,_,s,?_,q⟩;unfold exec;dsimp only;rw[exec_up h]
theorem vp_block {id:Nat} {c:Code}:WP C (.block id c) st R=WP C c st (bk id R):=by
 apply propext;constructor
 ·rintro⟨n,e,s,h,q⟩
  cases n with
  |zero=>simp[exec]at h
  |succ n=>
   unfold exec at h;dsimp only at h;cases hx:exec C.P (callN C.P C.X C.mu C.good (n+1)) C.mu n c st with
   |none=>rw[hx]at h;cases h
   |some x=>
    obtain⟨x,s'⟩:=x;rw[hx]at h;refine⟨n+1,x,s',exec_mono (CallLe.refl _) (yg n) hx,?_⟩;cases x with
    |normal=>cases h;exact q
    |ret=>cases h;exact q
    |goto l=>cases h;exact q
    |exit i=>
     dsimp only at h;unfold bk;dsimp only;by_cases hi:i=id
     ·rw[if_pos hi]at h ⊢;cases h;exact q
     ·rw[if_neg hi]at h ⊢;cases h;exact q
 ·rintro⟨n,e,s,h,q⟩
  cases e with
  |normal=>
   refine⟨n+1,_,s,?_,q⟩;unfold exec;dsimp only;rw[exec_up h]
  |ret=>
   refine⟨n+1,_,s,?_,q⟩;unfold exec;dsimp only;rw[exec_up h]
  |goto l=>
   refine⟨n+1,_,s,?_,q⟩;unfold exec;dsimp only;rw[exec_up h]
  |exit i=>
   unfold bk at q;dsimp only at q;by_cases hi:i=id
   ·rw[if_pos hi]at q;refine⟨n+1,.normal,s,?_,q⟩;unfold exec;dsimp only;rw[exec_up h];simp[hi]
   ·rw[if_neg hi]at q;refine⟨n+1,.exit i,s,?_,q⟩;unfold exec;dsimp only;rw[exec_up h];simp[hi]
theorem wj_of {c b:Code} (h:WP C b st (SC C c R)):WJ C c b st R:=by
 obtain⟨n,e,s,h,q⟩:=h;cases e with
 |goto l=>
  unfold SC at q;dsimp only at q;split at q
  ·rename_i rest hl;obtain⟨m,e',s',h',q'⟩:=q;refine⟨max n m+1,e',s',?_,q'⟩;rw[exec_up h (show n<=max n m+1 by omega) (show n<=max n m+1 by omega)];unfold jumps;dsimp only;rw[hl];dsimp only;have:=jumps_mono (f:=exec C.P (callN C.P C.X C.mu C.good m) C.mu m) (g:=exec C.P (callN C.P C.X C.mu C.good (max n m+1)) C.mu (max n m+1)) (fun k s r hr=>exec_up hr) (show m<=max n m by omega) h';cases e1:exec C.P (callN C.P C.X C.mu C.good m) C.mu m rest s with
   |none=>rw[e1]at h';cases m<;>simp[jumps]at h'
   |some y=>rw[exec_up e1];rw[e1]at this;exact this
  ·rename_i hl;refine⟨n+1,.goto l,s,?_,q⟩;rw[exec_up h (yg n) (yg n)];unfold jumps;dsimp only;rw[hl]
 |normal=>exact⟨n+1,.normal,s,by rw[exec_up h (yg n) (yg n)];rfl,q⟩
 |exit i=>exact⟨n+1,.exit i,s,by rw[exec_up h (yg n) (yg n)];rfl,q⟩
 |ret=>exact⟨n+1,.ret,s,by rw[exec_up h (yg n) (yg n)];rfl,q⟩
theorem of_wj {c b:Code} (h:WJ C c b st R):WP C b st (SC C c R):=by
 obtain⟨n,e,s,h,q⟩:=h;cases n with
 |zero=>simp[jumps]at h
 |succ n=>
  cases e1:exec C.P (callN C.P C.X C.mu C.good (n+1)) C.mu (n+1) b st with
  |none=>rw[e1]at h;simp[jumps]at h
  |some y=>
   obtain⟨x,s'⟩:=y;rw[e1]at h;refine⟨n+1,x,s',e1,?_⟩;unfold jumps at h;cases x with
   |goto l=>
    show (match findLabel c l with|some rest=>WJ C c rest s' R|none=>R (.goto l) s');dsimp only at h;cases hl:findLabel c l with
    |some rest=>
     rw[hl]at h;exact⟨n+1,e,s,jumps_mono (fun k s r hr=>hr) (yg n) h,q⟩
    |none=>
     rw[hl]at h;cases h;exact q
   |normal=>cases h;exact q
   |exit i=>cases h;exact q
   |ret=>cases h;exact q
theorem vp_scope {c:Code}:WP C (.scope c) st R=WP C c st (SC C c R):=by
 apply propext;constructor
 ·rintro⟨n,e,s,h,q⟩
  cases n with
  |zero=>simp[exec]at h
  |succ n=>
   have h:jumps (exec C.P (callN C.P C.X C.mu C.good (n+1)) C.mu n) c n (exec C.P (callN C.P C.X C.mu C.good (n+1)) C.mu n c st)=some (e,s):=h;refine of_wj ⟨n+1,e,s,?_,q⟩;cases e1:exec C.P (callN C.P C.X C.mu C.good (n+1)) C.mu n c st with
   |none=>rw[e1]at h;cases n<;>simp[jumps]at h
   |some y=>
    rw[e1]at h;rw[exec_mono (CallLe.refl _) (yg n) e1];exact jumps_mono (fun k s r hr=>exec_mono (CallLe.refl _) (yg n) hr) (yg n) h
 ·intro h;obtain⟨n,e,s,h,q⟩:=wj_of h;refine⟨n+1,e,s,?_,q⟩;show jumps (exec C.P (callN C.P C.X C.mu C.good (n+1)) C.mu n) c n (exec C.P (callN C.P C.X C.mu C.good (n+1)) C.mu n c st)=some (e,s);exact jumps_mono (fun k s r hr=>exec_up (k:=n) hr (yg n) (xQ n)) (xQ n) (by
   cases e1:exec C.P (callN C.P C.X C.mu C.good n) C.mu n c st with
   |none=>rw[e1]at h;cases n<;>simp[jumps]at h
   |some y=>rw[e1]at h;rw[exec_up (k:=n) e1 (yg n) (xQ n)];exact h)
theorem vp_label {l:Nat}:WP C (.label l) st R=R .normal st:=
 propext ⟨fun ⟨n,e,s,h,q⟩=>by
  cases n with
  |zero=>simp[exec]at h
  |succ n=>simp only[exec,Option.some.injEq,Prod.mk.injEq]at h;obtain⟨rfl,rfl⟩:=h;exact q,fun q=>⟨1,_,st,rfl,q⟩⟩
theorem vp_goto {l:Nat}:WP C (.goto l) st R=R (.goto l) st:=
 propext ⟨fun ⟨n,e,s,h,q⟩=>by
  cases n with
  |zero=>simp[exec]at h
  |succ n=>simp only[exec,Option.some.injEq,Prod.mk.injEq]at h;obtain⟨rfl,rfl⟩:=h;exact q,fun q=>⟨1,_,st,rfl,q⟩⟩
theorem sc_normal {c:Code}:SC C c R .normal st=R .normal st:=_root_.id rfl
theorem sc_ret {c:Code}:SC C c R .ret st=R .ret st:=_root_.id rfl
theorem sc_exit {c:Code} {i:Nat}:SC C c R (.exit i) st=R (.exit i) st:=_root_.id rfl
theorem nx_goto {b:Code} {l:Nat}:nx C b R (.goto l) st=R (.goto l) st:=_root_.id rfl
theorem bk_goto {id l:Nat}:bk id R (.goto l) st=R (.goto l) st:=_root_.id rfl
theorem vp_loop {c:Code}:WP C (.loop c) st R=WP C c st (nx C (.loop c) R):=by
 apply propext;constructor
 ·rintro⟨n,e,s,h,q⟩
  cases n with
  |zero=>simp[exec]at h
  |succ n=>
   unfold exec at h;dsimp only at h;cases hx:exec C.P (callN C.P C.X C.mu C.good (n+1)) C.mu n c st with
   |none=>rw[hx]at h;cases h
   |some x=>
    obtain⟨x,s'⟩:=x;rw[hx]at h;refine⟨n+1,x,s',exec_mono (CallLe.refl _) (yg n) hx,?_⟩;cases x with
    |normal=>exact⟨n+1,e,s,exec_mono (CallLe.refl _) (yg n) h,q⟩
    |exit i=>cases h;exact q
    |ret=>cases h;exact q
    |goto l=>cases h;exact q
 ·rintro⟨n,e,s,h,q⟩
  cases e with
  |normal=>
   obtain⟨m,e',s',h',q'⟩:=q;refine⟨max n m+1,e',s',?_,q'⟩;unfold exec;dsimp only;rw[exec_up h];exact exec_up h'
  |exit i=>
   refine⟨n+1,_,s,?_,q⟩;unfold exec;dsimp only;rw[exec_up h]
  |ret=>
   refine⟨n+1,_,s,?_,q⟩;unfold exec;dsimp only;rw[exec_up h]
  |goto l=>
   refine⟨n+1,_,s,?_,q⟩;unfold exec;dsimp only;rw[exec_up h]
theorem vp_loop_inv {c:Code} (I:St->Prop) (μ:St->Nat) (h0:I st)
  (round : ∀s,I s->WP C c s (fun e s'=>match e with | .normal=>I s'/\μ s'<μ s|e=>R e s')):WP C (.loop c) st R:=by
 have key : ∀n s,μ s=n->I s->WP C (.loop c) s R:=by
  intro n;induction n using Nat.strongRecOn with
  |_ n ih=>
   intro s hn hI;rw[vp_loop];obtain⟨k,e,s',h,q⟩:=round s hI;refine⟨k,e,s',h,?_⟩;cases e with
   |normal=>exact ih (μ s') (hn▸q.2) s' rfl q.1
   |exit i=>exact q
   |ret=>exact q
   |goto l=>exact q
 exact key _ st rfl h0
theorem vp_loop_fam {c:Code} (I:Nat->St->Prop) (n:Nat) (h0:I n st)
  (round : ∀n s,I n s->WP C c s (fun e s'=>match e with | .normal => ∃m,m<n/\I m s'|e=>R e s')):WP C (.loop c) st R:=by
 have key : ∀n s,I n s->WP C (.loop c) s R:=by
  intro n;induction n using Nat.strongRecOn with
  |_ n ih=>
   intro s hI;rw[vp_loop];obtain⟨k,e,s',h,q⟩:=round n s hI;refine⟨k,e,s',h,?_⟩;cases e with
   |normal=>obtain⟨m,hm,q⟩:=q;exact ih m hm s' q
   |exit i=>exact q
   |ret=>exact q
   |goto l=>exact q
 exact key n st h0
theorem vp_exit {id:Nat}:WP C (.exit id) st R=R (.exit id) st:=
 propext ⟨fun ⟨n,e,s,h,q⟩=>by
  cases n with
  |zero=>simp[exec]at h
  |succ n=>simp only[exec,Option.some.injEq,Prod.mk.injEq]at h;obtain⟨rfl,rfl⟩:=h;exact q,fun q=>⟨1,_,st,rfl,q⟩⟩
theorem vp_skip:WP C .skip st R=R .normal st:=
 propext ⟨fun ⟨n,e,s,h,q⟩=>by
  cases n with
  |zero=>simp[exec]at h
  |succ n=>simp only[exec,Option.some.injEq,Prod.mk.injEq]at h;obtain⟨rfl,rfl⟩:=h;exact q,fun q=>⟨1,_,st,rfl,q⟩⟩
theorem vp_ret:WP C .ret st R=R .ret st:=
 propext ⟨fun ⟨n,e,s,h,q⟩=>by
  cases n with
  |zero=>simp[exec]at h
  |succ n=>simp only[exec,Option.some.injEq,Prod.mk.injEq]at h;obtain⟨rfl,rfl⟩:=h;exact q,fun q=>⟨1,_,st,rfl,q⟩⟩
theorem vp_cond {x:Operand} {t e:Code}:WP C (.cond x t e) st R=WC C (st.eval x) t e st R:=by
 apply propext;constructor
 ·rintro⟨n,e',s,h,q⟩
  cases n with
  |zero=>simp[exec]at h
  |succ n=>
   unfold exec at h;dsimp only at h;unfold WC;split at h
   ·rename_i b hb;rw[hb];exact⟨n+1,e',s,exec_mono (CallLe.refl _) (yg n) h,q⟩
   ·cases h
 ·intro h;unfold WC at h;split at h
  ·rename_i b hb;obtain⟨n,e',s,h,q⟩:=h;refine⟨n+1,e',s,?_,q⟩;unfold exec;dsimp only;rw[hb];exact exec_up h
  ·exact h.elim
theorem nx_normal {b:Code}:nx C b R .normal st=WP C b st R:=_root_.id rfl
theorem nx_ret {b:Code}:nx C b R .ret st=R .ret st:=_root_.id rfl
theorem nx_exit {b:Code} {i:Nat}:nx C b R (.exit i) st=R (.exit i) st:=_root_.id rfl
theorem bk_normal {id:Nat}:bk id R .normal st=R .normal st:=_root_.id rfl
theorem bk_ret {id:Nat}:bk id R .ret st=R .ret st:=_root_.id rfl
theorem bk_exit {id i:Nat}:bk id R (.exit i) st=if i=id then R .normal st else R (.exit i) st:=_root_.id rfl
theorem vv_some {v:TV}:WV C soft ops l dst st Q (some v)=WO C soft ops l (st.putO dst v) Q:=_root_.id rfl
theorem vs_some:WS C soft ops l Q (some st)=WO C soft ops l st Q:=_root_.id rfl
theorem vc_true {t e:Code}:WC C (.sv (.bool true)) t e st R=WP C t st R:=_root_.id rfl
theorem vc_false {t e:Code}:WC C (.sv (.bool false)) t e st R=WP C e st R:=_root_.id rfl
theorem vc_cut {v:TV} {t e:Code} {Mid:St->Prop} (h:WC C v t e st (fun e s=>e = .normal/\Mid s)) (k : ∀s,Mid s->R .normal s):WC C v t e st R:=by
 unfold WC at h ⊢;split at h
 ·obtain⟨n,e',s,h,rfl,q⟩:=h;exact⟨n,_,s,h,k s q⟩
 ·exact h.elim
theorem va_some {args:List Operand} {vs:List TV} {g:FuncId} {caps ss:List SV}:WA C soft ops l dst args st Q vs (.sv (.fn g caps)) (some ss)=WF C soft ops l dst st Q g (ss++caps):=_root_.id rfl
theorem va_none {args:List Operand} {vs:List TV} {g:FuncId} {caps:List SV}:WA C false ops l dst args st Q vs (.sv (.fn g caps)) none =
  if C.mu g then WI C ops l dst st Q g vs (distinct (impIds vs)) ((impArgs st vs).map (· ++ caps.map Arg.sv)) else WZ C ops l dst args Q g caps (frzAll st vs):=_root_.id rfl
theorem va_noneS {args:List Operand} {vs:List TV} {g:FuncId} {caps:List SV}:WA C true ops l dst args st Q vs (.sv (.fn g caps)) none=WR C ops l dst st Q g caps vs:=_root_.id rfl
theorem vr_congr {g:FuncId} {caps:List SV} {vs vs':List TV} (h1:vs=vs'):WR C ops l dst st Q g caps vs=WR C ops l dst st Q g caps vs':=by rw[h1]
theorem vz_some {args:List Operand} {g:FuncId} {caps:List SV}:WZ C ops l dst args Q g caps (some st)=WY C ops l dst st Q g caps (allSV (args.map st.eval)):=_root_.id rfl
theorem vy_some {g:FuncId} {caps ss:List SV}:WY C ops l dst st Q g caps (some ss)=WF C false ops l dst st Q g (ss++caps):=_root_.id rfl
theorem vf_of {g:FuncId} {ss:List SV} {r:SV} (h:Fn C g ss r) (k:WO C soft ops l (st.putO dst (.sv r)) Q):WF C soft ops l dst st Q g ss:=by
 obtain⟨n,e,hn⟩:=h;exact⟨n,by rw[hn];exact k⟩
def FnI (C:Cx) (f:FuncId) (args:List Arg) (r:SV) (exps:List (Option (List SV))):Prop := ∃n,callN C.P C.X C.mu C.good n f args=some (.sv r,exps)
theorem vi_of {g:FuncId} {vs:List TV} {ars:List Arg} {r:SV} {exps:List (Option (List SV))} {st':St} (h:FnI C g ars r exps) (hx:expAll st vs (exps.take vs.length)=some st') (k:WO C false ops l (st'.putO dst (.sv r)) Q) :
  WI C ops l dst st Q g vs true (some ars):=by
 obtain⟨n,hn⟩:=h;exact⟨rfl,n,r,exps,st',hn,hx,k⟩
theorem vr_of {g:FuncId} {cs:List SV} {r:SV} {d g':Nat} (h:FnI C g [.imp cs] r [some cs]) (hw:noW ops=true) (hm:C.mu g=true) (ho:st.obj d g'=some cs) (hs:sameL cs cs=true) (k:WO C true ops l (st.putO dst (.sv r)) Q) :
  WR C ops l dst st Q g [] [.ptr d g' 0]:=by
 obtain⟨n,hn⟩:=h;refine⟨n,?_⟩;have hmu:muS C.mu true ops g=true:=by show (C.mu g&&noW ops)=true;rw[hm,hw];rfl
 have e:roCall (callN C.P C.X C.mu C.good n) (muS C.mu true ops) dst g [] [.ptr d g' 0] st=some (st.putO dst (.sv r)):=by
  unfold roCall;simp only[ho,allSV];rw[if_pos hmu];show (match callN C.P C.X C.mu C.good n g [.imp cs]with|some (.sv s,exps)=>_|_=>none)=_;rw[hn];show (if sameL cs cs&&_ then _ else _)=_;rw[hs];rfl
 rw[e];exact k
theorem vo_congr {st':St} (h:st=st'):WO C soft ops l st Q=WO C soft ops l st' Q:=by rw[h]
theorem vp_congr {c:Code} {st':St} (h:st=st'):WP C c st R=WP C c st' R:=by rw[h]
theorem vb_some {t:TypeId} {ps:Array (Nat×Operand)} {v:TV}:WB C soft ops l dst t ps st Q (some v)=WO C soft ops l (st.putO dst v) Q:=_root_.id rfl
theorem vb_none {t:TypeId} {ps:Array (Nat×Operand)}:WB C false ops l dst t ps st Q none=WB2 C ops l dst t ps Q (frzAll st (ps.toList.map fun p=>st.eval p.2)):=_root_.id rfl
theorem vb2_some {t:TypeId} {ps:Array (Nat×Operand)}:WB2 C ops l dst t ps Q (some st)=WV C false ops l dst st Q (val C.P st (.build t ps)):=_root_.id rfl
theorem vb_congr {t:TypeId} {ps:Array (Nat×Operand)} {v v':Option TV} (h:v=v'):WB C soft ops l dst t ps st Q v=WB C soft ops l dst t ps st Q v':=by rw[h]
theorem vb2_congr {t:TypeId} {ps:Array (Nat×Operand)} {s s':Option St} (h:s=s'):WB2 C ops l dst t ps Q s=WB2 C ops l dst t ps Q s':=by rw[h]
theorem vt_some {t t':TypeId} {x:Operand} {v:TV}:WT C soft ops l dst t t' x st Q (some v)=WO C soft ops l (st.putO dst v) Q:=_root_.id rfl
theorem vt_none {t t':TypeId} {x:Operand}:WT C false ops l dst t t' x st Q none=WT2 C ops l dst t t' x Q (frzAll st [st.eval x]):=_root_.id rfl
theorem vt2_some {t t':TypeId} {x:Operand}:WT2 C ops l dst t t' x Q (some st)=WV C false ops l dst st Q (val C.P st (.convert t t' x)):=_root_.id rfl
theorem vt_congr {t t':TypeId} {x:Operand} {v v':Option TV} (h:v=v'):WT C soft ops l dst t t' x st Q v=WT C soft ops l dst t t' x st Q v':=by rw[h]
theorem vt2_congr {t t':TypeId} {x:Operand} {s s':Option St} (h:s=s'):WT2 C ops l dst t t' x Q s=WT2 C ops l dst t t' x Q s':=by rw[h]
theorem vm_some {f:Go.Fn} {ps fs:Array Operand} {v:TV}:WM C soft ops l dst f fs ps st Q (some v)=WO C soft ops l (st.putO dst v) Q:=_root_.id rfl
theorem vm_none {f:Go.Fn} {ps fs:Array Operand}:WM C false ops l dst f fs ps st Q none=WM2 C ops l dst f fs ps Q (frzAll st (ps.toList.map st.eval)):=_root_.id rfl
theorem vm2_some {f:Go.Fn} {ps fs:Array Operand}:WM2 C ops l dst f fs ps Q (some st)=WV C false ops l dst st Q (val C.P st (.makeFunc f fs ps)):=_root_.id rfl
theorem vm_congr {f:Go.Fn} {ps fs:Array Operand} {v v':Option TV} (h:v=v'):WM C soft ops l dst f fs ps st Q v=WM C soft ops l dst f fs ps st Q v':=by rw[h]
theorem vm2_congr {f:Go.Fn} {ps fs:Array Operand} {s s':Option St} (h:s=s'):WM2 C ops l dst f fs ps Q s=WM2 C ops l dst f fs ps Q s':=by rw[h]
theorem vv_congr {v v':Option TV} (h:v=v'):WV C soft ops l dst st Q v=WV C soft ops l dst st Q v':=by rw[h]
theorem vs_congr {s s':Option St} (h:s=s'):WS C soft ops l Q s=WS C soft ops l Q s':=by rw[h]
theorem wk_congr {k k':Bool} {s s':Option St} (h:k=k') (h':s=s'):WK C soft ops l Q k s=WK C soft ops l Q k' s':=by rw[h,h']
theorem va_congr {args:List Operand} {vs vs':List TV} {g g':TV} {ss ss':Option (List SV)} (hv:vs=vs') (h:g=g') (h':ss=ss') :
  WA C soft ops l dst args st Q vs g ss=WA C soft ops l dst args st Q vs' g' ss':=by rw[hv,h,h']
theorem vz_congr {args:List Operand} {g:FuncId} {caps:List SV} {s s':Option St} (h:s=s'):WZ C ops l dst args Q g caps s=WZ C ops l dst args Q g caps s':=by rw[h]
theorem vy_congr {g:FuncId} {caps:List SV} {ss ss':Option (List SV)} {st':St} (h':st=st') (h:ss=ss'):WY C ops l dst st Q g caps ss=WY C ops l dst st' Q g caps ss':=by rw[h,h']
theorem vi_congr {g:FuncId} {vs vs':List TV} {di di':Bool} {ars as':Option (List Arg)} (h1:vs=vs') (h2:di=di') (h3:ars=as'):WI C ops l dst st Q g vs di ars=WI C ops l dst st Q g vs' di' as':=by rw[h1,h2,h3]
theorem vf_congr {g:FuncId} {ss ss':List SV} (h:ss=ss'):WF C soft ops l dst st Q g ss=WF C soft ops l dst st Q g ss':=by rw[h]
theorem vc_congr {v v':TV} {t e:Code} (h:v=v'):WC C v t e st R=WC C v' t e st R:=by rw[h]
theorem putO_some {v:TV}:st.putO (some d) v=st.put d v:=_root_.id rfl
theorem putO_none {v:TV}:st.putO none v=st:=_root_.id rfl
theorem eval_tmp {t:Nat}:st.eval (.tmp t)=st.tmp t:=_root_.id rfl
theorem eval_const {v:Value}:st.eval (.const v)=cst v:=_root_.id rfl
theorem eval_func {f:FuncId}:st.eval (.func f) = .sv (.fn f []):=_root_.id rfl
theorem tmp_put {t:Nat} {v:TV}:(st.put d v).tmp t=if t=d then v else st.tmp t:=_root_.id rfl
theorem obj_put {v:TV}:(st.put d v).obj=st.obj:=_root_.id rfl
theorem gen_put {v:TV}:(st.put d v).gen=st.gen:=_root_.id rfl
theorem tmp_new {cs:List SV} {v:TV} {t:Nat}:(st.new d cs v).tmp t=if t=d then v else st.tmp t:=_root_.id rfl
theorem obj_new {cs:List SV} {v:TV} {d' g':Nat}:(st.new d cs v).obj d' g'=if d'=d/\g'=st.gen d then some cs else st.obj d' g':=_root_.id rfl
theorem gen_new {cs:List SV} {v:TV} {d':Nat}:(st.new d cs v).gen d'=if d'=d then st.gen d+1 else st.gen d':=_root_.id rfl
theorem tmp_set {g:Nat} {cs:List SV}:(st.set d g cs).tmp=st.tmp:=_root_.id rfl
theorem obj_set {g:Nat} {cs:List SV} {d' g':Nat}:(st.set d g cs).obj d' g'=if d'=d/\g'=g then some cs else st.obj d' g':=_root_.id rfl
theorem tmp_frzd {g:Nat} {cs:List SV} {t:Nat}:(st.frzd d g cs).tmp t=(st.tmp t).frz d g cs:=_root_.id rfl
theorem obj_frzd {g:Nat} {cs:List SV} {d' g':Nat}:(st.frzd d g cs).obj d' g'=if d'=d/\g'=g then none else st.obj d' g':=_root_.id rfl
theorem gen_frzd {g:Nat} {cs:List SV}:(st.frzd d g cs).gen=st.gen:=_root_.id rfl
theorem frz_eq {g:Nat}:st.frz d g=if 1000000<=d then none else match st.obj d g with
  |some cs=>some (st.frzd d g cs)
  |none=>none:=_root_.id rfl
theorem tmp_grow {d' g' size n m:Nat} {cs:List SV} {t:Nat}:(st.grow d d' g' size n m cs).tmp t=if t=d then .ref d' g' size 0 (n+m) else (st.tmp t).kill d' g':=_root_.id rfl
theorem obj_grow {d' g' size n m:Nat} {cs:List SV} {d1 g1:Nat}:(st.grow d d' g' size n m cs).obj d1 g1=if d1=d'/\g1=g' then some cs else st.obj d1 g1:=_root_.id rfl
theorem gen_grow {d' g' size n m:Nat} {cs:List SV}:(st.grow d d' g' size n m cs).gen=st.gen:=_root_.id rfl
theorem gen_set {g:Nat} {cs:List SV}:(st.set d g cs).gen=st.gen:=_root_.id rfl
end
end Go.Ev
namespace Go.Ev
def wth:List Nat->Nat
 | []=>0
 |x::r=>x+4294967296*wth r
def okL (xs:List Nat):Prop := ∀x∈xs,x<4294967296
def limF:Nat->Nat->List Nat
 |0,_=>[]
 |f+1,n=>if n=0 then [] else n%4294967296::limF f (n/4294967296)
def lim (n:Nat):List Nat:=limF (n.log2/32+1) n
def trimL (xs:List Nat):Prop:=xs=[] \/ ∃ys z,xs=ys++[z]/\z≠0
theorem okL_nil:okL []:=fun x h=>by simp at h
theorem okL_cons {x:Nat} {xs:List Nat}:okL (x::xs)↔x<4294967296/\okL xs:=by simp[okL]
theorem okL_append {xs ys:List Nat}:okL (xs++ys)↔okL xs/\okL ys:=by
 simp only[okL,List.mem_append];exact⟨fun h=>⟨fun x hx=>h x (.inl hx),fun x hx=>h x (.inr hx)⟩,fun h x hx=>hx.elim (h.1 x) (h.2 x)⟩
theorem okL_take {xs:List Nat} (h:okL xs) (n:Nat):okL (xs.take n):=fun x hx=>h x (List.mem_of_mem_take hx)
theorem okL_drop {xs:List Nat} (h:okL xs) (n:Nat):okL (xs.drop n):=fun x hx=>h x (List.mem_of_mem_drop hx)
theorem okL_get {xs:List Nat} (h:okL xs) {i:Nat} (hi:i<xs.length):xs[i]<4294967296:=h _ (List.getElem_mem hi)
theorem okL_replicate (n:Nat):okL (List.replicate n 0):=fun x hx=>by rw[List.eq_of_mem_replicate hx];omega
theorem okL_set {xs:List Nat} (h:okL xs) (i x:Nat) (hx:x<4294967296:=by omega):okL (xs.set i x):=fun y hy=>by
 rcases List.mem_or_eq_of_mem_set hy with h1|h1
 ·exact h y h1
 ·omega
theorem wth_nil:wth []=0:=rfl
theorem wth_cons (x:Nat) (xs:List Nat):wth (x::xs)=x+4294967296*wth xs:=rfl
theorem wth_append (xs ys:List Nat):wth (xs++ys)=wth xs+4294967296^xs.length*wth ys:=by
 induction xs with
 |nil=>simp[wth]
 |cons x xs ih=>
  simp only[List.cons_append,wth_cons,ih,yS,xU];rw[xY,zR,xV (4294967296^xs.length) 4294967296,xP]
theorem wth_lt {xs:List Nat} (h:okL xs):wth xs<4294967296^xs.length:=by
 induction xs with
 |nil=>simp[wth]
 |cons x xs ih=>
  obtain⟨h1,h2⟩:=okL_cons.1 h;have:=ih h2;simp only[wth_cons,yS,xU];omega
theorem wth_replicate (n:Nat):wth (List.replicate n 0)=0:=by
 induction n with
 |zero=>rfl
 |succ n ih=>simp[List.replicate_succ,wth_cons,ih]
theorem wth_snoc0 (xs:List Nat):wth (xs++[0])=wth xs:=by simp[wth_append,wth]
theorem wth_inj : ∀ {xs ys:List Nat},okL xs->okL ys->xs.length=ys.length->wth xs=wth ys->xs=ys:=by
 intro xs;induction xs with
 |nil=>intro ys _ _ h _;cases ys with
  |nil=>rfl
  |cons y ys=>simp at h
 |cons x xs ih=>
  intro ys hx hy h e;cases ys with
  |nil=>simp at h
  |cons y ys=>
   obtain⟨h1,h2⟩:=okL_cons.1 hx;obtain⟨h3,h4⟩:=okL_cons.1 hy;simp only[wth_cons]at e;have e1:x=y:=by omega
   have e2:wth xs=wth ys:=by omega
   rw[e1,ih h2 h4 (by simpa using h) e2]
theorem trimL_nil:trimL [] := .inl rfl
theorem trimL_pos : ∀ {xs:List Nat},trimL xs->xs≠[]->4294967296^(xs.length-1)<=wth xs:=by
 intro xs h hne;rcases h with h|⟨ys,z,rfl,hz⟩
 ·exact(hne h).elim
 ·rw[wth_append];simp only[yG,yS,List.length_nil,yV,wF,wth,yX,yE];have:4294967296^ys.length*1<=4294967296^ys.length*z:=xI _ (by omega);omega
theorem limF_spec : ∀ (f n:Nat),n<4294967296^f->wth (limF f n)=n/\okL (limF f n)/\trimL (limF f n):=by
 intro f;induction f with
 |zero=>intro n h;simp at h;subst h;exact⟨rfl,okL_nil,trimL_nil⟩
 |succ f ih=>
  intro n h;unfold limF;split
  ·rename_i h0;subst h0;exact⟨rfl,okL_nil,trimL_nil⟩
  ·have hlt:n/4294967296<4294967296^f:=by
    rw[yC (by omega)];rw[xU]at h;exact h
   obtain⟨h1,h2,h3⟩:=ih _ hlt;refine⟨?_,okL_cons.2 ⟨yI _ (by omega),h2⟩,?_⟩
   ·rw[wth_cons,h1];omega
   ·rcases h3 with h3|⟨ys,z,e,hz⟩
    ·rw[h3]at h1 ⊢;simp only[wth]at h1;exact .inr ⟨[],_,rfl,by omega⟩
    ·rw[e];exact .inr ⟨_::ys,z,rfl,hz⟩
theorem lim_fuel (n:Nat):n<4294967296^(n.log2/32+1):=by
 rcases xo n with rfl|h
 ·exact xK (by omega)
 ·have h1:n<2^(n.log2+1):=Nat.lt_log2_self;have h2:2^(n.log2+1)<=2^(32*(n.log2/32+1)):=xD (by omega) (by omega);rw[zF]at h2;exact xz h1 h2
theorem wth_lim (n:Nat):wth (lim n)=n:=(limF_spec _ n (lim_fuel n)).1
theorem okL_lim (n:Nat):okL (lim n):=(limF_spec _ n (lim_fuel n)).2.1
theorem trimL_lim (n:Nat):trimL (lim n):=(limF_spec _ n (lim_fuel n)).2.2
theorem lim_zero:lim 0=[]:=by simp[lim,limF]
theorem trimL_length {xs ys:List Nat} (hx:okL xs) (hy:okL ys) (tx:trimL xs) (h:wth xs<=wth ys:=by omega):xs.length<=ys.length:=by
 rcases xi ys.length xs.length with hlt|hge
 ·have h1:=trimL_pos tx (by intro e;subst e;simp at hlt);have h2:=wth_lt hy;have h3:4294967296^ys.length<=4294967296^(xs.length-1):=xD (by omega) (by omega);omega
 ·exact hge
theorem lim_unique {xs:List Nat} (h:okL xs) (ht:trimL xs):xs=lim (wth xs):=by
 have e:=wth_lim (wth xs);refine wth_inj h (okL_lim _) ?_ e.symm;exact Nat.le_antisymm (trimL_length h (okL_lim _) ht) (trimL_length (okL_lim _) h (trimL_lim _))
theorem lim_inj {m n:Nat} (h:lim m=lim n):m=n:=by rw[<- wth_lim m,<- wth_lim n,h]
theorem lim_eq_nil {n:Nat}:lim n=[]↔n=0:=⟨fun h=>by rw[<- wth_lim n,h];rfl,fun h=>by rw[h,lim_zero]⟩
theorem lim_length_le {xs:List Nat} (h:okL xs):(lim (wth xs)).length<=xs.length:=by
 rcases xi xs.length (lim (wth xs)).length with hlt|hge
 ·have h1:=trimL_pos (trimL_lim (wth xs)) (by intro e;rw[e]at hlt;simp at hlt);rw[wth_lim]at h1;have h2:=wth_lt h;have h3:4294967296^xs.length<=4294967296^((lim (wth xs)).length-1):=xD (by omega) (by omega);omega
 ·exact hge
theorem lim_snoc0 (xs:List Nat):lim (wth (xs++[0]))=lim (wth xs):=by rw[wth_snoc0]
abbrev limb (x:Nat):SV := .int .u32 (x:Int)
abbrev natV (xs:List Nat):SV := .sl xs.length (xs.map limb)
theorem limb_at {xs:List Nat} {i:Nat} (h:i<xs.length):((xs.drop i).map limb).head?=some (limb (xs.getD i 0)):=by
 rw[List.head?_map,List.head?_drop,xX h,xW,xX h];rfl
theorem natV_take (xs:List Nat) (n:Nat):(xs.map limb).take n=(xs.take n).map limb:=(List.map_take ..).symm
theorem natV_drop (xs:List Nat) (n:Nat):(xs.map limb).drop n=(xs.drop n).map limb:=(List.map_drop ..).symm
theorem natV_len (xs:List Nat):(xs.map limb).length=xs.length:=zZ ..
theorem natV_one (xs:List Nat):(xs.map limb).all SV.one=true:=by
 rw[List.all_map,zJ];intro x _;rfl
def isT (xs:List Nat):Bool:=xs.length==0||xs.getD (xs.length-1) 0 != 0
theorem isT_iff {xs:List Nat}:isT xs=true↔trimL xs:=by
 rcases xs.eq_nil_or_concat with rfl|⟨ys,z,rfl⟩
 ·exact⟨fun _ => .inl rfl,fun _=>rfl⟩
 ·rw[List.concat_eq_append];have e:(ys++[z]).getD ((ys++[z]).length-1) 0=z:=by simp
  unfold isT;rw[e];constructor
  ·intro h;exact .inr ⟨ys,z,rfl,by simpa using h⟩
  ·rintro(h|⟨ys',z',e,hz⟩)
   ·simp at h
   ·obtain⟨_,e2⟩:=List.append_inj' e rfl;simp at e2;subst e2;simpa using hz
theorem natV_cut {xs:List Nat} {n:Nat} (h:n<=xs.length:=by omega):SV.sl n ((xs.take n).map limb)=natV (xs.take n):=by
 simp only[natV,yO,yx h]
theorem getD_lt {xs:List Nat} (h:okL xs) (i:Nat):xs.getD i 0<4294967296:=by
 rw[xW];rcases xi i xs.length with hi|hi
 ·rw[xX hi];exact okL_get h hi
 ·rw[xl hi];simp
theorem wth_take_succ (xs:List Nat) (i:Nat):wth (xs.take (i+1))=wth (xs.take i)+4294967296^i*xs.getD i 0:=by
 rw[xW];rcases xi i xs.length with hi|hi
 ·rw[List.take_add_one,wth_append,xX hi,yO,yx (by omega)];simp[wth]
 ·rw[xl hi,xq (by omega),xq hi];simp
theorem wth_set_take {xs:List Nat} {i:Nat} (hi:i<xs.length) (v:Nat):wth ((xs.set i v).take (i+1))=wth (xs.take i)+4294967296^i*v:=by
 rw[wth_take_succ,List.take_set_of_le (xQ i)];simp[xW,hi]
theorem row_set {xs:List Nat} {i:Nat} (v:Nat) (hi:i<xs.length):(xs.take i).map limb++[SV.int .u32 (v:Int)]++(xs.drop (i+1)).map limb=(xs.set i v).map limb:=by
 rw[List.set_eq_take_append_cons_drop,if_pos hi,List.map_append,wL,List.append_assoc];rfl
theorem take_all {xs:List Nat} {n:Nat} (h:xs.length<=n):xs.take n=xs:=xq h
theorem natV_eq {xs:List Nat} {n:Nat} (h:xs.length=n):SV.sl n (xs.map limb)=natV xs:=by rw[<- h]
theorem fn_natV {C:Cx} {f:FuncId} {xs:List Nat} {n:Nat} {r:SV} (hf:Go.Ev.Fn C f [natV xs] r) (h:xs.length=n):Go.Ev.Fn C f [SV.sl n (xs.map limb)] r:=by rw[natV_eq h];exact hf
theorem row_new (n:Nat):(List.replicate n [SV.int .u32 0]).flatten=(List.replicate n 0).map limb:=by
 induction n with
 |zero=>rfl
 |succ n ih=>rw[List.replicate_succ,List.replicate_succ,List.flatten_cons,ih];rfl
def limN:Nat->Nat->List Nat
 |0,_=>[]
 |n+1,x=>x%4294967296::limN n (x/4294967296)
theorem limN_length (n:Nat) : ∀x,(limN n x).length=n:=by
 induction n with
 |zero=>intro x;rfl
 |succ n ih=>intro x;simp[limN,ih]
theorem okL_limN (n:Nat) : ∀x,okL (limN n x):=by
 induction n with
 |zero=>intro x;exact okL_nil
 |succ n ih=>intro x;exact okL_cons.2 ⟨yI _ (by omega),ih _⟩
theorem wth_limN (n:Nat) : ∀x,wth (limN n x)=x%4294967296^n:=by
 induction n with
 |zero=>intro x;simp[limN,wth,Nat.mod_one]
 |succ n ih=>
  intro x;rw[limN,wth_cons,ih,xU,xV (4294967296^n),Nat.mod_mul]
theorem limN_unique {xs:List Nat} (h:okL xs) {n x:Nat} (hn:xs.length=n) (hw:wth xs=x%4294967296^n):xs=limN n x:=
 wth_inj h (okL_limN _ _) (by rw[limN_length];exact hn) (by rw[wth_limN];exact hw)
def decL:List SV->Option (List Nat)
 | []=>some []
 | .int .u32 (.ofNat x)::r=>if x<4294967296 then (match decL r with|some l=>some (x::l)|none=>none) else none
 |_=>none
def decV:SV->Option (List Nat)
 | .sl n cs=>match decL cs with
  |some xs=>if xs.length=n/\n<=137438953472 then some xs else none
  |none=>none
 |_=>none
theorem decL_some : ∀ {cs:List SV} {xs:List Nat},decL cs=some xs->cs=xs.map limb/\okL xs:=by
 intro cs;induction cs with
 |nil=>intro xs h;cases h;exact⟨rfl,okL_nil⟩
 |cons c r ih=>
  intro xs h;unfold decL at h;split at h
  ·cases ‹_::_=[]›
  ·rename_i x r' e;cases e;split at h
   ·rename_i hx;split at h
    ·rename_i l hl;cases h;obtain⟨h1,h2⟩:=ih hl;exact⟨by rw[wL,<- h1];rfl,okL_cons.2 ⟨hx,h2⟩⟩
    ·cases h
   ·cases h
  ·cases h
theorem decL_map : ∀ {xs:List Nat},okL xs->decL (xs.map limb)=some xs:=by
 intro xs;induction xs with
 |nil=>intro _;rfl
 |cons x xs ih=>
  intro h;obtain⟨h1,h2⟩:=okL_cons.1 h;show decL (.int .u32 (.ofNat x)::xs.map limb)=_;unfold decL;rw[if_pos h1,ih h2]
theorem decV_some {s:SV} {xs:List Nat} (h:decV s=some xs):s=natV xs/\okL xs/\xs.length<=137438953472:=by
 unfold decV at h;split at h
 ·rename_i n cs;split at h
  ·rename_i l hl;split at h
   ·rename_i hc;cases h;obtain⟨h1,h2⟩:=decL_some hl;obtain⟨rfl,h4⟩:=hc;exact⟨by rw[h1],h2,h4⟩
   ·cases h
  ·cases h
 ·cases h
theorem decV_nat {xs:List Nat} (h:okL xs) (hl:xs.length<=137438953472):decV (natV xs)=some xs:=by
 unfold decV;simp only[decL_map h];rw[if_pos ⟨trivial,hl⟩]
theorem wI64 {n:Int} (h : -9223372036854775808<=n/\n<9223372036854775808:=by omega):IntKind.i64.wrap n=n:=by rw[IntKind.wrap_i64];omega
theorem wU64 {n:Int} (h:0<=n/\n<18446744073709551616):IntKind.u64.wrap n=n:=by rw[IntKind.wrap_u64];omega
theorem wU32 {n:Int} (h:0<=n/\n<4294967296):IntKind.u32.wrap n=n:=by rw[IntKind.wrap_u32];omega
theorem wU8 {n:Int} (h:0<=n/\n<256):IntKind.u8.wrap n=n:=by rw[IntKind.wrap_u8];omega
theorem decT {p:Prop} [Decidable p] (h:p):decide p=true:=decide_eq_true h
theorem decF {p:Prop} [Decidable p] (h : ¬p):decide p=false:=decide_eq_false h
theorem beqT {a b:Int} (h:a=b:=by omega):(a==b)=true:=by simpa using h
theorem beqF {a b:Int} (h:a≠b:=by omega):(a==b)=false:=by simpa using h
theorem bneT {a b:Int} (h:a≠b):(a != b)=true:=by simpa using h
theorem bneF {a b:Int} (h:a=b):(a != b)=false:=by simpa using h
theorem ifT {p:Prop} [Decidable p] {α:Type} {a b:α} (h:p):ite p a b=a:=if_pos h
theorem ifF {p:Prop} [Decidable p] {α:Type} {a b:α} (h : ¬p):ite p a b=b:=if_neg h
theorem toNat_sub (a b:Nat):((a:Int)-(b:Int)).toNat=a-b:=by omega
theorem toNat_sub1 (a:Nat):((a:Int)-1).toNat=a-1:=by omega
theorem toNat_add (a b:Nat):((a:Int)+(b:Int)).toNat=a+b:=by omega
theorem toNat_add1 (a:Nat):((a:Int)+1).toNat=a+1:=by omega
theorem u32_nat (n:Nat):IntKind.u32.wrap (n:Int)=((n%4294967296:Nat):Int):=by rw[IntKind.wrap_u32];omega
theorem u64_nat (n:Nat):IntKind.u64.wrap (n:Int)=((n%18446744073709551616:Nat):Int):=by rw[IntKind.wrap_u64];omega
theorem fdiv_nat (n m:Nat):((n:Int)).fdiv (m:Int)=((n/m:Nat):Int):=by
 rw[Int.fdiv_eq_ediv_of_nonneg _ (by omega)];simp
theorem min_lit {a b:Nat} (h:a<=b):min a b=a:=yx h
theorem nadd (a b:Nat):(a:Int)+(b:Int)=((a+b:Nat):Int):=rfl
theorem nadd1 (a:Nat):(a:Int)+1=((a+1:Nat):Int):=rfl
theorem nmul (a b:Nat):(a:Int)*(b:Int)=((a*b:Nat):Int):=rfl
theorem nsub {a b:Nat} (h:b<=a):(a:Int)-(b:Int)=((a-b:Nat):Int):=by omega
theorem nsub1 {a:Nat} (h:1<=a):(a:Int)-1=((a-1:Nat):Int):=by omega
theorem ntwo (k:Nat):(2:Int)^k=((2^k:Nat):Int):=by simp
theorem ofInt_nat (w n:Nat):BitVec.ofInt w (n:Int)=BitVec.ofNat w n:=by simp
theorem or_u64 {a b:Nat} (ha:a<18446744073709551616) (hb:b<18446744073709551616) :
  IntKind.u64.wrap ((BitVec.ofInt IntKind.u64.bits (a:Int) |||BitVec.ofInt IntKind.u64.bits (b:Int)).toNat:Int)=((a |||b:Nat):Int):=by
 have h:a |||b<2^64:=Nat.or_lt_two_pow ha hb
 show IntKind.u64.wrap ((BitVec.ofInt 64 (a:Int) |||BitVec.ofInt 64 (b:Int)).toNat:Int)=_;rw[ofInt_nat,ofInt_nat,BitVec.toNat_or,BitVec.toNat_ofNat,BitVec.toNat_ofNat,yB ha,yB hb,u64_nat,yB h]
theorem and_u64 {a b:Nat} (ha:a<18446744073709551616) (hb:b<18446744073709551616) :
  IntKind.u64.wrap ((BitVec.ofInt IntKind.u64.bits (a:Int) &&& BitVec.ofInt IntKind.u64.bits (b:Int)).toNat:Int)=((a &&& b:Nat):Int):=by
 have h:a &&& b<2^64:=yM Nat.and_le_left ha;show IntKind.u64.wrap ((BitVec.ofInt 64 (a:Int) &&& BitVec.ofInt 64 (b:Int)).toNat:Int)=_;rw[ofInt_nat,ofInt_nat,BitVec.toNat_and,BitVec.toNat_ofNat,BitVec.toNat_ofNat,yB ha,yB hb,u64_nat,yB h]
theorem or_u32 {a b:Nat} (ha:a<4294967296) (hb:b<4294967296) :
  IntKind.u32.wrap ((BitVec.ofInt IntKind.u32.bits (a:Int) |||BitVec.ofInt IntKind.u32.bits (b:Int)).toNat:Int)=((a |||b:Nat):Int):=by
 have h:a |||b<2^32:=Nat.or_lt_two_pow ha hb
 show IntKind.u32.wrap ((BitVec.ofInt 32 (a:Int) |||BitVec.ofInt 32 (b:Int)).toNat:Int)=_;rw[ofInt_nat,ofInt_nat,BitVec.toNat_or,BitVec.toNat_ofNat,BitVec.toNat_ofNat,yB ha,yB hb,u32_nat,yB h]
theorem xor_u32 {a b:Nat} (ha:a<4294967296) (hb:b<4294967296) :
  IntKind.u32.wrap ((BitVec.ofInt IntKind.u32.bits (a:Int) ^^^ BitVec.ofInt IntKind.u32.bits (b:Int)).toNat:Int)=((a ^^^ b:Nat):Int):=by
 have h:a ^^^ b<2^32:=Nat.xor_lt_two_pow ha hb;show IntKind.u32.wrap ((BitVec.ofInt 32 (a:Int) ^^^ BitVec.ofInt 32 (b:Int)).toNat:Int)=_;rw[ofInt_nat,ofInt_nat,BitVec.toNat_xor,BitVec.toNat_ofNat,BitVec.toNat_ofNat,yB ha,yB hb,u32_nat,yB h]
theorem u32_sub (a b:Nat) (hb:b<=4294967296):IntKind.u32.wrap ((a:Int)-(b:Int))=(((a+(4294967296-b))%4294967296:Nat):Int):=by
 rw[IntKind.wrap_u32];omega
theorem high_bit {z:Nat} (h:z<4294967296):z/2147483648=(z.testBit 31).toNat:=by
 rw[Nat.testBit_eq_decide_div_mod_eq];have:z/2^31%2=z/2147483648:=by omega
 rw[this];by_cases h1:z/2147483648=1
 ·simp[h1]
 ·have:z/2147483648=0:=by omega
  simp[this]
theorem high_iff {z:Nat} (h:z<4294967296):z.testBit 31=decide (2147483648<=z):=by
 rw[Nat.testBit_eq_decide_div_mod_eq];congr 1;apply propext;have:z/2^31%2=z/2147483648:=by omega
 rw[this];omega
theorem sub32_bit {x y b d:Nat} (hx:x<4294967296) (hy:y<4294967296) (hb:b<=1) (hd:d=((x+(4294967296-y))%4294967296+(4294967296-b))%4294967296) :
  ((4294967295 ^^^ x) &&& y |||(4294967295 ^^^ (x ^^^ y)) &&& d)/2147483648=if x<y+b then 1 else 0:=by
 have hd':d<4294967296:=by omega
 have hx':4294967295 ^^^ x<2^32:=Nat.xor_lt_two_pow (by omega) hx;have h1:(4294967295 ^^^ x) &&& y<2^32:=yM Nat.and_le_right hy;have h2:(4294967295 ^^^ (x ^^^ y)) &&& d<2^32:=yM Nat.and_le_right hd';rw[high_bit (Nat.or_lt_two_pow h1 h2)];rw[Nat.testBit_or,Nat.testBit_and,Nat.testBit_and,Nat.testBit_xor,Nat.testBit_xor,Nat.testBit_xor,high_iff hx,high_iff hy,high_iff hd'];rw[show Nat.testBit 4294967295 31=true by decide];by_cases a1:2147483648<=x<;>by_cases a2:2147483648<=y<;>by_cases a3:2147483648<=d<;>by_cases a4:x<y+b<;>simp[a1,a2,a3,a4]<;>omega
theorem u32_ones:(if IntKind.u32.signed=true then (-1:Int) else IntKind.u32.max)=((4294967295:Nat):Int):=rfl
theorem and_u32 {a b:Nat} (ha:a<4294967296) (hb:b<4294967296) :
  IntKind.u32.wrap ((BitVec.ofInt IntKind.u32.bits (a:Int) &&& BitVec.ofInt IntKind.u32.bits (b:Int)).toNat:Int)=((a &&& b:Nat):Int):=by
 have h:a &&& b<2^32:=yM Nat.and_le_left ha;show IntKind.u32.wrap ((BitVec.ofInt 32 (a:Int) &&& BitVec.ofInt 32 (b:Int)).toNat:Int)=_;rw[ofInt_nat,ofInt_nat,BitVec.toNat_and,BitVec.toNat_ofNat,BitVec.toNat_ofNat,yB ha,yB hb,u32_nat,yB h]
theorem b_or64 {a b:Nat} (ha:a<18446744073709551616:=by omega) (hb:b<18446744073709551616:=by omega):bitsSV .or .u64 (a:Int) (b:Int)=some (.int .u64 ((a |||b:Nat):Int)):=by
 show some (SV.int _ _)=_;rw[or_u64 ha hb]
theorem b_and64 {a b:Nat} (ha:a<18446744073709551616) (hb:b<18446744073709551616):bitsSV .and .u64 (a:Int) (b:Int)=some (.int .u64 ((a &&& b:Nat):Int)):=by
 show some (SV.int _ _)=_;rw[and_u64 ha hb]
theorem b_or32 {a b:Nat} (ha:a<4294967296) (hb:b<4294967296):bitsSV .or .u32 (a:Int) (b:Int)=some (.int .u32 ((a |||b:Nat):Int)):=by
 show some (SV.int _ _)=_;rw[or_u32 ha hb]
theorem b_and32 {a b:Nat} (ha:a<4294967296) (hb:b<4294967296:=by omega):bitsSV .and .u32 (a:Int) (b:Int)=some (.int .u32 ((a &&& b:Nat):Int)):=by
 show some (SV.int _ _)=_;rw[and_u32 ha hb]
theorem b_xor32 {a b:Nat} (ha:a<4294967296) (hb:b<4294967296):bitsSV .xor .u32 (a:Int) (b:Int)=some (.int .u32 ((a ^^^ b:Nat):Int)):=by
 show some (SV.int _ _)=_;rw[xor_u32 ha hb]
theorem b_not32 {a:Nat} (ha:a<4294967296):bitsSV .xor .u32 (if IntKind.u32.signed=true then -1 else IntKind.u32.max) (a:Int)=some (.int .u32 ((4294967295 ^^^ a:Nat):Int)):=by
 rw[u32_ones];exact b_xor32 (by decide) ha
theorem or_add (a b:Nat) (hb:b<4294967296):a*4294967296 |||b=a*4294967296+b:=by
 have:=Nat.two_pow_add_eq_or_of_lt (i:=32) hb a;rw[xV (2^32) a]at this;exact this.symm
theorem b_join {a b:Nat} (ha:a*4294967296<18446744073709551616) (hb:b<4294967296):bitsSV .or .u64 ((a*4294967296:Nat):Int) (b:Int)=some (.int .u64 ((a*4294967296+b:Nat):Int)):=by
 rw[b_or64 ha,or_add a b hb]
theorem tdiv_nat (a b:Nat):(a:Int).tdiv (b:Int)=((a/b:Nat):Int):=rfl
theorem tmod_nat (a b:Nat):(a:Int).tmod (b:Int)=((a%b:Nat):Int):=rfl
theorem bne_nat (x:Nat):(((x:Int) != 0))=(x != 0):=by
 cases x<;>rfl
set_option linter.defProp false
def AR:=And.intro @wI64 (And.intro @u32_nat (And.intro @u64_nat (And.intro @wU64 (And.intro @wU32 (And.intro @wU8 (And.intro @fdiv_nat (And.intro @nadd (And.intro @nadd1 (And.intro @nmul (And.intro @nsub (And.intro @nsub1 (And.intro @ntwo (And.intro @min_lit (And.intro @b_and64 (And.intro @b_or32 (And.intro @b_and32 (And.intro @b_xor32 (And.intro @b_not32 (And.intro @b_join (And.intro @tdiv_nat (And.intro @tmod_nat (And.intro @decT (And.intro @decF (And.intro @beqT (And.intro @beqF (And.intro @bneT (And.intro @bneF (And.intro @toNat_sub (And.intro @toNat_sub1 (And.intro @toNat_add (And.intro @toNat_add1 (And.intro @Int.toNat_natCast (And.intro @limb_at (And.intro @natV_len (And.intro @natV_take (And.intro @natV_drop (And.intro @natV_one (And.intro @row_new (And.intro @row_set (And.intro @Nat.zero_add (And.intro @Nat.add_zero (And.intro @Nat.sub_zero (@Nat.mul_one)))))))))))))))))))))))))))))))))))))))))))
theorem AL : ∀ {α:Type},(∀ (l:List α) (i:Nat) (a:α),(l.set i a).length=l.length)/\(∀ (i:Nat) (l:List α),(l.take i).length=min i l.length)/\(∀ (i:Nat) (l:List α),(l.drop i).length=l.length-i)/\(∀ (n:Nat) (a:α),(List.replicate n a).length=n)/\(∀ (a b:List α),(a++b).length=a.length+b.length):=
 ⟨fun _ _ _=>yN ..,fun _ _=>yO ..,fun _ _=>wU ..,fun _ _=>yR ..,fun _ _=>yG ..⟩
end Go.Ev
namespace Go.Ev
abbrev ratV (s:Bool) (n d:List Nat):SV := .agg [.bool s,natV n,natV d]
abbrev rv (q:Rat):SV:=ratV (decide (q.num<0)) (lim q.num.natAbs) (lim q.den)
def sgn (s:Bool) (n:Nat):Int:=if s then -(n:Int) else (n:Int)
def RatA (v:SV) (q:Rat) (L:Nat):Prop := ∃s n d,v=ratV s n d/\okL n/\okL d/\n.length<=L/\d.length<=L/\q=mkRat (sgn s (wth n)) (wth d)
def szR (q:Rat) (L:Nat):Prop:=(lim q.num.natAbs).length<=L/\(lim q.den).length<=L
theorem sgn_abs (s:Bool) (n:Nat):(sgn s n).natAbs=n:=by unfold sgn;split<;>omega
theorem sgn_neg (s:Bool) {n:Nat} (h:n≠0):decide (sgn s n<0)=s:=by
 unfold sgn;cases s
 ·simp
 ·simp;omega
theorem sgn_self (z:Int):sgn (decide (z<0)) z.natAbs=z:=by
 unfold sgn;by_cases h:z<0
 ·rw[decide_eq_true h];simp;omega
 ·rw[decide_eq_false h];simp;omega
theorem sgn_zero (s:Bool):sgn s 0=0:=by cases s<;>rfl
theorem sgn_mul (a b:Int):sgn (decide (a<0) != decide (b<0)) (a.natAbs*b.natAbs)=a*b:=by
 rcases Int.lt_or_le a 0 with ha|ha<;>rcases Int.lt_or_le b 0 with hb|hb
 ·obtain⟨m,rfl⟩ : ∃m:Nat,a = -(m:Int):=⟨a.natAbs,by omega⟩
  obtain⟨n,rfl⟩ : ∃n:Nat,b = -(n:Int):=⟨b.natAbs,by omega⟩
  rw[decide_eq_true ha,decide_eq_true hb];simp[sgn,wX,wY]
 ·obtain⟨m,rfl⟩ : ∃m:Nat,a = -(m:Int):=⟨a.natAbs,by omega⟩
  obtain⟨n,rfl⟩ : ∃n:Nat,b=(n:Int):=⟨b.natAbs,by omega⟩
  rw[decide_eq_true ha,decide_eq_false (by omega)];simp[sgn,wX,wY]
 ·obtain⟨m,rfl⟩ : ∃m:Nat,a=(m:Int):=⟨a.natAbs,by omega⟩
  obtain⟨n,rfl⟩ : ∃n:Nat,b = -(n:Int):=⟨b.natAbs,by omega⟩
  rw[decide_eq_false (by omega),decide_eq_true hb];simp[sgn,wX,wY]
 ·obtain⟨m,rfl⟩ : ∃m:Nat,a=(m:Int):=⟨a.natAbs,by omega⟩
  obtain⟨n,rfl⟩ : ∃n:Nat,b=(n:Int):=⟨b.natAbs,by omega⟩
  rw[decide_eq_false (by omega),decide_eq_false (by omega)];simp[sgn,wX,wY]
theorem mk_zero (s:Bool) {n d:Nat} (h:n=0\/d=0):mkRat (sgn s n) d=0:=by
 rcases h with rfl|rfl
 ·rw[sgn_zero,Rat.zero_mkRat]
 ·rw[Rat.mkRat_zero]
theorem lim_one:lim 1=[1]:=by
 have:=lim_unique (xs:=[1]) (by simp[okL]) (.inr ⟨[],1,rfl,by decide⟩);exact this.symm
theorem rv_zero:rv 0=ratV false [] [1]:=by
 show ratV (decide ((0:Int)<0)) (lim (0:Int).natAbs) (lim 1)=_;rw[lim_one,show (0:Int).natAbs=0 by rfl,lim_zero];rfl
theorem mk_parts (s:Bool) {n d:Nat} (hn:n≠0) (hd:d≠0):rv (mkRat (sgn s n) d)=ratV s (lim (n/Nat.gcd n d)) (lim (d/Nat.gcd n d)):=by
 have h1:mkRat (sgn s n) d={ num:=sgn s n/((sgn s n).natAbs.gcd d:Nat),den:=d/(sgn s n).natAbs.gcd d,den_nz:=Nat.ne_of_gt (Nat.div_pos (Nat.gcd_le_right _ (by omega)) (Nat.gcd_pos_of_pos_right _ (by omega))),reduced:=Rat.normalize.reduced (num:=sgn s n) hd rfl }:=by
  rw[Rat.mkRat_def,dif_neg hd,Rat.normalize_eq]
 have h2:(mkRat (sgn s n) d).num=sgn s n/((sgn s n).natAbs.gcd d:Nat):=by rw[h1]
 have h3:(mkRat (sgn s n) d).den=d/(sgn s n).natAbs.gcd d:=by rw[h1]
 rw[rv,h2,h3,sgn_abs];have hg:0<n.gcd d:=Nat.gcd_pos_of_pos_left _ (by omega);obtain⟨k,hk⟩:=Nat.gcd_dvd_left n d;have hk0:k≠0:=by rintro rfl;omega
 have h4 : ∀g:Nat,0<g->n=g*k->sgn s n/(g:Int)=sgn s k:=by
  intro g hg hn;rw[hn];unfold sgn;split
  ·rw[yF,<- wY,Int.mul_ediv_cancel_left _ (by omega)]
  ·rw[yF,Int.mul_ediv_cancel_left _ (by omega)]
 have h5:n/n.gcd d=k:=Nat.div_eq_of_eq_mul_right hg hk;rw[h4 _ hg hk,sgn_abs,sgn_neg _ hk0,h5]
theorem RatA_rv {q:Rat} {L:Nat} (h:szR q L):RatA (rv q) q L:=
 ⟨_,_,_,rfl,okL_lim _,okL_lim _,h.1,h.2,by rw[wth_lim,wth_lim,sgn_self,wB]⟩
theorem szR_mono {q:Rat} {L M:Nat} (h:szR q L) (hl:L<=M:=by omega):szR q M:=⟨xH h.1 hl,xH h.2 hl⟩
theorem lim_len_mono {a b:Nat} (h:a<=b):(lim a).length<=(lim b).length:=trimL_length (okL_lim _) (okL_lim _) (trimL_lim _) (by rw[wth_lim,wth_lim];exact h)
theorem lim_len_lt {a L:Nat} (h:a<4294967296^L:=by omega):(lim a).length<=L:=by
 have h1:=trimL_length (xs:=lim a) (ys:=limN L a) (okL_lim _) (okL_limN _ _) (trimL_lim _) (by rw[wth_lim,wth_limN,yB h];exact xQ _);rw[limN_length]at h1;exact h1
theorem lim_len_pow {a:Nat}:a<4294967296^(lim a).length:=by
 have:=wth_lt (okL_lim a);rw[wth_lim]at this;exact this
theorem lim_len_mul {a b:Nat}:(lim (a*b)).length<=(lim a).length+(lim b).length:=by
 refine lim_len_lt ?_;rw[xM];exact yM (xI _ (zf lim_len_pow)) (yq lim_len_pow (xK (by decide)))
theorem lim_len_add {a b L:Nat} (ha:(lim a).length<=L:=by omega) (hb:(lim b).length<=L:=by omega):(lim (a+b)).length<=L+1:=by
 refine lim_len_lt ?_;have h1:=xz (lim_len_pow (a:=a)) (xD (n:=4294967296) (by omega) ha);have h2:=xz (lim_len_pow (a:=b)) (xD (n:=4294967296) (by omega) hb);rw[xU];omega
theorem lim_len_one {a:Nat} (h:a<4294967296:=by omega):(lim a).length<=1:=lim_len_lt
theorem szR_mk {s:Bool} {n d L:Nat} (hn:(lim n).length<=L:=by omega) (hd:(lim d).length<=L:=by omega) (hL:1<=L:=by omega):szR (mkRat (sgn s n) d) L:=by
 by_cases h:n=0\/d=0
 ·rw[mk_zero s h];exact⟨by rw[show (0:Rat).num.natAbs=0 by rfl,lim_zero];simp,by rw[show (0:Rat).den=1 by rfl,lim_one];exact hL⟩
 ·have h1:=mk_parts s (fun e=>h (.inl e)) (fun e=>h (.inr e));simp only[rv,ratV,SV.agg.injEq,List.cons.injEq,natV,SV.sl.injEq,and_true]at h1;obtain⟨_,⟨h2,_⟩,h3,_⟩:=h1;refine⟨?_,?_⟩
  ·rw[h2];exact xH (lim_len_mono (xv _ _)) hn
  ·rw[h3];exact xH (lim_len_mono (xv _ _)) hd
theorem szR_of {v:SV} {q:Rat} {L:Nat} (h:RatA v q L) (hL:1<=L:=by omega):szR q L:=by
 obtain⟨s,n,d,rfl,h2,h3,h4,h5,rfl⟩:=h;exact szR_mk (xH (lim_length_le h2) h4) (xH (lim_length_le h3) h5) hL
end Go.Ev
namespace Go.Ev
section
variable {C:Cx} {soft:Bool} {ops:Array Oper} {l:List Oper} {st:St} {Q:St->Prop} {R:Ex->St->Prop} {d:Nat} {dst:Option Nat}
def RQ (P:Program) (rs:List ResultVar) (r:SV) (e:Ex) (st:St):Prop:=match e with
 | .exit _=>False
 | .goto _=>False
 |_=>retOf P st rs=some (.sv r)
def RO (st:St) (r:SV) (v:TV):Prop:=outSV st v=some r
def RC (sh:Option (Bool×Nat)) (r:SV) (cs:Option (List SV)):Prop:=match sh,cs with
 |some sh,some cs=>loadC sh cs=some r
 |_,_=>False
def RV (P:Program) (st:St) (r:SV):ResultVar->Prop
 | .tmp t=>RO st r (st.tmp t)
 | .cell a t=>RC (shp P t) r (match st.tmp a with | .ptr d g off=>(st.obj d g).map (·.drop off)|_=>none)
theorem rv_iff {P:Program} {rv:ResultVar} {r:SV}:RV P st r rv ↔ ∃v,resTV P st rv=some v/\outSV st v=some r:=by
 cases rv with
 |tmp t=>simp[RV,RO,resTV]
 |cell a t=>
  unfold RV RC resTV;constructor
  ·intro h;dsimp only at h;split at h
   ·rename_i sh cs hsh hcs;split at hcs
    ·rename_i d g off ht;cases ho:st.obj d g with
     |none=>rw[ho]at hcs;cases hcs
     |some cs' =>
      rw[ho]at hcs;cases hcs;refine⟨.sv r,?_,rfl⟩;have h':loadC sh (cs'.drop off)=some r:=h;simp only[hsh,ht,ho,h',yp]
    ·cases hcs
   ·exact h.elim
  ·rintro⟨v,h,k⟩
   simp only at h ⊢;split at h
   ·rename_i sh d g off hsh ht;rw[hsh,ht];split at h
    ·rename_i cs hcs;simp only[hcs,yp];cases hl:loadC sh (cs.drop off) with
     |none=>rw[hl]at h;cases h
     |some s=>
      rw[hl]at h;cases h;cases k;rfl
    ·cases h
   ·cases h
theorem rq_one {P:Program} {rv:ResultVar} {r:SV}:RQ P [rv] r .ret st=RV P st r rv:=by
 refine propext (Iff.trans ?_ rv_iff.symm);show retOf P st [rv]=_↔_;unfold retOf;simp only;constructor
 ·intro h;split at h
  ·rename_i d g e;split at h
   ·cases ho:st.obj d g with
    |none=>rw[ho]at h;cases h
    |some cs=>rw[ho]at h;cases h
   ·cases h
  ·rename_i v _ e;cases ho:outSV st v with
   |none=>rw[ho]at h;cases h
   |some s=>rw[ho]at h;cases h;exact⟨v,e,ho⟩
  ·cases h
 ·rintro⟨v,e,h⟩
  split
  ·rename_i d g e';rw[e]at e';cases e';simp[outSV]at h
  ·rename_i u _ e';rw[e]at e';cases e';rw[h];rfl
  ·rename_i e';rw[e]at e';cases e'
theorem res_iff {P:Program} {rv:ResultVar} {rs:List ResultVar} {x:SV} {l:List SV}:resSVs P st (rv::rs)=some (x::l)↔RV P st x rv/\resSVs P st rs=some l:=by
 rw[rv_iff];conv=>lhs;unfold resSVs
 constructor
 ·intro h;split at h
  ·rename_i v l' hv hl;split at h
   ·rename_i s hs;cases h;exact⟨⟨v,hv,hs⟩,hl⟩
   ·cases h
  ·cases h
 ·rintro⟨⟨v,hv,hs⟩,hl⟩
  rw[hv,hl];simp only[hs]
theorem rq_two {P:Program} {a b:ResultVar} {x y:SV}:RQ P [a,b] (.tup [x,y]) .ret st=(RV P st x a/\RV P st y b):=by
 have e:RQ P [a,b] (.tup [x,y]) .ret st↔resSVs P st [a,b]=some [x,y]:=by
  show Option.map _ _=_↔_;cases resSVs P st [a,b]<;>simp
 rw[propext e,propext res_iff,propext res_iff];simp[resSVs]
theorem rq_three {P:Program} {a b c:ResultVar} {x y z:SV}:RQ P [a,b,c] (.tup [x,y,z]) .ret st=(RV P st x a/\RV P st y b/\RV P st z c):=by
 have e:RQ P [a,b,c] (.tup [x,y,z]) .ret st↔resSVs P st [a,b,c]=some [x,y,z]:=by
  show Option.map _ _=_↔_;cases resSVs P st [a,b,c]<;>simp
 rw[propext e,propext res_iff,propext res_iff,propext res_iff];simp[resSVs]
theorem rq_four {P:Program} {a b c d:ResultVar} {x y z u:SV}:RQ P [a,b,c,d] (.tup [x,y,z,u]) .ret st=(RV P st x a/\RV P st y b/\RV P st z c/\RV P st u d):=by
 have e:RQ P [a,b,c,d] (.tup [x,y,z,u]) .ret st↔resSVs P st [a,b,c,d]=some [x,y,z,u]:=by
  show Option.map _ _=_↔_;cases resSVs P st [a,b,c,d]<;>simp
 rw[propext e,propext res_iff,propext res_iff,propext res_iff,propext res_iff];simp[resSVs]
theorem rv_tmp {P:Program} {r:SV} {t:Nat}:RV P st r (.tmp t)=RO st r (st.tmp t):=_root_.id rfl
theorem rv_cell {P:Program} {r:SV} {a:Nat} {t:TypeId}:RV P st r (.cell a t)=RC (shp P t) r (match st.tmp a with | .ptr d g off=>(st.obj d g).map (·.drop off)|_=>none):=_root_.id rfl
theorem rc_some {sh:Bool×Nat} {r:SV} {cs:List SV}:RC (some sh) r (some cs)=(loadC sh cs=some r):=_root_.id rfl
theorem ro_sv {s r:SV}:RO st r (.sv s)=(s=r):=by simp[RO,outSV]
theorem ro_nil {r:SV}:RO st r .nil=(.sl 0 []=r):=by simp[RO,outSV]
theorem ro_ref {g size off n:Nat} {cs:List SV} {r:SV} (hd:d<N0) (h:st.obj d g=some cs) (k : .sl n ((cs.drop off).take (n*size))=r):RO st r (.ref d g size off n):=by
 simp[RO,outSV,hd,h,k]
theorem Fn.intro {f:FuncId} {fn:Func} {body:Code} {args:List SV} {r:SV} (hf:C.P.funcs[f]?=some fn) (hok:C.good f=true) (hb:fn.body=some body) (hX : ∀ars,C.X f ars=none) (hl:args.length<=fn.ntmps)
  (h:WP C body (argSt (args.map Arg.sv)) (RQ C.P fn.results.toList r)):Fn C f args r:=by
 obtain⟨n,e,st,he,hq⟩:=h;refine⟨n+1,expOf st (args.map Arg.sv),?_⟩;have hm:exec C.P (callN C.P C.X C.mu C.good n) C.mu n body (argSt (args.map Arg.sv))=some (e,st):=he;unfold callN;rw[hX];simp only[hf,hok,hb,if_true];rw[if_pos (by simpa using hl),hm];cases e with
 |exit i=>exact hq.elim
 |goto i=>exact hq.elim
 |normal=>show Option.map _ (retOf C.P st fn.results.toList)=_;rw[show retOf C.P st fn.results.toList=some (.sv r) from hq];rfl
 |ret=>show Option.map _ (retOf C.P st fn.results.toList)=_;rw[show retOf C.P st fn.results.toList=some (.sv r) from hq];rfl
theorem tmp_arg {args:List Arg} {t:Nat}:(argSt args).tmp t=(match args[t]? with
   |some (.sv s) => .sv s
   |some (.imp _) => .ptr (N0+t) 0 0
   |some (.impref _ size off n) => .ref (N0+t) 0 size off n
   |none => .undef):=_root_.id rfl
theorem gen_arg {args:List Arg}:(argSt args).gen d=if 1000000<=d then 1 else 0:=_root_.id rfl
theorem obj_arg {args:List Arg} {g:Nat}:(argSt args).obj d g=if 1000000<=d/\g=0 then (match args[d-1000000]? with
   |some (.imp cs)=>some cs
   |some (.impref cs _ _ _)=>some cs
   |_=>none) else none:=_root_.id rfl
theorem cst_bool {b:Bool}:cst (.bool b) = .sv (.bool b):=_root_.id rfl
theorem cst_int {k:IntKind} {n:Int}:cst (.int k n) = .sv (.int k n):=_root_.id rfl
theorem cst_str {s:ByteArray}:cst (.string s) = .sv (.str s):=_root_.id rfl
theorem cst_ptr:cst (.pointer none) = .sv (.con (.pointer none)):=_root_.id rfl
theorem cst_iface:cst .nilIface = .sv (.con .nilIface):=_root_.id rfl
theorem cst_nil:cst (.slice none 0 0) = .nil:=_root_.id rfl
theorem gdst_nil {j:Nat}:gdst #[] j=none:=_root_.id rfl
theorem gdst_zero {o:Oper} {l:List Oper}:gdst (o::l).toArray 0=o.dst:=_root_.id rfl
theorem gdst_succ {o:Oper} {l:List Oper} {j:Nat}:gdst (o::l).toArray (j+1)=gdst l.toArray j:=by
 simp[gdst]
end
attribute [congr] vt_congr vt2_congr vb_congr vb2_congr vm_congr vm2_congr vo_congr vp_congr vv_congr vs_congr wk_congr wg_congr wg2_congr vr_congr va_congr vz_congr vy_congr vi_congr vf_congr vc_congr
attribute [go_sem] List.filter_cons List.filter_nil ownRef gdst_nil gdst_zero gdst_succ cst_bool cst_int cst_str cst_nil rq_one rq_two rq_three rq_four rv_tmp rv_cell rc_some ro_sv ro_nil Option.some.injEq vp_seq vp_region vo_nil vo_move vo_assign vo_pick vo_build vo_bin vo_un vo_convert vo_extract vo_field vo_fieldAddr vo_indexAddr idxV vo_slice vo_makeFunc vo_nilCheck vp_label vp_goto sc_normal sc_ret sc_exit nx_goto bk_goto cst_ptr cst_iface nilSV ptrSV vo_guard2 wg2_some wg_tt wg_ff wg_tf wg_ft wg_skip vo_len vo_min vo_max lenV vo_load vo_loadS vo_alloc vo_allocS vo_box vo_makeH vo_makeS vo_lit vo_softlit vo_store vo_storeS vo_append vo_copy vo_call vp_block vp_scope vp_exit vp_skip vp_ret vp_cond
 va_some va_none va_noneS vz_some vy_some frzAll frz_eq tmp_frzd obj_frzd gen_frzd tmp_grow obj_grow gen_grow distinct impIds impArgs expAll
 nx_normal nx_ret nx_exit bk_normal bk_ret bk_exit vb_some vb_none vb2_some vm_some vm_none vm2_some vt_some vt_none vt2_some vv_some vs_some wk_true vc_true vc_false
 putO_some putO_none eval_tmp eval_const eval_func tmp_put obj_put gen_put tmp_new obj_new gen_new tmp_set obj_set gen_set tmp_arg gen_arg obj_arg
 hard val intSV strSV store loadSt append appendTo copy softLit TV.adr TV.toSV allSV oneAll loadC partC fillC partsSV litC moreOf natTV lenTV loNat hiNat sliceV sliceTV binSV unSV cmpSV minSV maxSV splice SV.cells SV.one TV.frz TV.kill
 yK yQ List.getElem?_nil wL List.map_nil List.all_cons List.all_nil Bool.and_self Bool.and_true yU if_true if_false and_self and_true true_and false_and and_false zQ List.drop_succ_cons yS List.length_nil
 List.take_succ_cons List.take_zero List.nil_append List.cons_append List.append_nil yp wq Option.isSome_some Option.isSome_none
end Go.Ev
namespace Go.Ev
theorem omg {p:Prop} (h:p:=by first|omega|(simp only[AL,zZ];omega)):p:=h
set_option linter.defProp false
def AX:=And.intro AR (And.intro @AL (And.intro @ifT (And.intro @ifF (And.intro @take_all (And.intro @List.length_cons.{0} @List.length_nil.{0})))))
section
variable {C:Cx} {soft:Bool} {ops:Array Oper} {l:List Oper} {st:St} {Q:St->Prop} {R:Ex->St->Prop} {dst:Option Nat}
theorem wki {k:Bool} {s:Option St} (h':WS C soft ops l Q s) (h:k=true:=by kernel_rfl):WK C soft ops l Q k s:=wk_intro h h'
theorem vpd (id:Nat) (l:List Nat) (k:WS C true ops ops.toList (R .normal) (frzAll st ((l.map st.tmp).filter ownRef))) (h:rootsOf C.P ops=l:=by kernel_rfl):WP C (.region id ops true) st R:=vp_draw h k
theorem vpx (l:List Nat) {id:Nat} (k:WS C true ops ops.toList (R .normal) (frzAll st ((l.map st.tmp).filter ownRef))) (h:rootsOf C.P ops=l:=by kernel_rfl):WP C (.region id ops true) st R:=vp_draw h k
theorem fni {f:FuncId} {args:List SV} {r:SV} (fn:Func) (h:WP C fn.body.get! (argSt (args.map Arg.sv)) (RQ C.P fn.results.toList r)) (hf:C.P.funcs[f]?=some fn:=by kernel_rfl) (hok:C.good f=true:=by kernel_rfl) (hb:fn.body=some fn.body.get!:=by kernel_rfl) (hX : ∀ars,C.X f ars=none:=by exact fun _=>rfl) (hl:args.length<=fn.ntmps:=by exact xj (by kernel_rfl)):Fn C f args r:=Fn.intro hf hok hb hX hl h
theorem vfa {g:FuncId} {ss:List SV} {r:SV} (k:WO C soft ops l (st.putO dst (.sv r)) Q) (h:Fn C g ss r:=by assumption):WF C soft ops l dst st Q g ss:=vf_of h k
end
attribute [go_sem] Option.get!_some
end Go.Ev
namespace Go.Proofs.YtfknkoeagjonbaaGreat.F
open Go Go.Ev Go.Proofs
theorem shp_3:shp Proofs.Tryz.prog 3=some (false,1):=by kernel_rfl
theorem isInt_3:isInt Proofs.Tryz.prog 3=some IntKind.i64:=by kernel_rfl
theorem hasTy_3:hasTy Proofs.Tryz.prog 3=true:=by kernel_rfl
theorem shp_4:shp Proofs.Tryz.prog 4=some (false,1):=by kernel_rfl
theorem isBool_4:isBool Proofs.Tryz.prog 4=true:=by kernel_rfl
theorem isInt_5:isInt Proofs.Tryz.prog 5=some IntKind.u8:=by kernel_rfl
theorem hasTy_5:hasTy Proofs.Tryz.prog 5=true:=by kernel_rfl
theorem shp_22:shp Proofs.Tryz.prog 22=some (false,1):=by kernel_rfl
theorem elm_22:elm Proofs.Tryz.prog 22=some (68,1,4):=by kernel_rfl
theorem shp_24:shp Proofs.Tryz.prog 24=some (true,3):=by kernel_rfl
theorem zer_24:zer Proofs.Tryz.prog 24=some [SV.bool false,SV.sl 0 [],SV.sl 0 []]:=by kernel_rfl
theorem zok_24:zok Proofs.Tryz.prog 24=true:=by kernel_rfl
theorem plc_24:plc Proofs.Tryz.prog 24=some [(0,1),(1,1),(2,1)]:=by kernel_rfl
theorem fld_24_0:fld Proofs.Tryz.prog 24 0=some (0,4,1):=by kernel_rfl
theorem fld_24_1:fld Proofs.Tryz.prog 24 1=some (1,22,1):=by kernel_rfl
theorem fld_24_2:fld Proofs.Tryz.prog 24 2=some (2,22,1):=by kernel_rfl
theorem shp_26:shp Proofs.Tryz.prog 26=some (true,9):=by kernel_rfl
theorem fld_26_0:fld Proofs.Tryz.prog 26 0=some (0,3,1):=by kernel_rfl
theorem fld_26_1:fld Proofs.Tryz.prog 26 1=some (1,3,1):=by kernel_rfl
theorem fld_26_2:fld Proofs.Tryz.prog 26 2=some (2,3,1):=by kernel_rfl
theorem fld_26_3:fld Proofs.Tryz.prog 26 3=some (3,24,3):=by kernel_rfl
theorem fld_26_4:fld Proofs.Tryz.prog 26 4=some (6,24,3):=by kernel_rfl
theorem shp_29:shp Proofs.Tryz.prog 29=some (true,6):=by kernel_rfl
theorem zer_29:zer Proofs.Tryz.prog 29=some [SV.bool false,SV.sl 0 [],SV.sl 0 [],SV.bool false,SV.sl 0 [],SV.sl 0 []]:=by kernel_rfl
theorem plc_29:plc Proofs.Tryz.prog 29=some [(0,3),(3,3)]:=by kernel_rfl
theorem fld_29_0:fld Proofs.Tryz.prog 29 0=some (0,24,3):=by kernel_rfl
theorem fld_29_1:fld Proofs.Tryz.prog 29 1=some (3,24,3):=by kernel_rfl
theorem elm_38:elm Proofs.Tryz.prog 38=some (24,3,56):=by kernel_rfl
theorem zer_63:zer Proofs.Tryz.prog 63=some [SV.int IntKind.i64 0,SV.int IntKind.i64 0,SV.int IntKind.i64 0,SV.bool false,SV.sl 0 [],SV.sl 0 [],SV.bool false,SV.sl 0 [],SV.sl 0 [],SV.bool false,SV.sl 0 [],SV.sl 0 [],SV.bool false,SV.sl 0 [],SV.sl 0 [],SV.bool false,SV.sl 0 [],SV.sl 0 [],SV.bool false,SV.sl 0 [],SV.sl 0 []]:=by kernel_rfl
theorem plc_63:plc Proofs.Tryz.prog 63=some [(0,9),(9,6),(15,3),(18,3)]:=by kernel_rfl
theorem fld_63_0:fld Proofs.Tryz.prog 63 0=some (0,26,9):=by kernel_rfl
theorem fld_63_1:fld Proofs.Tryz.prog 63 1=some (9,29,6):=by kernel_rfl
theorem fld_63_2:fld Proofs.Tryz.prog 63 2=some (15,24,3):=by kernel_rfl
theorem fld_63_3:fld Proofs.Tryz.prog 63 3=some (18,24,3):=by kernel_rfl
theorem shp_68:shp Proofs.Tryz.prog 68=some (false,1):=by kernel_rfl
theorem zer_68:zer Proofs.Tryz.prog 68=some [SV.int IntKind.u32 0]:=by kernel_rfl
theorem zok_68:zok Proofs.Tryz.prog 68=true:=by kernel_rfl
theorem isInt_68:isInt Proofs.Tryz.prog 68=some IntKind.u32:=by kernel_rfl
theorem hasTy_68:hasTy Proofs.Tryz.prog 68=true:=by kernel_rfl
theorem isInt_95:isInt Proofs.Tryz.prog 95=some IntKind.u64:=by kernel_rfl
theorem hasTy_95:hasTy Proofs.Tryz.prog 95=true:=by kernel_rfl
theorem shp_108:shp Proofs.Tryz.prog 108=some (true,2):=by kernel_rfl
theorem zer_108:zer Proofs.Tryz.prog 108=some [SV.sl 0 [],SV.sl 0 []]:=by kernel_rfl
theorem plc_108:plc Proofs.Tryz.prog 108=some [(0,1),(1,1)]:=by kernel_rfl
theorem fld_108_0:fld Proofs.Tryz.prog 108 0=some (0,22,1):=by kernel_rfl
theorem fld_108_1:fld Proofs.Tryz.prog 108 1=some (1,22,1):=by kernel_rfl
theorem shp_112:shp Proofs.Tryz.prog 112=some (true,2):=by kernel_rfl
theorem zer_112:zer Proofs.Tryz.prog 112=some [SV.bool false,SV.sl 0 []]:=by kernel_rfl
theorem zok_112:zok Proofs.Tryz.prog 112=true:=by kernel_rfl
theorem plc_112:plc Proofs.Tryz.prog 112=some [(0,1),(1,1)]:=by kernel_rfl
theorem fld_112_0:fld Proofs.Tryz.prog 112 0=some (0,4,1):=by kernel_rfl
theorem fld_112_1:fld Proofs.Tryz.prog 112 1=some (1,22,1):=by kernel_rfl
theorem shp_114:shp Proofs.Tryz.prog 114=some (true,4):=by kernel_rfl
theorem zer_114:zer Proofs.Tryz.prog 114=some [SV.bool false,SV.sl 0 [],SV.bool false,SV.sl 0 []]:=by kernel_rfl
theorem plc_114:plc Proofs.Tryz.prog 114=some [(0,2),(2,2)]:=by kernel_rfl
theorem fld_114_0:fld Proofs.Tryz.prog 114 0=some (0,112,2):=by kernel_rfl
theorem fld_114_1:fld Proofs.Tryz.prog 114 1=some (2,112,2):=by kernel_rfl
theorem isInt_124:isInt Proofs.Tryz.prog 124=some IntKind.u64:=by kernel_rfl
theorem hasTy_124:hasTy Proofs.Tryz.prog 124=true:=by kernel_rfl
theorem elm_191:elm Proofs.Tryz.prog 191=some (112,2,32):=by kernel_rfl
attribute [go_sem] shp_3 isInt_3 hasTy_3 shp_4 isBool_4
attribute [go_sem] isInt_5 hasTy_5
attribute [go_sem] shp_22 elm_22 shp_24 zer_24 zok_24 plc_24 fld_24_0 fld_24_1
attribute [go_sem] fld_24_2 shp_26 fld_26_0 fld_26_1 fld_26_2 fld_26_3
attribute [go_sem] fld_26_4 shp_29 zer_29 plc_29 fld_29_0 fld_29_1
attribute [go_sem] elm_38
attribute [go_sem] zer_63 plc_63 fld_63_0 fld_63_1 fld_63_2 fld_63_3
attribute [go_sem] shp_68 zer_68 zok_68 isInt_68 hasTy_68
attribute [go_sem] isInt_95 hasTy_95
attribute [go_sem] shp_108 zer_108 plc_108 fld_108_0 fld_108_1
attribute [go_sem] shp_112 zer_112 zok_112 plc_112 fld_112_0 fld_112_1 shp_114 zer_114
attribute [go_sem] plc_114 fld_114_0 fld_114_1
attribute [go_sem] isInt_124 hasTy_124
attribute [go_sem] elm_191
end Go.Proofs.YtfknkoeagjonbaaGreat.F
set_option linter.constructorNameAsVariable false
namespace Go.Proofs.YtfknkoeagjonbaaGreat
open Go.Ev Go.RowKit Go.WideShapes
theorem u_limbs:Tryz.prog.underlying 22=some (.slice 68):=by kernel_rfl
theorem u_limb:Tryz.prog.underlying 68=some (.int .u32):=by kernel_rfl
theorem u_bool:Tryz.prog.underlying 4=some .bool:=by kernel_rfl
theorem u_int:Tryz.prog.underlying 3=some (.int .i64):=by kernel_rfl
theorem wf_u32 {i:Int} (h:(Lit.int .u32 i).wf=true):0<=i/\i<4294967296:=by
 have h':decide (IntKind.u32.min<=i/\i<=IntKind.u32.max)=true:=by simpa[Lit.wf]using h
 have:=of_decide_eq_true h';simp only[show IntKind.u32.min=0 from rfl,show IntKind.u32.max=4294967295 from rfl]at this;omega
theorem shp_int {n:Nat} {ss:List SV} (h:ShpT Tryz.prog (n+1) 3 ss) : ∃i,ss=[.int .i64 i]/\(Lit.int .i64 i).wf=true:=by
 unfold ShpT at h;rw[u_int]at h;exact h
theorem shp_bool {n:Nat} {ss:List SV} (h:ShpT Tryz.prog (n+1) 4 ss) : ∃b,ss=[.bool b]:=by
 unfold ShpT at h;rw[u_bool]at h;exact h
theorem shp_limbs_all {n:Nat} : ∀l:List (List SV),(∀x∈l,ShpT Tryz.prog (n+1) 68 x) -> ∃xs:List Nat,l.flatten=xs.map limb/\l.length=xs.length/\okL xs:=by
 intro l;induction l with
 |nil=>intro _;exact⟨[],rfl,rfl,okL_nil⟩
 |cons x l ih=>
  intro hx;obtain⟨xs,h1,h2,h3⟩:=ih fun y hy=>hx y (yb _ hy)
  have h4:=hx x yW;unfold ShpT at h4;rw[u_limb]at h4;obtain⟨i,rfl,hw⟩:=h4;obtain⟨w1,w2⟩:=wf_u32 hw;obtain⟨y,rfl⟩ : ∃y:Nat,i=(y:Int):=⟨i.toNat,by omega⟩
  exact⟨y::xs,by rw[List.flatten_cons,h1];rfl,by simp[h2],okL_cons.2 ⟨by omega,h3⟩⟩
theorem shp_limbs {n:Nat} {ss:List SV} (h:ShpT Tryz.prog (n+2) 22 ss) : ∃xs,ss=[natV xs]/\okL xs/\xs.length<=maxLen:=by
 unfold ShpT at h;rw[u_limbs]at h;obtain⟨elems,rfl,hl,he⟩:=h;obtain⟨xs,h1,h2,h3⟩:=shp_limbs_all elems he;exact⟨xs,by rw[h1,h2],h3,h2▸hl⟩
def fieldTs (P:Program) (t:TypeId):List TypeId:=match P.underlying t with
 |some (.struct fs)=>fs.toList.map (·.type)
 |_=>[]
theorem shp_struct {P:Program} {n:Nat} {t:TypeId} {ts:List TypeId} {ss:List SV} (ht:fieldTs P t=ts) (hne:ts≠[]) (h:ShpT P (n+1) t ss) :
  ∃parts:List (List SV),ss=parts.flatten/\parts.length=ts.length /\ ∀ (j:Nat) (u:TypeId) (x:List SV),ts[j]?=some u->parts[j]?=some x->ShpT P n u x:=by
 unfold fieldTs at ht;unfold ShpT at h;split at ht
 ·rename_i fs hu;rw[hu]at h;obtain⟨parts,h1,h2,h3⟩:=h;subst ht;refine⟨parts,h1,by rw[h2,zZ],fun j u x hj hx => ?_⟩;rw[zD]at hj;cases hf:fs.toList[j]? with
  |none=>rw[hf]at hj;cases hj
  |some f=>
   rw[hf]at hj;cases hj;exact h3 j f x hf hx
 ·exact(hne ht.symm).elim
theorem len_three {α:Type} {l:List α} (h:l.length=3) : ∃a b c,l=[a,b,c]:=by
 match l,h with
 | [a,b,c],_=>exact⟨a,b,c,rfl⟩
theorem len_five {α:Type} {l:List α} (h:l.length=5) : ∃a b c d e,l=[a,b,c,d,e]:=by
 match l,h with
 | [a,b,c,d,e],_=>exact⟨a,b,c,d,e,rfl⟩
theorem ts_rat:fieldTs Tryz.prog 24=[4,22,22]:=by kernel_rfl
theorem shp_rat {n:Nat} {ss:List SV} (h:ShpT Tryz.prog (n+3) 24 ss) : ∃s xs ys,ss=[.bool s,natV xs,natV ys]/\okL xs/\okL ys/\xs.length<=maxLen/\ys.length<=maxLen:=by
 obtain⟨parts,rfl,hl,hp⟩:=shp_struct ts_rat (by simp) h;obtain⟨a,b,c,rfl⟩:=len_three hl;obtain⟨s,rfl⟩:=shp_bool (hp 0 _ a rfl rfl);obtain⟨xs,rfl,h1,h2⟩:=shp_limbs (hp 1 _ b rfl rfl);obtain⟨ys,rfl,h3,h4⟩:=shp_limbs (hp 2 _ c rfl rfl);exact⟨s,xs,ys,rfl,h1,h3,h2,h4⟩
theorem trodAll_stays {H:Type} {enc:TypeId×Value->H} {P:Program} (hl:laidOutB P=true) {W W':World} (hb:Below W.heap.size W W') {sp:Nat->Bool} :
  ∀ {ts:List TypeId} {vs:List Value} {ds:List (DataW H)} {ps:List MemPlace},(ts.all fun t=>P.readableRec t&&decide (t<P.types.size))=true->DataW.TrodAll enc P W 0 (fun _=>true) true ts vs ds ps ->
   (∀x∈ps,x.block<W.heap.size)->(∀x∈ps,sp x.block=true)->DataW.TrodAll enc P W' 0 sp true ts vs ds ps:=by
 intro ts;induction ts with
 |nil=>
  intro vs ds ps _ h _ _;cases vs<;>cases ds<;>simp_all [DataW.TrodAll]
 |cons t ts ih=>
  intro vs ds ps ht h hlt hs;cases vs with
  |nil=>simp[DataW.TrodAll]at h
  |cons v vs=>
   cases ds with
   |nil=>simp[DataW.TrodAll]at h
   |cons d ds=>
    obtain⟨p,q,h1,h2,rfl⟩:=h;rw[List.all_cons,xh,xh]at ht;obtain⟨⟨ht1,ht2⟩,ht3⟩:=ht;refine⟨p,q,WideElems.Trod_stays hl ht1 (of_decide_eq_true ht2) h1 (fun x hx=>hb.same (hlt x (wH _ hx))) (fun x hx=>hs x (wH _ hx)),?_,rfl⟩;exact ih ht3 h2 (fun x hx=>hlt x (List.mem_append_right _ hx)) (fun x hx=>hs x (List.mem_append_right _ hx))
theorem open_plain {H:Type} {enc:TypeId×Value->H} {P:Program} {w:World} {sp:Nat->Bool} {held:Bool} {r:Reach} {b0:Nat} {m:Nat} {t:TypeId} {fs:Array Field} {v:Value} {d:DataW H} {ps:List MemPlace} (hp:plainT P m t=true) (hu:P.underlying t=some (.struct fs))
  (hok:Value.okWide P w r b0 t v) (hd:DataW.Trod enc P w 0 sp held t v d ps) : ∃ss,Rep w (fun _=>False) v (.agg ss)/\ShpT P m t ss:=by
 obtain⟨cs,rfl,-⟩:=okWide_struct hu hok;obtain⟨n,hn⟩:=hd;obtain⟨ss,⟨hl,hr⟩,hs⟩:=trod_reads hp hn;refine⟨ss,.agg cs ss (by rw[hl];simp[Value.cells]) (fun i s hi => ?_),hs⟩;have:=hr i s hi;simpa[Value.cells,xR,xW]using this
end Go.Proofs.YtfknkoeagjonbaaGreat
namespace Go.Ev
open Go.RowKit
section
variable {P:Program} {w0 w:World} {F I:Nat->Prop} {Z:Nat->Nat} {N:Nat} {st:St} {a:Act}
theorem nilcmp_region {call:Callf} (hcall:CallOk P call) {id d1 d2 x n:Nat} {cs:List SV} {t t' ty1 ty2:TypeId} {p1 p2:String} {af1 af2:Array Edge} {e:Nat×Nat×Nat} (hto:To w0 F I Z N st a w) (hx:st.tmp x = .sv (.sl n cs))
  (hd1:d1<N) (hd2:d2<N) (he:elm P t=some e) {Q:Exit->Act->World->Prop}
  (hQ : ∀b a' w',(b=true->cs=[])->To w0 F I Z N ((st.put d1 (.sv (.sl n cs))).put d2 (.sv (.bool b))) a' w'->Q .normal a' w') :
  (Code.region id #[⟨some d1,.move (.tmp x),ty1,p1,af1,none⟩,⟨some d2,.binOp .eql t (.tmp d1) (.const (.slice none 0 0)) t',ty2,p2,af2,none⟩] false).wp P Q a w:=by
 obtain⟨β,hr⟩:=hto;refine wp_region ?_;show wpOps P _ Q [0,1] a w;rw[wpOps_cons];refine stepO_wpOp (mu:=fun _=>false) (soft:=false) (st':=st.put d1 (.sv (.sl n cs))) hr hcall rfl (fun d e=>by cases e;exact hd1) ?_ (fun a' w' hto => ?_) Q
 ·show some (st.put d1 (st.tmp x))=_;rw[hx]
 obtain⟨β',hr'⟩:=hto;rw[wpOps_cons];unfold wpOp;simp only[wQ,yQ,yK];rw[if_pos (by rfl)];have hv:=hr'.tmps d1;rw[show (st.put d1 (.sv (.sl n cs))).tmp d1 = .sv (.sl n cs) from if_pos rfl]at hv;obtain⟨e1,e2,e3⟩:=e;obtain⟨hu,_⟩:=elm_parts he;have hv':Rep w' (Mut F β' (st.put d1 (.sv (.sl n cs)))) (a'.tmps.getD d1 undef) (.sl n cs):=hv;obtain⟨A,cap,hval,hcap⟩:=slice_len hv';refine .inl (Runs.wp (K:=fun a' w'=>wpOps P _ Q [] a' w') ⟨w',.inl ⟨.bool A.isNone,?_,?_⟩⟩)
 ·have h1:a'.eval (.tmp d1) = .slice A n cap:=hval;have h2:a'.eval (.const (.slice none 0 0)) = .slice none 0 0:=rfl;have hg:(eqGuard .eql t (.tmp d1) (.const (.slice none 0 0)) (.slice A n cap) (.slice none 0 0)).run P w' = .ok () w':=by
   unfold eqGuard;split<;>rfl
  simp only[execOp,h1,h2,Sem.run_bind,hg,Lib.run_eql_slice_nil w' t e1 A n cap 0 0 hu,Result.andThen_ok,Sem.run_pure]
 ·show Q .normal _ _;refine hQ A.isNone _ _ (fun hb => ?_) ⟨β',hr'.putO (dst:=some d2) (t := .sv (.bool A.isNone)) (fun d e=>by cases e;exact hd2) (.bool _) (fun d g e=>by simp[TV.id]at e)⟩;rw[hval]at hv';cases hv' with
  |sl0=>rfl
  |sl=>simp at hb
end
def cloneX (f:FuncId):Callf:=fun g args=>if g=f then match args with
 | [.sv (.sl n cs)]=>if cs.length=n/\oneAll cs=true/\n<=274877906944 then some (.sv (.sl n cs),[none]) else none
 |_=>none
 else none
theorem cloneX_ok {P:Program} {f:FuncId} {fn:Func} {t ty1 ty2:TypeId} {p1 p2:String} {af1 af2:Array Edge} {i1:Nat} {c0 cT c3:Code} (hf:P.funcs[f]?=some fn) (hok:okFn P fn=true)
  (hb:fn.body=some (.seq c0 (.seq (.seq (.region i1 #[⟨some 3,.move (.tmp 0),ty1,p1,af1,none⟩,⟨some 4,.binOp .eql t (.tmp 3) (.const (.slice none 0 0)) t,ty2,p2,af2,none⟩] false) (.cond (.tmp 4) cT .skip)) c3)))
  (hn:4<fn.ntmps) {e:Nat×Nat×Nat} (he:elm P t=some e)
  (h0 : ∀n cs,∃k st,exec P (fun _ _=>none) (fun _=>false) k c0 (argSt [.sv (.sl n cs)])=some (.normal,st)/\st.tmp 0 = .sv (.sl n cs) /\
   (∃k st',exec P (fun _ _=>none) (fun _=>false) k cT ((st.put 3 (.sv (.sl n cs))).put 4 (.sv (.bool true)))=some (.ret,st')/\retOf P st' fn.results.toList=some (.sv (.sl 0 []))) /\
   (cs.length=n->oneAll cs=true->n<=274877906944 -> ∃call mu k st',CallOk P call/\exec P call mu k c3 ((st.put 3 (.sv (.sl n cs))).put 4 (.sv (.bool false)))=some (.ret,st')/\retOf P st' fn.results.toList=some (.sv (.sl n cs)))) :
  CallOk P (cloneX f):=by
 intro g args r exps h;unfold cloneX at h;split at h
 ·rename_i hg;subst hg;split at h
  ·rename_i n cs;split at h
   ·rename_i hc;cases h;simp only[okFn,xh,hb,decide_eq_true_eq]at hok;obtain⟨⟨⟨hm,hnm⟩,hN⟩,hcode⟩:=hok;refine fun w F B vals hF hsz hrep hinj => .inl ⟨enters_of hf hnm hb,?_⟩
    have hcall:CallOk P (fun _ _=>none):=fun g args r exps h=>by cases h
    have hent:=entry hN (show ([Arg.sv (.sl n cs)]:List Arg).length<=fn.ntmps by simp;omega) hF hsz hrep hinj;refine calls_of_wp hf hb ?_;simp only[okCode,xh]at hcode;obtain⟨hc0,⟨_,hcT,_⟩,hc3⟩:=hcode;obtain⟨k,st,he0,hx,⟨kT,sT,heT,hrT⟩,h3⟩:=h0 n cs;obtain⟨call3,mu3,k3,s3,hcall3,he3,hr3⟩:=h3 hc.1 hc.2.1 hc.2.2
    have fin : ∀ {st':St},retOf P st' fn.results.toList=some (.sv (.sl n cs)) -> ∀a' w',To w F (impB [.sv (.sl n cs)] B) B fn.ntmps st' a' w'->bodyPost P fn (fun e w' => ∃v,e = .returned v/\RetRep w w' F v (.sv (.sl n cs))/\Ext (impB [.sv (.sl n cs)] B) w w' /\ ∀ (i:Nat) (cs':List SV),([none]:List (Option (List SV)))[i]?=some (some cs')->Holds w' F (B i) cs') .ret a' w':=by
     intro st' hret a' w' ⟨β,hr⟩;obtain⟨v,hv,hrr⟩:=hr.ret hret;refine⟨hr.defers,v,hv,v,rfl,hrr,hr.ext,fun i cs' hi => ?_⟩;cases i<;>simp at hi
    refine wp_seq (exec_wp hcall hm k hc0 ⟨_,hent⟩ he0 fun a1 w1 hto1 => ?_);refine wp_seq (wp_seq (nilcmp_region hcall hto1 hx (by omega) (by omega) he fun b a2 w2 hb2 hto2 => ?_));cases b with
    |true=>
     have hcs:=hb2 rfl;subst hcs;have hn0:n=0:=by simpa using hc.1.symm
     subst hn0;obtain⟨β,hr2⟩:=hto2;have hv4:Rep _ _ (a2.eval (.tmp 4)) (.bool true):=hr2.tmps 4;refine wp_cond (rep_bool hv4) ?_;exact exec_wp hcall hm kT hcT ⟨β,hr2⟩ heT fun a3 w3 hto3=>fin hrT a3 w3 hto3
    |false=>
     have hto2':=hto2;obtain⟨β,hr2⟩:=hto2;have hv4:Rep _ _ (a2.eval (.tmp 4)) (.bool false):=hr2.tmps 4;refine wp_cond (rep_bool hv4) ?_;refine wp_skip ?_;exact exec_wp hcall3 hm k3 hc3 hto2' he3 fun a3 w3 hto3=>fin hr3 a3 w3 hto3
   ·cases h
  ·cases h
 ·cases h
end Go.Ev
namespace Go.Proofs.YtfknkoeagjonbaaGreat
open Go.Ev
def nGood:Nat:=313
def notGood:List Nat:=[]
noncomputable def good (f:FuncId):Bool:=Nat.ble 2 f&&Nat.blt f (2+nGood) && !(notGood.any fun g=>Nat.beq g f)
def allOk (P:Program) (n:Nat):Bool:=(List.range n).all fun i=>notGood.any (fun g=>Nat.beq g (i+2))||match P.funcs[i+2]? with
 |some fn=>okFn P fn
 |none=>true
theorem good_of {P:Program} {n:Nat} (h:allOk P n=true) {f:Nat} {fn:Func} (h2:2<=f) (hn:f<2+n) (hb:(notGood.any fun g=>Nat.beq g f)=false) (hf:P.funcs[f]?=some fn):okFn P fn=true:=by
 unfold allOk at h;have hlt:f-2<n:=by omega
 have:=zJ.1 h (f-2) (zX.2 hlt);rw[show f-2+2=f by omega,hf,hb,Bool.false_or]at this;exact this
theorem good_all:allOk Tryz.prog nGood=true:=by kernel_rfl
theorem good_ok:Go.Ev.Good Tryz.prog good:=by
 intro f fn hg hf;unfold good at hg;simp only[xh,Nat.ble_eq,Nat.blt_eq,Bool.not_eq_true']at hg;exact good_of good_all hg.1.1 hg.1.2 hg.2 hf
end Go.Proofs.YtfknkoeagjonbaaGreat
namespace Go.Ev
section
variable {C:Cx} {ops:Array Oper} {l:List Oper} {st:St} {Q:St->Prop} {d:Nat}
def FnR (C:Cx) (f:FuncId) (args:List SV) (cs:List SV) (size off n:Nat):Prop := ∃m e,callN C.P C.X C.mu C.good m f (args.map Arg.sv)=some (.row cs size off n,e)
theorem vf_row {g:FuncId} {ss cs:List SV} {size off n:Nat} (h:FnR C g ss cs size off n) (k:WO C false ops l (st.new d cs (.ref d (st.gen d) size off n)) Q):WF C false ops l (some d) st Q g ss:=by
 obtain⟨m,e,hn⟩:=h;exact⟨m,by rw[hn];exact k⟩
theorem vf_rowS {dst:Option Nat} {g:FuncId} {ss cs:List SV} {size off n:Nat} (h:FnR C g ss cs size off n) (k:WO C true ops l (st.putO dst (.sv (.sl n ((cs.drop off).take (n*size))))) Q):WF C true ops l dst st Q g ss:=by
 obtain⟨m,e,hn⟩:=h;exact⟨m,by rw[hn];exact k⟩
def RR (P:Program) (rs:List ResultVar) (r:Ret) (e:Ex) (st:St):Prop:=match e with
 | .exit _=>False
 | .goto _=>False
 |_=>retRow P st rs=some r
theorem expOf_sv (st:St) (ars:List SV):expOf st (ars.map Arg.sv)=List.replicate ars.length none:=by
 unfold expOf;rw[zZ];refine List.ext_getElem? fun i => ?_
 rw[zD,List.getElem?_replicate];rcases xi i ars.length with h|h
 ·rw[wc h,if_pos h,yp,zD,xX h];rfl
 ·rw[xl (by simpa using h),if_neg (by omega)];rfl
theorem row_intro {f:FuncId} {fn:Func} {body:Code} {args:List SV} {r:Ret} (hf:C.P.funcs[f]?=some fn) (hok:C.good f=true) (hb:fn.body=some body) (hl:args.length<=fn.ntmps)
  (h:WP C body (argSt (args.map Arg.sv)) (RR C.P fn.results.toList r)) : ∃n,rowN C.P C.X C.mu C.good n f (args.map Arg.sv)=some (r,List.replicate args.length none):=by
 obtain⟨n,e,st,he,hq⟩:=h;refine⟨n,?_⟩;unfold rowN;simp only[hf,hok,hb,if_true];rw[if_pos (by simpa using hl),he,<- expOf_sv st args];cases e with
 |exit i=>exact hq.elim
 |goto i=>exact hq.elim
 |normal=>show Option.map _ (retRow C.P st fn.results.toList)=_;rw[show retRow C.P st fn.results.toList=some r from hq];rfl
 |ret=>show Option.map _ (retRow C.P st fn.results.toList)=_;rw[show retRow C.P st fn.results.toList=some r from hq];rfl
theorem FnI_of {f:FuncId} {fn:Func} {body:Code} {args:List Arg} {T:SV->List (Option (List SV))->Prop} (hf:C.P.funcs[f]?=some fn) (hok:C.good f=true) (hb:fn.body=some body) (hX : ∀ars,C.X f ars=none) (hl:args.length<=fn.ntmps)
  (h:WP C body (argSt args) (fun e s => ∃r exps,T r exps/\RQ C.P fn.results.toList r e s/\expOf s args=exps)) : ∃r exps,T r exps/\FnI C f args r exps:=by
 obtain⟨n,e,st,he,r,exps,hT,hq,hexp⟩:=h;refine⟨r,exps,hT,n+1,?_⟩;unfold callN;rw[hX];simp only[hf,hok,hb,if_true];rw[if_pos hl,he,<- hexp];cases e with
 |exit i=>exact hq.elim
 |goto i=>exact hq.elim
 |normal=>show Option.map _ (retOf C.P st fn.results.toList)=_;rw[show retOf C.P st fn.results.toList=some (.sv r) from hq];rfl
 |ret=>show Option.map _ (retOf C.P st fn.results.toList)=_;rw[show retOf C.P st fn.results.toList=some (.sv r) from hq];rfl
theorem rr_one {P:Program} {t:Nat} {r:Ret}:RR P [.tmp t] r .ret st=((match st.tmp t with
  | .ref d g size off n=>if d<1000000 then (st.obj d g).map fun cs=>Ret.row cs size off n else none
  |_=>none)=some r):=by
 show (retRow P st [.tmp t]=some r)=_;unfold retRow resTV;dsimp only;generalize st.tmp t=v;cases v<;>rfl
end
attribute [go_sem] rr_one
end Go.Ev
namespace Go.Ev
theorem tab_row_ok {P:Program} {X:Callf} {mu good:FuncId->Bool} (hX:CallOk P X) (hg:Good P good) (X1:Callf)
  (h : ∀g args r exps,X1 g args=some (r,exps)->X g args=some (r,exps) \/ ∃n,rowN P X mu good n g args=some (r,exps)):CallOk P X1:=by
 intro g args r exps h1;rcases h g args r exps h1 with h2|⟨n,h2⟩
 ·exact hX g args r exps h2
 ·exact rowN_ok hX hg h2
end Go.Ev
namespace Go.Ev
def bs (l:List UInt8):ByteArray:=⟨l.toArray⟩
end Go.Ev
namespace Go.Ev
open Go.RowKit
section
variable {P:Program} {g:FuncId} {fn:Func} {args:List Arg} {r:Ret} {exps:List (Option (List SV))}
end
end Go.Ev
namespace Go.Proofs.YtfknkoeagjonbaaGreat
open Go.Ev
noncomputable abbrev muF0 (f:Nat):Bool:=Nat.beq f 277
noncomputable abbrev muF1 (f:Nat):Bool:=muF0 f
noncomputable abbrev muF2 (f:Nat):Bool:=Bool.rec (muF1 f) true (Nat.beq f 33)
noncomputable abbrev muF3 (f:Nat):Bool:=Bool.rec (muF2 f) true (Nat.beq f 86)
noncomputable abbrev muF4 (f:Nat):Bool:=Bool.rec (muF3 f) true (Nat.beq f 85)
noncomputable abbrev muF5 (f:Nat):Bool:=Bool.rec (muF4 f) true (Nat.beq f 34)
noncomputable abbrev muF (f:Nat):Bool:=muF5 f
theorem muF_at0:muF 277=true:=by kernel_rfl
attribute [go_sem] muF_at0
theorem muF_at2:muF 33=true:=by kernel_rfl
attribute [go_sem] muF_at2
theorem muF_at3:muF 86=true:=by kernel_rfl
attribute [go_sem] muF_at3
theorem muF_at4:muF 85=true:=by kernel_rfl
attribute [go_sem] muF_at4
theorem muF_at5:muF 34=true:=by kernel_rfl
attribute [go_sem] muF_at5
noncomputable def xS:Callf:=fun g args=>
 cloneX 211 g args
noncomputable def xT:Callf:=fun g args=>
 xS g args
noncomputable def CZ:Cx:={ P:=Tryz.prog,X:=xT,mu:=muF,good:=good }
theorem CZ_P:CZ.P=Tryz.prog:=_root_.id rfl
theorem CZ_mu (f:Nat):CZ.mu f=muF f:=_root_.id rfl
noncomputable def XL:Callf:=fun g args=>if Nat.beq g 141 then (match args with
  | [.sv s,.sv (.int .u64 (.ofNat k)),.sv (.int .i64 (.ofNat n))]=>match decV s with
   |some xs=>if k<32/\xs.length<=n/\n<=xs.length+1 then some (.row ((limN n (wth xs*2^k)).map limb) 1 0 n,[none,none,none]) else none
   |none=>none
  |_=>none) else
 CZ.X g args
noncomputable def CX:Cx:={ CZ with X:=XL }
theorem CX_P:CX.P=Tryz.prog:=_root_.id rfl
theorem CX_mu (f:Nat):CX.mu f=muF f:=_root_.id rfl
attribute [go_sem] CZ_P CZ_mu CX_P CX_mu Nat.reduceBEq
def says (o:Option (Ret×List (Option (List SV)))):Bool:=match o with
 |some (.sv (.bool true),_)=>true
 |_=>false
theorem says_fn {C:Cx} {f:FuncId} {args:List SV} {n:Nat} (h:says (callN C.P C.X C.mu C.good n f (args.map Arg.sv))=true):Go.Ev.Fn C f args (.bool true):=by
 unfold says at h;split at h
 ·rename_i e he;exact⟨n,e,he⟩
 ·cases h
end Go.Proofs.YtfknkoeagjonbaaGreat
namespace Go.Proofs.YtfknkoeagjonbaaGreat
open Go.Ev Go.RowKit
noncomputable def C0:Cx:={ P:=Tryz.prog,X:=fun _ _=>none,mu:=fun _=>false,good:=fun _=>false }
theorem C0_P:C0.P=Tryz.prog:=rfl
theorem clone_ok0:CallOk Tryz.prog (cloneX 211):=by
 refine cloneX_ok (f:=211) (fn:=Tryz.f211) (e:=(68,1,4)) (by kernel_rfl) (by kernel_rfl) rfl (xz (Nat.lt_succ_self 4) (xj (by kernel_rfl))) (by kernel_rfl) fun n cs => ?_
 refine⟨20,_,rfl,rfl,⟨20,_,rfl,rfl⟩,fun h1 h2 h3 => ?_⟩;have hC : ∀m,CallOk Tryz.prog (callN C0.P C0.X C0.mu C0.good m):=fun m=>callN_ok (fun g args r exps h=>by cases h) (fun f fn h=>by cases h) _ m
 suffices h : ∀ {c:Code} {st:St},WP C0 c st (fun e s=>e = .ret/\retOf Tryz.prog s Tryz.f211.results.toList=some (.sv (.sl n cs))) -> ∃call mu k st',CallOk Tryz.prog call/\exec Tryz.prog call mu k c st=some (.ret,st')/\retOf Tryz.prog st' Tryz.f211.results.toList=some (.sv (.sl n cs)) by
  refine h ?_;have hlen:(List.length cs:Nat)=n*1:=by omega
  have h2':cs.all SV.one=true:=h2;have h5:(5<N0)=True:=by simp[N0]
  have hr:Tryz.f211.results.toList=[.tmp 2]:=by kernel_rfl
  rcases xo n with rfl|hn
  ·have:cs=[]:=wR h1;subst this;simp only[go_sem,C0_P,h1,h2,h2',h3,h5,hr,elemsC,zj,yD,zY,yV,retOf,resTV,outSV]
  ·have hn0 : ¬n=0:=by omega
   simp only[go_sem,C0_P,h1,h2,h2',h3,h5,hn0,hr,elemsC,zj,yD,zY,yV,retOf,resTV,outSV];rw[xq (by omega)]
 rintro c st ⟨m,e,s,he,rfl,hr⟩
 exact⟨_,_,m,s,hC m,he,hr⟩
theorem xS_ok:CallOk Tryz.prog xS:=by
 intro g args r exps h;unfold xS at h;exact clone_ok0 g args r exps h
end Go.Proofs.YtfknkoeagjonbaaGreat
namespace Go.Proofs.YtfknkoeagjonbaaGreat
open Go.Ev
theorem nat_Is (xs:List Nat) (hl:xs.length<=1099511627776:=by omega):Go.Ev.Fn CX 205 [natV xs] (.bool (isT xs)):=by
 refine fni Tryz.f205 ?_;unfold Tryz.f205;by_cases h0:xs.length=0
 ·have e:isT xs=true:=by simp[isT,h0]
  rw[e];repeat (first|simp only[go_sem]|simp (disch:=first|exact omg|fail) only[AX]|refine wki ?_|refine vpx [] ?_)
 ·have e:isT xs=(xs.getD (xs.length-1) 0 != 0):=by simp[isT,h0]
  rw[e];repeat (first|simp only[go_sem]|simp (disch:=first|exact omg|fail) only[AX]|refine wki ?_|refine vpx [] ?_)
  rw[bne_nat]
theorem lim_dropLast {xs:List Nat} (h:isT xs=false):xs.length≠0/\lim (wth (xs.take (xs.length-1)))=lim (wth xs):=by
 unfold isT at h;simp only[Bool.or_eq_false_iff,beq_eq_false_iff_ne,bne_eq_false_iff_eq]at h;refine⟨h.1,?_⟩;rcases xs.eq_nil_or_concat with rfl|⟨ys,z,rfl⟩
 ·rfl
 ·rw[List.concat_eq_append]at h ⊢;have e:z=0:=by simpa using h.2
  subst e;simp[lim_snoc0]
theorem nat_trim (xs:List Nat) (hx:okL xs) (hl:xs.length<=1099511627776:=by omega):Go.Ev.Fn CX 136 [natV xs] (natV (lim (wth xs))):=by
 refine fni Tryz.f136 ?_;unfold Tryz.f136;simp only[go_sem];refine vp_loop_inv (fun s => ∃ys,s.tmp 0 = .sv (natV ys)/\okL ys/\ys.length<=xs.length/\lim (wth ys)=lim (wth xs)) (fun s=>(lenTV (s.tmp 0)).getD 0) ⟨xs,rfl,hx,xQ _,rfl⟩ ?_;rintro s ⟨ys,h0,hy,hle,he⟩
 repeat (first|simp only[go_sem,h0]|simp (disch:=first|exact omg|fail) only[AX,h0]|refine wki ?_|refine vpx [] ?_)
 refine vf_of (nat_Is ys) ?_;simp only[go_sem,h0];by_cases hT:isT ys=true
 ·repeat (first|simp only[go_sem,h0,hT,xL]|simp (disch:=first|exact omg|fail) only[AX,h0,hT,xL]|refine wki ?_|refine vpx [] ?_)
  rw[<- he,<- lim_unique hy (isT_iff.1 hT)]
 ·have hT:isT ys=false:=by simpa using hT
  obtain⟨h1,h2⟩:=lim_dropLast hT;repeat (first|simp only[go_sem,h0,hT,xg]|simp (disch:=first|exact omg|fail) only[AX,h0,hT,xg]|refine wki ?_|refine vpx [] ?_)
  refine⟨⟨ys.take (ys.length-1),?_,okL_take hy _,?_,h2.trans he⟩,?_⟩
  ·rw[natV_cut]
  ·rw[yO];omega
  ·simp only[lenTV,wz];omega
theorem nat_Trim (xs:List Nat) (hx:okL xs) (hl:xs.length<=274877906944:=by omega):Go.Ev.Fn CX 138 [natV xs] (natV (lim (wth xs))):=by
 have hc:Go.Ev.Fn CX 211 [natV (lim (wth xs))] (natV (lim (wth xs))):=by
  refine⟨1,[none],?_⟩;have h1:=lim_length_le hx;have h2:=natV_one (lim (wth xs));have h3:cloneX 211 211 [.sv (natV (lim (wth xs)))]=some (.sv (natV (lim (wth xs))),[none]):=by
   simp only[cloneX,if_true];rw[if_pos ⟨natV_len _,h2,by omega⟩]
  have h4:CX.X 211 [.sv (natV (lim (wth xs)))]=some (.sv (natV (lim (wth xs))),[none]):=h3;unfold callN;rw[wL,List.map_nil,h4]
 refine fni Tryz.f138 ?_;unfold Tryz.f138;simp only[go_sem];refine vf_of (nat_trim xs hx) ?_;simp only[go_sem];refine vfa ?_;simp only[go_sem]
theorem nat_Of (n:Nat) (hn:n<18446744073709551616:=by omega):Go.Ev.Fn CX 80 [.int .u64 n] (natV (lim n)):=by
 refine fni Tryz.f80 ?_;unfold Tryz.f80;repeat (first|simp only[go_sem]|simp (disch:=first|exact omg|fail) only[AX]|refine wki ?_|refine vpx [] ?_)
 have e:wth [n%4294967296,n/4294967296]=n:=by simp only[wth];omega
 refine vf_of (nat_trim [n%4294967296,n/4294967296] (by simp[okL];omega) (by simp)) ?_;repeat (first|simp only[go_sem]|simp (disch:=first|exact omg|fail) only[AX]|refine wki ?_|refine vpx [] ?_)
 rw[e]
end Go.Proofs.YtfknkoeagjonbaaGreat
namespace Go.Proofs.YtfknkoeagjonbaaGreat
open Go.Ev
def cmpN (a b:Nat):Int:=if a<b then -1 else if a=b then 0 else 1
theorem wth_lt_of {xs ys:List Nat} (hx:okL xs) (hy:okL ys) (hl:xs.length=ys.length) {i:Nat} (hi:i<xs.length) (hd:xs.drop (i+1)=ys.drop (i+1)) (h:xs.getD i 0<ys.getD i 0):wth xs<wth ys:=by
 have h1 : ∀ (zs:List Nat),i<zs.length->wth zs=wth (zs.take i)+4294967296^i*(zs.getD i 0+4294967296*wth (zs.drop (i+1))):=by
  intro zs hz;conv=>lhs;rw[<- zu i zs]
  rw[wth_append,yO,yx (by omega),wn hz,wth_cons,xW,xX hz];rfl
 rw[h1 xs hi,h1 ys (by omega),hd];have h2:=wth_lt (okL_take hx i);rw[yO,yx (by omega)]at h2;have h3:4294967296^i*(xs.getD i 0+4294967296*wth (ys.drop (i+1))+1)<=4294967296^i*(ys.getD i 0+4294967296*wth (ys.drop (i+1))):=xI _ (by omega);rw[xY _ _ 1,yD]at h3;omega
theorem lim_length_lt {a b:Nat} (h:(lim a).length<(lim b).length:=by omega):a<b:=by
 rcases xi a b with h1|h1
 ·exact h1
 ·have:=trimL_length (okL_lim b) (okL_lim a) (trimL_lim b) (by rw[wth_lim,wth_lim];exact h1);omega
theorem nat_Cmp (xs ys:List Nat) (hx:okL xs) (hy:okL ys) (hl:xs.length<=1099511627776:=by omega) (hm:ys.length<=1099511627776:=by omega):Go.Ev.Fn CX 125 [natV xs,natV ys] (.int .i64 (cmpN (wth xs) (wth ys))):=by
 refine fni Tryz.f125 ?_;unfold Tryz.f125;have lx:=lim_length_le hx;have ly:=lim_length_le hy;repeat (first|simp only[go_sem]|simp (disch:=first|exact omg|fail) only[AX]|refine wki ?_|refine vpx [] ?_)
 refine vf_of (nat_trim xs hx) ?_;repeat (first|simp only[go_sem]|simp (disch:=first|exact omg|fail) only[AX]|refine wki ?_|refine vpx [] ?_)
 refine vf_of (nat_trim ys hy) ?_;repeat (first|simp only[go_sem]|simp (disch:=first|exact omg|fail) only[AX]|refine wki ?_|refine vpx [] ?_)
 by_cases h1:(lim (wth xs)).length=(lim (wth ys)).length
 ·repeat (first|simp only[go_sem]|simp (disch:=first|exact omg|fail) only[AX]|refine wki ?_)
  refine vp_loop_inv (fun s=>s.tmp 0 = .sv (natV (lim (wth xs)))/\s.tmp 1 = .sv (natV (lim (wth ys))) /\ ∃i:Nat,s.tmp 5 = .sv (.int .i64 ((i:Int)-1))/\i<=(lim (wth xs)).length/\(lim (wth xs)).drop i=(lim (wth ys)).drop i)
   (fun s=>match s.tmp 5 with | .sv (.int _ i)=>(i+1).toNat|_=>0) ⟨rfl,rfl,(lim (wth xs)).length,rfl,xQ _,?_⟩ ?_
  ·rw[List.drop_length,h1,List.drop_length]
  rintro s ⟨g0,g1,i,g5,hi,hd⟩
  rcases xo i with rfl|hi0
  ·have e:cmpN (wth xs) (wth ys)=0:=by
    have:=congrArg wth hd;rw[zQ,zQ,wth_lim,wth_lim]at this;rw[this];simp[cmpN]
   rw[e];repeat (first|simp only[go_sem,g0,g1,g5]|simp (disch:=first|exact omg|fail) only[AX,g0,g1,g5]|refine wki ?_|refine vpx [] ?_)
  ·repeat (first|simp only[go_sem,g0,g1,g5]|simp (disch:=first|exact omg|fail) only[AX,g0,g1,g5]|refine wki ?_|refine vpx [] ?_)
   have hdr : ∀zs:List Nat,i<=zs.length->zs.drop (i-1)=zs.getD (i-1) 0::zs.drop i:=by
    intro zs hz;rw[wn (show i-1<zs.length by omega),xW,xX (show i-1<zs.length by omega),show i-1+1=i by omega];rfl
   rcases Nat.lt_trichotomy ((lim (wth xs)).getD (i-1) 0) ((lim (wth ys)).getD (i-1) 0) with hc|hc|hc
   ·have:=wth_lt_of (okL_lim _) (okL_lim _) h1 (i:=i-1) (by omega) (by rw[show i-1+1=i by omega];exact hd) hc;rw[wth_lim,wth_lim]at this;have e:cmpN (wth xs) (wth ys) = -1:=by simp[cmpN,this]
    rw[e];repeat (first|simp only[go_sem,g0,g1,g5]|simp (disch:=first|exact omg|fail) only[AX,g0,g1,g5]|refine wki ?_|refine vpx [] ?_)
   ·repeat (first|simp only[go_sem,g0,g1,g5]|simp (disch:=first|exact omg|fail) only[AX,g0,g1,g5]|refine wki ?_|refine vpx [] ?_)
    refine⟨⟨i-1,?_,by omega,?_⟩,by omega⟩
    ·simp only[Int.natCast_sub hi0]
    ·rw[hdr _ hi,hdr _ (by omega),hc,hd]
   ·have:=wth_lt_of (okL_lim _) (okL_lim _) h1.symm (i:=i-1) (by omega) (by rw[show i-1+1=i by omega];exact hd.symm) hc;rw[wth_lim,wth_lim]at this;have e:cmpN (wth xs) (wth ys)=1:=by unfold cmpN;rw[if_neg (by omega),if_neg (by omega)]
    rw[e];repeat (first|simp only[go_sem,g0,g1,g5]|simp (disch:=first|exact omg|fail) only[AX,g0,g1,g5]|refine wki ?_|refine vpx [] ?_)
 ·by_cases h2:(lim (wth xs)).length<(lim (wth ys)).length
  ·have:=lim_length_lt h2;have e:cmpN (wth xs) (wth ys) = -1:=by simp[cmpN,this]
   rw[e];repeat (first|simp only[go_sem]|simp (disch:=first|exact omg|fail) only[AX]|refine wki ?_|refine vpx [] ?_)
  ·have:=lim_length_lt (a:=wth ys) (b:=wth xs);have e:cmpN (wth xs) (wth ys)=1:=by unfold cmpN;rw[if_neg (by omega),if_neg (by omega)]
   rw[e];repeat (first|simp only[go_sem]|simp (disch:=first|exact omg|fail) only[AX]|refine wki ?_|refine vpx [] ?_)
end Go.Proofs.YtfknkoeagjonbaaGreat
namespace Go.Proofs.YtfknkoeagjonbaaGreat
open Go.Ev
theorem nat_Add (xs ys:List Nat) (hx:okL xs) (hy:okL ys) (hl:xs.length<=137438953472:=by omega) (hm:ys.length<=137438953472:=by omega):Go.Ev.Fn CX 113 [natV xs,natV ys] (natV (lim (wth xs+wth ys))):=by
 refine fni Tryz.f113 ?_;unfold Tryz.f113;have lx:=lim_length_le hx;have ly:=lim_length_le hy;repeat (first|simp only[go_sem]|simp (disch:=first|exact omg|fail) only[AX]|refine wki ?_|refine vpx [] ?_)
 refine vf_of (nat_trim xs hx) ?_;repeat (first|simp only[go_sem]|simp (disch:=first|exact omg|fail) only[AX]|refine wki ?_|refine vpx [] ?_)
 refine vf_of (nat_trim ys hy) ?_;repeat (first|simp only[go_sem]|simp (disch:=first|exact omg|fail) only[AX]|refine wki ?_|refine vpx [] ?_)
 refine vc_cut (Mid:=fun s => ∃a b,s.tmp 0 = .sv (natV a)/\s.tmp 1 = .sv (natV b)/\okL a/\okL b/\b.length<=a.length/\a.length<=137438953472/\wth a+wth b=wth xs+wth ys) ?_ ?_
 ·by_cases h1:(lim (wth xs)).length<(lim (wth ys)).length
  ·repeat (first|simp only[go_sem]|simp (disch:=first|exact omg|fail) only[AX]|refine wki ?_|refine vpx [] ?_)
   exact⟨_,_,rfl,rfl,okL_lim _,okL_lim _,by omega,by omega,by rw[wth_lim,wth_lim];omega⟩
  ·repeat (first|simp only[go_sem]|simp (disch:=first|exact omg|fail) only[AX]|refine wki ?_|refine vpx [] ?_)
   exact⟨_,_,rfl,rfl,okL_lim _,okL_lim _,by omega,by omega,by rw[wth_lim,wth_lim]⟩
 rintro s ⟨a,b,g0,g1,ha,hb,hab,hla,hsum⟩
 repeat (first|simp only[go_sem,g0,g1]|simp (disch:=first|exact omg|fail) only[AX,g0,g1]|refine wki ?_)
 generalize hg:s.gen 23=g;refine vp_loop_inv (fun s'=>s'.tmp 0 = .sv (natV a)/\s'.tmp 1 = .sv (natV b)/\s'.tmp 5 = .ref 23 g 1 0 (a.length+1)/\s'.tmp 24 = .sv (natV a)/\s'.tmp 25 = .sv (.int .i64 a.length) /\
   ∃c:List Nat,∃i carry:Nat,s'.obj 23 g=some (c.map limb)/\s'.tmp 6 = .sv (.int .u64 carry)/\s'.tmp 26 = .sv (.int .i64 i)/\c.length=a.length+1/\okL c/\i<=a.length/\carry<=1 /\
    wth (c.take i)+4294967296^i*carry=wth (a.take i)+wth (b.take i))
  (fun s=>match s.tmp 26 with | .sv (.int _ i)=>a.length-i.toNat|_=>0) ?_ ?_
 ·refine⟨g0,g1,rfl,rfl,rfl,List.replicate (a.length+1) 0,0,0,?_,rfl,rfl,yR ..,okL_replicate _,by omega,by omega,rfl⟩;simp[St.put,St.new,hg]
 rintro s' ⟨i0,i1,i5,i24,i25,c,i,carry,iO,i6,i26,hc,hok,hi,hcar,hw⟩
 by_cases hend:i=a.length
 ·subst hend;repeat (first|simp only[go_sem,i0,i1,i5,i24,i25,iO,i6,i26]|simp (disch:=first|exact omg|fail) only[AX,i0,i1,i5,i24,i25,iO,i6,i26]|refine wki ?_|refine vpx [] ?_)
  refine vf_of (fn_natV (nat_trim (c.set a.length carry) (okL_set hok _ _) (by rw[yN];omega)) (by rw[yN];omega)) ?_;repeat (first|simp only[go_sem]|simp (disch:=first|exact omg|fail) only[AX]|refine wki ?_|refine vpx [] ?_)
  have e:wth (c.set a.length carry)=wth xs+wth ys:=by
   rw[<- xq (l:=c.set a.length carry) (i:=a.length+1) (by rw[yN];omega),wth_set_take (by omega),hw,xq (xQ _),xq hab,hsum]
  rw[e]
 ·have h1:=getD_lt ha i;have h2:=getD_lt hb i;have key : ∀x:Nat,x=carry+a.getD i 0+b.getD i 0->wth ((c.set i (x%4294967296)).take (i+1))+4294967296^(i+1)*(x/4294967296)=wth (a.take (i+1))+wth (b.take (i+1)):=by
   intro x hx;rw[wth_set_take (by omega),wth_take_succ,wth_take_succ];have e1:4294967296^i*(x%4294967296)+4294967296^(i+1)*(x/4294967296)=4294967296^i*x:=by
    rw[xU,xP,<- xY,wE]
   have e2:4294967296^i*x=4294967296^i*carry+4294967296^i*a.getD i 0+4294967296^i*b.getD i 0:=by
    rw[hx,xY,xY]
   omega
  by_cases hib:i<b.length
  ·repeat (first|simp only[go_sem,i0,i1,i5,i24,i25,iO,i6,i26]|simp (disch:=first|exact omg|fail) only[AX,i0,i1,i5,i24,i25,iO,i6,i26]|refine wki ?_|refine vpx [] ?_)
   exact⟨⟨c.set i ((carry+a.getD i 0+b.getD i 0)%4294967296),i+1,(carry+a.getD i 0+b.getD i 0)/4294967296,rfl,rfl,rfl,by rw[yN];exact hc,okL_set hok _ _,by omega,by omega,key _ rfl⟩,by omega⟩
  ·have e0:b.getD i 0=0:=by rw[xW,xl (by omega)];rfl
   repeat (first|simp only[go_sem,i0,i1,i5,i24,i25,iO,i6,i26]|simp (disch:=first|exact omg|fail) only[AX,i0,i1,i5,i24,i25,iO,i6,i26]|refine wki ?_|refine vpx [] ?_)
   exact⟨⟨c.set i ((carry+a.getD i 0)%4294967296),i+1,(carry+a.getD i 0)/4294967296,rfl,rfl,rfl,by rw[yN];exact hc,okL_set hok _ _,by omega,by omega,key _ (by omega)⟩,by omega⟩
end Go.Proofs.YtfknkoeagjonbaaGreat
namespace Go.Proofs.YtfknkoeagjonbaaGreat
open Go.Ev
theorem bits_Add32 (x y c:Nat) (hx:x<4294967296) (hy:y<4294967296) (hc:c<4294967296:=by omega) :
  Go.Ev.Fn CX 304 [limb x,limb y,limb c] (.tup [limb ((x+y+c)%4294967296),limb ((x+y+c)/4294967296)]):=by
 refine fni Tryz.f304 ?_;unfold Tryz.f304;repeat (first|simp only[go_sem]|simp (disch:=first|exact omg|fail) only[AX]|refine wki ?_|refine vpx [] ?_)
theorem bits_Sub32 (x y b:Nat) (hx:x<4294967296) (hy:y<4294967296) (hb:b<=1) :
  Go.Ev.Fn CX 177 [limb x,limb y,limb b] (.tup [limb (((x+(4294967296-y))%4294967296+(4294967296-b))%4294967296),limb (if x<y+b then 1 else 0)]):=by
 refine fni Tryz.f177 ?_;unfold Tryz.f177;have hd : ∃d,d=((x+(4294967296-y))%4294967296+(4294967296-b))%4294967296:=⟨_,rfl⟩
 obtain⟨d,hd⟩:=hd;rw[<- hd,<- sub32_bit hx hy hb hd];have hd':d<4294967296:=by omega
 have h0:4294967295 ^^^ x<4294967296:=Nat.xor_lt_two_pow (n:=32) (by decide) hx;have h1:(4294967295 ^^^ x) &&& y<4294967296:=yM Nat.and_le_right hy;have h2:x ^^^ y<4294967296:=Nat.xor_lt_two_pow (n:=32) hx hy;have h3:4294967295 ^^^ (x ^^^ y)<4294967296:=Nat.xor_lt_two_pow (n:=32) (by decide) h2;have h4:(4294967295 ^^^ (x ^^^ y)) &&& d<4294967296:=yM Nat.and_le_right hd';repeat (first|simp only[go_sem,u32_sub,<- hd]|simp (disch:=first|exact omg|fail) only[AX,u32_sub,<- hd]|refine wki ?_|refine vpx [] ?_)
theorem bits_Div32 (hi lo y:Nat) (h:hi<y) (hy:y<4294967296) (hlo:lo<4294967296) :
  Go.Ev.Fn CX 274 [limb hi,limb lo,limb y] (.tup [limb ((hi*4294967296+lo)/y),limb ((hi*4294967296+lo)%y)]):=by
 refine fni Tryz.f274 ?_;unfold Tryz.f274;have hq:(hi*4294967296+lo)/y<4294967296:=by
  rw[yC (by omega)];have:(hi+1)*4294967296<=y*4294967296:=xC _ h;omega
 have hr:(hi*4294967296+lo)%y<4294967296:=Nat.lt_trans (yI _ (by omega)) hy;have hX : ∃X,hi*4294967296+lo=X:=⟨_,rfl⟩
 obtain⟨X,hX⟩:=hX;rw[hX]at hq hr ⊢;generalize hQ:X/y=Q at *
 generalize hR:X%y=R at *
 repeat (first|simp only[go_sem,hX,hQ,hR]|simp (disch:=first|exact omg|fail) only[AX,hX,hQ,hR]|refine wki ?_|refine vpx [] ?_)
end Go.Proofs.YtfknkoeagjonbaaGreat
namespace Go.Proofs.YtfknkoeagjonbaaGreat
open Go.Ev
theorem nat_Sub (xs ys:List Nat) (hx:okL xs) (hy:okL ys) (hl:xs.length<=137438953472:=by omega) (hm:ys.length<=137438953472:=by omega) :
  Go.Ev.Fn CX 114 [natV xs,natV ys] (if wth xs<wth ys then .tup [natV [],.bool false] else .tup [natV (lim (wth xs-wth ys)),.bool true]):=by
 refine fni Tryz.f114 ?_;unfold Tryz.f114;have lx:=lim_length_le hx;have ly:=lim_length_le hy;repeat (first|simp only[go_sem]|simp (disch:=first|exact omg|fail) only[AX]|refine wki ?_|refine vpx [] ?_)
 refine vf_of (nat_Cmp xs ys hx hy) ?_;repeat (first|simp only[go_sem]|simp (disch:=first|exact omg|fail) only[AX]|refine wki ?_|refine vpx [] ?_)
 by_cases hlt:wth xs<wth ys
 ·rw[if_pos hlt];have e:cmpN (wth xs) (wth ys) = -1:=by simp[cmpN,hlt]
  rw[e];repeat (first|simp only[go_sem]|simp (disch:=first|exact omg|fail) only[AX]|refine wki ?_|refine vpx [] ?_)
  rfl
 ·rw[if_neg hlt];have e:decide (cmpN (wth xs) (wth ys)<0)=false:=by
   unfold cmpN;rw[if_neg hlt];split<;>rfl
  repeat (first|simp only[go_sem,e]|simp (disch:=first|exact omg|fail) only[AX,e]|refine wki ?_|refine vpx [] ?_)
  refine vf_of (nat_trim xs hx) ?_;repeat (first|simp only[go_sem]|simp (disch:=first|exact omg|fail) only[AX]|refine wki ?_|refine vpx [] ?_)
  refine vf_of (nat_trim ys hy) ?_;repeat (first|simp only[go_sem]|simp (disch:=first|exact omg|fail) only[AX]|refine wki ?_|refine vpx [] ?_)
  have hab:(lim (wth ys)).length<=(lim (wth xs)).length:=trimL_length (okL_lim _) (okL_lim _) (trimL_lim _) (by rw[wth_lim,wth_lim];omega);have ha:=okL_lim (wth xs);have hb:=okL_lim (wth ys);have va:=wth_lim (wth xs);have vb:=wth_lim (wth ys);generalize lim (wth xs)=a at *
  generalize lim (wth ys)=b at *
  refine vp_loop_inv (fun s'=>s'.tmp 0 = .sv (natV a)/\s'.tmp 1 = .sv (natV b)/\s'.tmp 6 = .ref 21 0 1 0 a.length/\s'.tmp 22 = .sv (natV a)/\s'.tmp 23 = .sv (.int .i64 a.length) /\
    ∃c:List Nat,∃i w:Nat,s'.obj 21 0=some (c.map limb)/\s'.tmp 7 = .sv (.int .u32 w)/\s'.tmp 24 = .sv (.int .i64 i)/\c.length=a.length/\okL c/\i<=a.length/\w<=1 /\
     wth (c.take i)+wth (b.take i)=wth (a.take i)+4294967296^i*w)
   (fun s=>match s.tmp 24 with | .sv (.int _ i)=>a.length-i.toNat|_=>0) ?_ ?_
  ·refine⟨rfl,rfl,rfl,rfl,rfl,List.replicate a.length 0,0,0,rfl,rfl,rfl,yR ..,okL_replicate _,by omega,by omega,rfl⟩
  rintro s' ⟨i0,i1,i6,i22,i23,c,i,w,iO,i7,i24,hc,hok,hi,hw,hv⟩
  by_cases hend:i=a.length
  ·subst hend;repeat (first|simp only[go_sem,i0,i1,i6,i22,i23,iO,i7,i24]|simp (disch:=first|exact omg|fail) only[AX,i0,i1,i6,i22,i23,iO,i7,i24]|refine wki ?_|refine vpx [] ?_)
   have e:wth c=wth xs-wth ys:=by
    rw[xq (by omega),xq hab,xq (xQ _),va,vb]at hv;have h0:=wth_lt hok;rw[hc]at h0;rcases xo w with rfl|hw0
    ·omega
    ·have:w=1:=by omega
     subst this;have:=wth_lt ha;omega
   refine vf_of (fn_natV (nat_trim c hok) hc) ?_;repeat (first|simp only[go_sem]|simp (disch:=first|exact omg|fail) only[AX]|refine wki ?_|refine vpx [] ?_)
   rw[e]
  ·have h1:=getD_lt ha i;have h2:=getD_lt hb i;have key : ∀x y v w':Nat,x=a.getD i 0->y=b.getD i 0->v+y+w=x+4294967296*w'->wth ((c.set i v).take (i+1))+wth (b.take (i+1))=wth (a.take (i+1))+4294967296^(i+1)*w':=by
    intro x y v w' hx' hy' he;rw[wth_set_take (by omega),wth_take_succ,wth_take_succ,<- hx',<- hy',xU,xP];have e1:4294967296^i*(v+y+w)=4294967296^i*(x+4294967296*w'):=by rw[he]
    rw[xY,xY,xY]at e1;omega
   by_cases hib:i<b.length
   ·repeat (first|simp only[go_sem,i0,i1,i6,i22,i23,iO,i7,i24]|simp (disch:=first|exact omg|fail) only[AX,i0,i1,i6,i22,i23,iO,i7,i24]|refine wki ?_|refine vpx [] ?_)
    refine vf_of (bits_Sub32 (a.getD i 0) (b.getD i 0) w h1 h2 hw) ?_;repeat (first|simp only[go_sem,i0,i1,i6,i22,i23,iO,i7,i24]|simp (disch:=first|exact omg|fail) only[AX,i0,i1,i6,i22,i23,iO,i7,i24]|refine wki ?_|refine vpx [] ?_)
    refine⟨⟨c.set i (((a.getD i 0+(4294967296-b.getD i 0))%4294967296+(4294967296-w))%4294967296),i+1,if a.getD i 0<b.getD i 0+w then 1 else 0,rfl,rfl,rfl,by rw[yN];exact hc,okL_set hok _ _,by omega,by split<;>omega,key _ _ _ _ rfl rfl ?_⟩,by omega⟩;split<;>omega
   ·have e0:b.getD i 0=0:=by rw[xW,xl (by omega)];rfl
    repeat (first|simp only[go_sem,i0,i1,i6,i22,i23,iO,i7,i24]|simp (disch:=first|exact omg|fail) only[AX,i0,i1,i6,i22,i23,iO,i7,i24]|refine wki ?_|refine vpx [] ?_)
    refine vf_of (bits_Sub32 (a.getD i 0) 0 w h1 (by omega) hw) ?_;repeat (first|simp only[go_sem,i0,i1,i6,i22,i23,iO,i7,i24]|simp (disch:=first|exact omg|fail) only[AX,i0,i1,i6,i22,i23,iO,i7,i24]|refine wki ?_|refine vpx [] ?_)
    refine⟨⟨c.set i (((a.getD i 0+4294967296)%4294967296+(4294967296-w))%4294967296),i+1,if a.getD i 0<w then 1 else 0,rfl,rfl,rfl,by rw[yN];exact hc,okL_set hok _ _,by omega,by split<;>omega,key _ _ _ _ rfl e0.symm ?_⟩,by omega⟩;split<;>omega
end Go.Proofs.YtfknkoeagjonbaaGreat
namespace Go.Proofs.YtfknkoeagjonbaaGreat
open Go.Ev
theorem getD_set_ne {xs:List Nat} {i j v:Nat} (h:j≠i:=by omega):(xs.set i v).getD j 0=xs.getD j 0:=by
 rw[xW,xW,List.getElem?_set_ne (fun e=>h e.symm)]
theorem limb_mul {v w:Nat} (hv:v<4294967296) (hw:w<4294967296):v*w<=18446744065119617025:=
 xH (xO (show v<=4294967295 by omega) (show w<=4294967295 by omega)) (by decide)
theorem nat_Mul (xs ys:List Nat) (hx:okL xs) (hy:okL ys) (hl:xs.length<=137438953472:=by omega) (hm:ys.length<=137438953472:=by omega) :
  Go.Ev.Fn CX 112 [natV xs,natV ys] (natV (lim (wth xs*wth ys))):=by
 refine fni Tryz.f112 ?_;unfold Tryz.f112;have lx:=lim_length_le hx;have ly:=lim_length_le hy;repeat (first|simp only[go_sem]|simp (disch:=first|exact omg|fail) only[AX]|refine wki ?_|refine vpx [] ?_)
 refine vf_of (nat_trim xs hx) ?_;repeat (first|simp only[go_sem]|simp (disch:=first|exact omg|fail) only[AX]|refine wki ?_|refine vpx [] ?_)
 refine vf_of (nat_trim ys hy) ?_;repeat (first|simp only[go_sem]|simp (disch:=first|exact omg|fail) only[AX]|refine wki ?_|refine vpx [] ?_)
 have ha:=okL_lim (wth xs);have hb:=okL_lim (wth ys);have va:=wth_lim (wth xs);have vb:=wth_lim (wth ys);generalize lim (wth xs)=a at *
 generalize lim (wth ys)=b at *
 refine vp_loop_inv (fun s'=>s'.tmp 0 = .sv (natV a)/\s'.tmp 1 = .sv (natV b)/\s'.tmp 5 = .ref 20 0 1 0 (a.length+b.length)/\s'.tmp 21 = .sv (natV a)/\s'.tmp 22 = .sv (.int .i64 a.length) /\
   ∃c:List Nat,∃i:Nat,s'.obj 20 0=some (c.map limb)/\s'.tmp 23 = .sv (.int .i64 i)/\c.length=a.length+b.length/\okL c/\i<=a.length /\
    wth (c.take (i+b.length))=wth (a.take i)*wth b)
  (fun s=>match s.tmp 23 with | .sv (.int _ i)=>a.length-i.toNat|_=>0) ?_ ?_
 ·refine⟨rfl,rfl,rfl,rfl,rfl,List.replicate (a.length+b.length) 0,0,rfl,rfl,yR ..,okL_replicate _,by omega,?_⟩;rw[List.take_replicate,wth_replicate];simp[wth]
 rintro s' ⟨i0,i1,i5,i21,i22,c0,i,iO,i23,hc0,hok0,hi,hv⟩
 by_cases hend:i=a.length
 ·subst hend;repeat (first|simp only[go_sem,i0,i1,i5,i21,i22,iO,i23]|simp (disch:=first|exact omg|fail) only[AX,i0,i1,i5,i21,i22,iO,i23]|refine wki ?_|refine vpx [] ?_)
  refine vf_of (fn_natV (nat_trim c0 hok0) hc0) ?_;repeat (first|simp only[go_sem]|simp (disch:=first|exact omg|fail) only[AX]|refine wki ?_|refine vpx [] ?_)
  have e:wth c0=wth xs*wth ys:=by
   rw[xq (by omega),xq (xQ _),va,vb]at hv;exact hv
  rw[e]
 ·have h1:=getD_lt ha i;repeat (first|simp only[go_sem,i0,i1,i5,i21,i22,iO,i23]|simp (disch:=first|exact omg|fail) only[AX,i0,i1,i5,i21,i22,iO,i23]|refine wki ?_|refine vpx [] ?_)
  generalize hvv:a.getD i 0=v at *
  refine vp_loop_inv (fun s'=>s'.tmp 0 = .sv (natV a)/\s'.tmp 1 = .sv (natV b)/\s'.tmp 5 = .ref 20 0 1 0 (a.length+b.length)/\s'.tmp 21 = .sv (natV a)/\s'.tmp 22 = .sv (.int .i64 a.length)/\s'.tmp 23 = .sv (.int .i64 i) /\
    s'.tmp 6 = .sv (.int .i64 i)/\s'.tmp 7 = .sv (.int .u32 v)/\s'.tmp 28 = .sv (natV b)/\s'.tmp 29 = .sv (.int .i64 b.length) /\
    ∃c:List Nat,∃k carry:Nat,s'.obj 20 0=some (c.map limb)/\s'.tmp 30 = .sv (.int .i64 k)/\s'.tmp 8 = .sv (.int .u64 carry)/\c.length=a.length+b.length/\okL c/\k<=b.length/\carry<4294967296 /\
     (∀j,i+k<=j->c.getD j 0=c0.getD j 0)/\wth (c.take (i+k))+4294967296^(i+k)*carry=wth (c0.take (i+k))+4294967296^i*(v*wth (b.take k)))
   (fun s=>match s.tmp 30 with | .sv (.int _ i)=>b.length-i.toNat|_=>0) ?_ ?_
  ·refine⟨i0,i1,i5,i21,i22,i23,rfl,rfl,rfl,rfl,c0,0,0,iO,rfl,rfl,hc0,hok0,by omega,by omega,fun _ _=>rfl,?_⟩;simp[wth]
  rintro s2 ⟨j0,j1,j5,j21,j22,j23,j6,j7,j28,j29,c,k,carry,jO,j30,j8,hc,hok,hk,hcar,hsame,hw⟩
  by_cases hend2:k=b.length
  ·subst hend2;repeat (first|simp only[go_sem,j0,j1,j5,j21,j22,j23,j6,j7,j28,j29,jO,j30,j8]|simp (disch:=first|exact omg|fail) only[AX,j0,j1,j5,j21,j22,j23,j6,j7,j28,j29,jO,j30,j8]|refine wki ?_|refine vpx [] ?_)
   refine⟨⟨c.set (i+b.length) carry,i+1,rfl,rfl,by rw[yN];exact hc,okL_set hok _ _ hcar,by omega,?_⟩,by omega⟩;rw[show i+1+b.length=i+b.length+1 by omega,wth_set_take (by omega),hw,hv,wth_take_succ,hvv,xq (xQ _)];rw[xZ,xP]
  ·have h2:=getD_lt hb k;have h3:=getD_lt hok (i+k);have h4:=limb_mul h1 h2;have hs:=hsame (i+k) (xQ _);generalize hww:b.getD k 0=w at *
   generalize hu:c.getD (i+k) 0=u at *
   generalize hp:v*w=p at *
   repeat (first|simp only[go_sem,j0,j1,j5,j21,j22,j23,j6,j7,j28,j29,jO,j30,j8,hww,hu,hp]|simp (disch:=first|exact omg|fail) only[AX,j0,j1,j5,j21,j22,j23,j6,j7,j28,j29,jO,j30,j8,hww,hu,hp]|refine wki ?_|refine vpx [] ?_)
   refine⟨⟨c.set (i+k) ((carry+(p+u))%4294967296),k+1,(carry+(p+u))/4294967296,rfl,rfl,rfl,by rw[yN];exact hc,okL_set hok _ _,by omega,by omega,fun j hj=>(getD_set_ne).trans (hsame j (by omega)),?_⟩,by omega⟩;rw[show i+(k+1)=i+k+1 by omega,wth_set_take (by omega),wth_take_succ c0,<- hs,wth_take_succ b,hww];generalize hx:carry+(p+u)=x;have e1:4294967296^(i+k)*(x%4294967296)+4294967296^(i+k+1)*(x/4294967296)=4294967296^(i+k)*x:=by
    rw[xU,xP,<- xY,wE]
   have e2:4294967296^(i+k)*x=4294967296^(i+k)*carry+(4294967296^(i+k)*p+4294967296^(i+k)*u):=by
    rw[<- hx,xY,xY]
   have e3:4294967296^i*(v*(wth (b.take k)+4294967296^k*w))=4294967296^i*(v*wth (b.take k))+4294967296^(i+k)*p:=by
    rw[xY,xY,<- hp,xM,ym v,<- xP (4294967296^i) (4294967296^k)]
   rw[e3];omega
end Go.Proofs.YtfknkoeagjonbaaGreat
namespace Go.Proofs.YtfknkoeagjonbaaGreat
open Go.Ev
theorem wth_drop {xs:List Nat} {i:Nat} (h:i<xs.length:=by omega):wth (xs.drop i)=xs.getD i 0+4294967296*wth (xs.drop (i+1)):=by
 rw[wn h,wth_cons,xW,xX h];rfl
theorem wth_set_drop {xs:List Nat} {i:Nat} (h:i<xs.length) (v:Nat):wth ((xs.set i v).drop i)=v+4294967296*wth (xs.drop (i+1)):=by
 rw[wth_drop (by rw[yN];exact h),List.drop_set_of_lt (by omega)];simp[xW,h]
theorem nat_small (xs:List Nat) (b:Nat) (hx:okL xs) (hl:xs.length<=137438953472) (hb0:0<b) (hb:b<4294967296) :
  Go.Ev.Fn CX 212 [natV xs,limb b] (.tup [natV (lim (wth xs/b)),limb (wth xs%b)]):=by
 refine fni Tryz.f212 ?_;unfold Tryz.f212;repeat (first|simp only[go_sem]|simp (disch:=first|exact omg|fail) only[AX]|refine wki ?_)
 refine vp_loop_inv (fun s'=>s'.tmp 0 = .sv (natV xs)/\s'.tmp 1 = .sv (limb b)/\s'.tmp 6 = .ref 11 0 1 0 xs.length /\
   ∃q:List Nat,∃i rest:Nat,s'.obj 11 0=some (q.map limb)/\s'.tmp 8 = .sv (.int .i64 ((i:Int)-1))/\s'.tmp 7 = .sv (limb rest)/\q.length=xs.length/\okL q/\i<=xs.length/\rest<b /\
    wth (xs.drop i)=b*wth (q.drop i)+rest)
  (fun s=>match s.tmp 8 with | .sv (.int _ i)=>(i+1).toNat|_=>0) ?_ ?_
 ·refine⟨rfl,rfl,rfl,List.replicate xs.length 0,xs.length,0,rfl,rfl,rfl,yR ..,okL_replicate _,by omega,hb0,?_⟩;rw[List.drop_length,zH (by simp)];simp[wth]
 rintro s' ⟨i0,i1,i6,q,i,rest,iO,i8,i7,hq,hok,hi,hrest,hv⟩
 rcases xo i with rfl|hi0
 ·repeat (first|simp only[go_sem,i0,i1,i6,iO,i8,i7]|simp (disch:=first|exact omg|fail) only[AX,i0,i1,i6,iO,i8,i7]|refine wki ?_|refine vpx [] ?_)
  rw[zQ,zQ]at hv;have e1:wth xs/b=wth q:=by
   rw[hv,wa hb0,yn hrest,yE]
  have e2:wth xs%b=rest:=by
   rw[hv,Nat.mul_add_mod,yB hrest]
  refine vf_of (fn_natV (nat_trim q hok) hq) ?_;repeat (first|simp only[go_sem,i0,i1,i6,iO,i8,i7]|simp (disch:=first|exact omg|fail) only[AX,i0,i1,i6,iO,i8,i7]|refine wki ?_|refine vpx [] ?_)
  rw[e1,e2];exact⟨rfl,rfl⟩
 ·have h1:=getD_lt hx (i-1);have h5:(((i-1:Nat):Int))=(i:Int)-1:=by omega
  repeat (first|simp only[go_sem,i0,i1,i6,iO,i8,i7]|simp (disch:=first|exact omg|fail) only[AX,i0,i1,i6,iO,i8,i7]|refine wki ?_|refine vpx [] ?_)
  have hq0:(rest*4294967296+xs.getD (i-1) 0)/b<4294967296:=by
   rw[yC hb0];have:(rest+1)*4294967296<=b*4294967296:=xC _ hrest;omega
  have hr0:=yI (rest*4294967296+xs.getD (i-1) 0) hb0;refine vf_of (bits_Div32 rest (xs.getD (i-1) 0) b hrest hb h1) ?_;repeat (first|simp only[go_sem,i0,i1,i6,iO,i8,i7]|simp (disch:=first|exact omg|fail) only[AX,i0,i1,i6,iO,i8,i7]|refine wki ?_|refine vpx [] ?_)
  refine⟨⟨q.set (i-1) ((rest*4294967296+xs.getD (i-1) 0)/b),i-1,(rest*4294967296+xs.getD (i-1) 0)%b,rfl,rfl,rfl,by rw[yN];exact hq,okL_set hok _ _ hq0,by omega,hr0,?_⟩,by omega⟩;rw[wth_set_drop (by omega),wth_drop,show i-1+1=i by omega,hv];have e1:=yl (rest*4294967296+xs.getD (i-1) 0) b;generalize (rest*4294967296+xs.getD (i-1) 0)/b=Q at *
  generalize (rest*4294967296+xs.getD (i-1) 0)%b=R at *
  rw[xY b,<- xP b,xV b 4294967296,xP];omega
end Go.Proofs.YtfknkoeagjonbaaGreat
namespace Go.Proofs.YtfknkoeagjonbaaGreat
open Go.Ev
def guessN (u v:Nat):Nat:=min 4294967295 (u/v)
theorem guess_le (u v:Nat):guessN u v<=4294967295:=Nat.min_le_left _ _
theorem guess_ge {u v q:Nat} (hv:0<v) (hq:q<=4294967295) (h:q*v<=u):q<=guessN u v:=
 Nat.le_min.2 ⟨hq,(Nat.le_div_iff_mul_le hv).2 h⟩
theorem guess_lt {u v q:Nat} (hv:0<v) (h:u<q*v):guessN u v<=q-1:=
 xH (Nat.min_le_right _ _) (Nat.le_sub_one_of_lt ((yC hv).2 h))
theorem guess_parts {q r b1 b2 X low U V:Nat} (hU:X*4294967296+low=U) (hV:b1*4294967296+b2=V) (e:q*b1+r=X) :
  q*V+(r*4294967296+low)=U+q*b2:=by
 subst hU hV e;rw[xY,xZ,<- xP];generalize q*b1=a;generalize q*b2=b;omega
theorem guess_first {b1 b2 X low U V Q R:Nat} (hU:X*4294967296+low=U) (hV:b1*4294967296+b2=V) (hlo:low<4294967296) (hV0:0<V) (hQR:b1*Q+R=X) (hR:R<b1):guessN U V<=Q:=by
 refine guess_lt (q:=Q+1) hV0 ?_;have e:=guess_parts (q:=Q) (r:=R) hU hV (by rw[xV];exact hQR);rw[xZ];generalize Q*V=a at *
 generalize Q*b2=b at *
 generalize b1*Q=c at *
 omega
theorem guess_step {q r b1 X:Nat} (e:q*b1+r=X) (h:1<=q:=by omega):(q-1)*b1+(r+b1)=X:=by
 obtain⟨q',rfl⟩ : ∃q',q=q'+1:=⟨q-1,by omega⟩
 rw[wF];rw[xZ,xe]at e;omega
theorem guess_end {q r b1 b2 X low U V:Nat} (hU:X*4294967296+low=U) (hV:b1*4294967296+b2=V) (hV0:0<V) (hb2:b2<4294967296) (e:q*b1+r=X) (hq:q<=4294967295)
  (h:4294967296<=r\/q*b2<=r*4294967296+low):q<=guessN U V:=by
 refine guess_ge hV0 hq ?_;have e1:=guess_parts hU hV e;have h6:q*b2<=18446744065119617025:=limb_mul (by omega) hb2;generalize q*V=a at *
 generalize q*b2=b at *
 omega
theorem guess_more {q r b1 b2 X low U V:Nat} (hU:X*4294967296+low=U) (hV:b1*4294967296+b2=V) (hV0:0<V) (e:q*b1+r=X)
  (h:r*4294967296+low<q*b2):guessN U V<=q-1:=by
 refine guess_lt hV0 ?_;have e1:=guess_parts hU hV e;generalize q*V=a at *
 generalize q*b2=b at *
 omega
theorem guess_small {q r b1 X high mid:Nat} (hX:high*4294967296+mid=X) (h1:high<=b1) (hm:mid<4294967296) (e:q*b1+r=X) (hr:4294967296<=r):q<=4294967295:=by
 rcases xi 4294967295 q with h3|h3
 ·have h4:4294967296*b1<=q*b1:=xC _ h3;generalize q*b1=a at *
  omega
 ·exact h3
theorem guess_fn (high mid low b1 b2:Nat) (h1:high<=b1) (hb:b1<4294967296) (hb':2147483648<=b1) (hm:mid<4294967296) (hlo:low<4294967296) (hb2:b2<4294967296) :
  Go.Ev.Fn CX 276 [limb high,limb mid,limb low,limb b1,limb b2] (.int .u64 (guessN ((high*4294967296+mid)*4294967296+low) (b1*4294967296+b2))):=by
 refine fni Tryz.f276 ?_;unfold Tryz.f276;have hX : ∃X,high*4294967296+mid=X:=⟨_,rfl⟩
 obtain⟨X,hX⟩:=hX;have hX1:X<18446744073709551616:=by omega
 rw[hX];have hU : ∃U,X*4294967296+low=U:=⟨_,rfl⟩
 obtain⟨U,hU⟩:=hU;have hV : ∃V,b1*4294967296+b2=V:=⟨_,rfl⟩
 obtain⟨V,hV⟩:=hV;have hV0:0<V:=by omega
 rw[hU,hV];have hq0:X/b1<=4294967297:=by
  have h:X<4294967298*b1:=by omega
  exact Nat.le_of_lt_succ ((yC (k:=b1) (by omega)).2 h)
 have hr0:X%b1<b1:=yI _ (by omega);have hqr:=yl X b1;generalize hQ:X/b1=Q at *
 generalize hR:X%b1=R at *
 have hT0:=guess_first hU hV hlo hV0 hqr hr0;have hT1:=guess_le U V;generalize hT:guessN U V=T at *
 repeat (first|simp only[go_sem,hX,hQ,hR]|simp (disch:=first|exact omg|fail) only[AX,hX,hQ,hR]|refine wki ?_|refine vpx [] ?_)
 refine vp_loop_inv (fun s'=>s'.tmp 2 = .sv (limb low)/\s'.tmp 3 = .sv (limb b1)/\s'.tmp 4 = .sv (limb b2) /\
   ∃q r:Nat,s'.tmp 12 = .sv (.int .u64 q)/\s'.tmp 13 = .sv (.int .u64 r)/\q*b1+r=X/\r<4294967296/\T<=q/\q<=4294967297)
  (fun s=>match s.tmp 12 with | .sv (.int _ i)=>i.toNat|_=>0) ?_ ?_
 ·exact⟨rfl,rfl,rfl,Q,R,rfl,rfl,by rw[xV];exact hqr,by omega,hT0,hq0⟩
 rintro s' ⟨i2,i3,i4,q,r,i12,i13,e,hr,hTq,hq⟩
 have fin:1<=q->4294967296<=r+b1->T<=q-1->q-1=T:=by
  intro hq1 hrB hl;have e2:=guess_step e hq1;have:=guess_end hU hV hV0 hb2 e2 (guess_small hX h1 hm e2 hrB) (.inl hrB);rw[hT]at this;omega
 by_cases hqB:4294967296<=q
 ·have e2:=guess_step e;by_cases hrB:4294967296<=r+b1
  ·have h5:=fin (by omega) hrB (by omega);clear fin e e2 hU hV hqr;repeat (first|simp only[go_sem,i2,i3,i4,i12,i13]|simp (disch:=first|exact omg|fail) only[AX,i2,i3,i4,i12,i13]|refine wki ?_|refine vpx [] ?_)
   rw[h5]
  ·clear fin e hU hV hqr;repeat (first|simp only[go_sem,i2,i3,i4,i12,i13]|simp (disch:=first|exact omg|fail) only[AX,i2,i3,i4,i12,i13]|refine wki ?_|refine vpx [] ?_)
   exact⟨⟨q-1,r+b1,rfl,rfl,e2,by omega,by omega,by omega⟩,by omega⟩
 ·have hp:q*b2<=18446744065119617025:=limb_mul (by omega) hb2;have hub':=guess_end hU hV hV0 hb2 e (by omega);have hlb':=guess_more hU hV hV0 e;rw[hT]at hub' hlb';generalize hP:q*b2=P at *
  have hC : ∃C,r*4294967296+low=C:=⟨_,rfl⟩
  obtain⟨C,hC⟩:=hC;have hj:bitsSV .or .u64 ((r*4294967296:Nat):Int) (low:Int)=some (.int .u64 (C:Int)):=by
   rw[b_join (by omega) hlo,hC]
  rw[hC]at hub' hlb';by_cases hc:C<P
  ·have hq1:1<=q:=by
    rcases xo q with rfl|h
    ·rw[zY]at hP;omega
    ·exact h
   have hl:=hlb' hc;have e2:=guess_step e hq1;by_cases hrB:4294967296<=r+b1
   ·have h5:=fin hq1 hrB hl;clear fin hub' hlb' e e2 hU hV hqr hC;repeat (first|simp only[go_sem,i2,i3,i4,i12,i13,hP,hj]|simp (disch:=first|exact omg|fail) only[AX,i2,i3,i4,i12,i13,hP,hj]|refine wki ?_|refine vpx [] ?_)
    rw[h5]
   ·clear fin hub' hlb' e hU hV hqr hC;repeat (first|simp only[go_sem,i2,i3,i4,i12,i13,hP,hj]|simp (disch:=first|exact omg|fail) only[AX,i2,i3,i4,i12,i13,hP,hj]|refine wki ?_|refine vpx [] ?_)
    exact⟨⟨q-1,r+b1,rfl,rfl,e2,by omega,by omega,by omega⟩,by omega⟩
  ·have h5:=hub' (.inr (by omega));clear fin hub' hlb' e hU hV hqr hC;repeat (first|simp only[go_sem,i2,i3,i4,i12,i13,hP,hj]|simp (disch:=first|exact omg|fail) only[AX,i2,i3,i4,i12,i13,hP,hj]|refine wki ?_|refine vpx [] ?_)
   rw[Nat.le_antisymm h5 hTq]
end Go.Proofs.YtfknkoeagjonbaaGreat
namespace Go.Proofs.YtfknkoeagjonbaaGreat
open Go.Ev
def blen (x:Nat):Nat:=if x=0 then 0 else x.log2+1
def tabOk (s:ByteArray):Bool:=(List.range 256).all fun i=>match s[i]? with
 |some b=>b.toNat==blen i
 |none=>false
theorem vo_index_tab {C:Cx} {soft:Bool} {ops:Array Oper} {l:List Oper} {st:St} {Q:St->Prop} {dst:Option Nat} {ty t:TypeId} {pos:String} {af:Array Edge} {s:ByteArray} {x:Operand} {k:IntKind} {i:Nat}
  (hu:C.P.underlying t=some .string) (hs:tabOk s=true) (hx:st.eval x = .sv (.int k (i:Int))) (hi:i<256) (h:WO C soft ops l (st.putO dst (.sv (.int .u8 (blen i:Nat)))) Q) :
  WO C soft ops (⟨dst,.index t (.const (.string s)) x,ty,pos,af,none⟩::l) st Q:=by
 rw[vo_index];have h1:=zJ.1 hs i (zX.2 hi);have e:val C.P st (.index t (.const (.string s)) x)=some (.sv (.int .u8 (blen i:Nat))):=by
  have e0:st.eval (.const (.string s)) = .sv (.str s):=rfl;simp only[val,hx,e0,natTV,hu];rw[if_pos (by omega)];simp only[Int.toNat_natCast];split at h1
  ·rename_i b hb;rw[hb];simp only;rw[<- eq_of_beq h1]
  ·cases h1
 rw[e];exact h
theorem blen_shift {x k:Nat} (h:2^k<=x):blen x=k+blen (x/2^k):=by
 have hp:0<2^k:=xK (by omega);have h0:x≠0:=by omega
 have h1:x/2^k≠0:=by
  have:=Nat.div_pos h hp;omega
 unfold blen;rw[if_neg h0,if_neg h1];have e:x.log2=k+(x/2^k).log2:=by
  have h2:=(Nat.le_log2 h0).2 h;refine(Nat.log2_eq_iff h0).2 ⟨?_,?_⟩
  ·have:=Nat.log2_self_le h1;rw[xM];calc 2^k*2^(x/2^k).log2<=2^k*(x/2^k):=xI _ this
    _<=x:=Nat.mul_div_le _ _
  ·have:=Nat.lt_log2_self (n:=x/2^k);rw[yC hp]at this;rw[show k+(x/2^k).log2+1=(x/2^k).log2+1+k by omega,xM];exact this
 omega
theorem blen_le {x k:Nat} (h:x<2^k):blen x<=k:=by
 unfold blen;split
 ·omega
 ·rename_i h0;have:=(Nat.log2_lt h0).2 h;omega
theorem bits_Len32 (x:Nat) (hx:x<4294967296):Go.Ev.Fn CX 292 [limb x] (.int .i64 (blen x:Nat)):=by
 refine fni Tryz.f292 ?_;unfold Tryz.f292;repeat (first|simp only[go_sem]|simp (disch:=first|exact omg|fail) only[AX]|refine wki ?_|refine vpx [] ?_)
 refine vc_cut (Mid:=fun s => ∃y m:Nat,s.tmp 0 = .sv (limb y)/\s.tmp 2 = .sv (.int .i64 m)/\blen x=m+blen y/\y<65536/\m<=16) ?_ ?_
 ·by_cases h:65536<=x
  ·repeat (first|simp only[go_sem]|simp (disch:=first|exact omg|fail) only[AX]|refine wki ?_|refine vpx [] ?_)
   exact⟨x/65536,16,rfl,rfl,blen_shift (k:=16) h,by omega,by omega⟩
  ·repeat (first|simp only[go_sem]|simp (disch:=first|exact omg|fail) only[AX]|refine wki ?_|refine vpx [] ?_)
   exact⟨x,0,rfl,rfl,by omega,by omega,by omega⟩
 rintro s ⟨y,m,g0,g2,hb,hy,hm⟩
 repeat (first|simp only[go_sem,g0,g2]|simp (disch:=first|exact omg|fail) only[AX,g0,g2]|refine wki ?_|refine vpx [] ?_)
 refine vc_cut (Mid:=fun s => ∃y m:Nat,s.tmp 0 = .sv (limb y)/\s.tmp 2 = .sv (.int .i64 m)/\blen x=m+blen y/\y<256/\m<=24) ?_ ?_
 ·by_cases h:256<=y
  ·repeat (first|simp only[go_sem,g0,g2]|simp (disch:=first|exact omg|fail) only[AX,g0,g2]|refine wki ?_|refine vpx [] ?_)
   exact⟨y/256,m+8,rfl,rfl,by rw[hb,blen_shift (k:=8) h,zR],by omega,by omega⟩
  ·repeat (first|simp only[go_sem,g0,g2]|simp (disch:=first|exact omg|fail) only[AX,g0,g2]|refine wki ?_|refine vpx [] ?_)
   exact⟨y,m,rfl,rfl,hb,by omega,by omega⟩
 clear g0 g2 hb hy hm;rintro s ⟨y,m,g0,g2,hb,hy,hm⟩
 repeat (first|simp only[go_sem,g0,g2]|simp (disch:=first|exact omg|fail) only[AX,g0,g2]|refine wki ?_|refine vpx [] ?_)
 refine vo_index_tab (i:=y) (by kernel_rfl) (by kernel_rfl) rfl hy ?_;have hbl:blen y<=8:=blen_le (k:=8) hy;repeat (first|simp only[go_sem,g0,g2]|simp (disch:=first|exact omg|fail) only[AX,g0,g2]|refine wki ?_|refine vpx [] ?_)
 rw[hb]
theorem bits_LeadingZeros32 (x:Nat) (hx:x<4294967296):Go.Ev.Fn CX 275 [limb x] (.int .i64 ((32-blen x:Nat):Int)):=by
 refine fni Tryz.f275 ?_;unfold Tryz.f275;have hbl:blen x<=32:=blen_le (k:=32) hx;repeat (first|simp only[go_sem]|simp (disch:=first|exact omg|fail) only[AX]|refine wki ?_|refine vpx [] ?_)
 refine vf_of (bits_Len32 x hx) ?_;repeat (first|simp only[go_sem]|simp (disch:=first|exact omg|fail) only[AX]|refine wki ?_|refine vpx [] ?_)
 rw[Int.natCast_sub hbl];rfl
end Go.Proofs.YtfknkoeagjonbaaGreat
namespace Go.Proofs.YtfknkoeagjonbaaGreat
open Go.Ev
theorem clone_ok:CallOk Tryz.prog CZ.X:=xS_ok
end Go.Proofs.YtfknkoeagjonbaaGreat
namespace Go.Proofs.YtfknkoeagjonbaaGreat
open Go.Ev
theorem or_low {h k m:Nat} (hh:h<2^k):h |||2^k*m=h+2^k*m:=by
 rw[Nat.or_comm,<- Nat.two_pow_add_eq_or_of_lt hh,wM]
theorem mod_shift {v k:Nat} (hk:k<32):v*2^k%4294967296=2^k*(v%2^(32-k)):=by
 rw[xV v,show 4294967296=2^k*2^(32-k) by rw[<- xM,show k+(32-k)=32 by omega],Nat.mul_mod_mul_left]
theorem getD_set_self {xs:List Nat} {i v:Nat} (h:i<xs.length:=by omega):(xs.set i v).getD i 0=v:=by
 simp[xW,h]
theorem getD_set_ne' {xs:List Nat} {i j v:Nat} (h:j≠i:=by omega):(xs.set i v).getD j 0=xs.getD j 0:=by
 rw[xW,xW,List.getElem?_set_ne (fun e=>h e.symm)]
theorem left_row (xs:List Nat) (k n:Nat) (hx:okL xs) (hl:xs.length<=137438953472) (hk:k<32) (hn:xs.length<=n) (hn':n<=xs.length+1) :
  ∃m,rowN CZ.P CZ.X CZ.mu CZ.good m 141 ([natV xs,.int .u64 k,.int .i64 n].map Arg.sv)=some (.row ((limN n (wth xs*2^k)).map limb) 1 0 n,[none,none,none]):=by
 refine row_intro (fn:=Tryz.f141) (body:=(Tryz.f141).body.get!) (by kernel_rfl) (by kernel_rfl) (by kernel_rfl) (xj (by kernel_rfl)) ?_;unfold Tryz.f141;simp only[Option.get!_some];repeat (first|simp only[go_sem]|simp (disch:=first|exact omg|fail) only[AX]|refine wki ?_)
 have hD1:2^k<=2^31:=xD (by omega) (by omega);refine vp_loop_inv (fun s'=>s'.tmp 1 = .sv (.int .u64 k)/\s'.tmp 2 = .sv (.int .i64 n)/\s'.tmp 7 = .ref 12 0 1 0 n/\s'.tmp 13 = .sv (natV xs)/\s'.tmp 14 = .sv (.int .i64 xs.length) /\
   ∃c:List Nat,∃i h:Nat,s'.obj 12 0=some (c.map limb)/\s'.tmp 15 = .sv (.int .i64 i)/\c.length=n/\okL c/\i<=xs.length/\h<2^k/\wth (xs.take i)*2^k=wth (c.take i)+4294967296^i*h /\
    (i<n->c.getD i 0=h) /\ ∀j,i<j->c.getD j 0=0)
  (fun s=>match s.tmp 15 with | .sv (.int _ i)=>xs.length-i.toNat|_=>0) ?_ ?_
 ·refine⟨rfl,rfl,rfl,rfl,rfl,List.replicate n 0,0,0,rfl,rfl,yR ..,okL_replicate _,by omega,xK (by omega),by simp[wth],fun _ => ?_,fun j _ => ?_⟩ <;>
  ·simp only[xW,List.getElem?_replicate];split<;>rfl
 rintro s' ⟨i1,i2,i7,i13,i14,c,i,h,iO,i15,hc,hok,hi,hh,hv,hci,hz⟩
 by_cases hend:i=xs.length
 ·subst hend;have e:c=limN n (wth xs*2^k):=by
   refine limN_unique hok hc ?_;rw[xq (xQ _)]at hv;rcases xi xs.length n with h1|h1
   ·have e1:wth c=wth (c.take (xs.length+1)):=by rw[xq (by omega)]
    rw[wth_take_succ,hci h1,<- hv]at e1;have:=wth_lt hok;rw[hc]at this;rw[yB (by omega),e1]
   ·have hn2:n=xs.length:=by omega
    subst hn2;rw[hv,xq (by omega),Nat.add_mul_mod_self_left];have:=wth_lt hok;rw[hc]at this;rw[yB this]
  repeat (first|simp only[go_sem,i1,i2,i7,i13,i14,iO,i15]|simp (disch:=first|exact omg|fail) only[AX,i1,i2,i7,i13,i14,iO,i15]|refine wki ?_|refine vpx [] ?_)
  rw[e]
 ·have h1:=getD_lt hx i;have hin:i<n:=by omega
  have hci:=hci hin;generalize hvv:xs.getD i 0=v at *
  have hw1:v*2^k<18446744073709551616:=by
   have:v*2^k<=4294967295*2^31:=xO (by omega) hD1;omega
  have hwq:v*2^k/4294967296<2^k:=by
   rw[yC (by omega),xV (2^k)];exact yq h1 (xK (by omega))
  have hor:h |||v*2^k%4294967296=h+v*2^k%4294967296:=by
   rw[mod_shift hk];exact or_low hh
  have hsum:h+v*2^k%4294967296<4294967296:=by
   rw[mod_shift hk];have e1:v%2^(32-k)+1<=2^(32-k):=yI _ (xK (by omega));have e2:2^k*(v%2^(32-k)+1)<=2^k*2^(32-k):=xI _ e1;rw[<- xM,show k+(32-k)=32 by omega,xY,yD]at e2;omega
  have hval:wth (xs.take (i+1))*2^k=(wth (c.take i)+4294967296^i*(h+v*2^k%4294967296))+4294967296^(i+1)*(v*2^k/4294967296):=by
   rw[wth_take_succ,hvv,xZ,hv,xY,xU,xP (4294967296^i) 4294967296,xP (4294967296^i) v];have:=wE (v*2^k) 4294967296;have e3:4294967296^i*(v*2^k)=4294967296^i*(v*2^k%4294967296)+4294967296^i*(4294967296*(v*2^k/4294967296)):=by
    rw[<- xY,this]
   omega
  generalize hD:2^k=D at *
  generalize hW:v*D=w at *
  by_cases hin2:i+1<n
  ·repeat (first|simp only[go_sem,i1,i2,i7,i13,i14,iO,i15,hci,hvv,hD,hW,hor]|simp (disch:=first|exact omg|fail) only[AX,i1,i2,i7,i13,i14,iO,i15,hci,hvv,hD,hW,hor]|refine wki ?_|refine vpx [] ?_)
   refine⟨⟨(c.set i (h+w%4294967296)).set (i+1) (w/4294967296),i+1,w/4294967296,rfl,rfl,by rw[yN,yN];exact hc,okL_set (okL_set hok _ _ hsum) _ _,by omega,hwq,?_,fun _=>getD_set_self (by rw[yN];omega),fun j hj => ?_⟩,by omega⟩
   ·rw[List.take_set_of_le (xQ _),wth_set_take (by omega),hval]
   ·rw[getD_set_ne',getD_set_ne'];exact hz j (by omega)
  ·repeat (first|simp only[go_sem,i1,i2,i7,i13,i14,iO,i15,hci,hvv,hD,hW,hor]|simp (disch:=first|exact omg|fail) only[AX,i1,i2,i7,i13,i14,iO,i15,hci,hvv,hD,hW,hor]|refine wki ?_|refine vpx [] ?_)
   refine⟨⟨c.set i (h+w%4294967296),i+1,w/4294967296,rfl,rfl,by rw[yN];exact hc,okL_set hok _ _ hsum,by omega,hwq,?_,fun hlt=>absurd hlt hin2,fun j hj => ?_⟩,by omega⟩
   ·rw[wth_set_take (by omega),hval]
   ·rw[getD_set_ne'];exact hz j (by omega)
theorem XL_ok:CallOk Tryz.prog CX.X:=by
 refine tab_row_ok (mu:=CZ.mu) (good:=good) clone_ok good_ok XL fun g args r exps hx => ?_
 unfold XL at hx;split at hx
 ·rename_i hg;have hg:g=141:=Nat.eq_of_beq_eq_true hg;subst hg;split at hx
  ·rename_i s k n;split at hx
   ·rename_i xs hd;split at hx
    ·rename_i hc;obtain⟨rfl,h1,h2⟩:=decV_some hd;cases hx;exact .inr (left_row xs k n h1 h2 hc.1 hc.2.1 hc.2.2)
    ·cases hx
   ·cases hx
  ·cases hx
 ·exact .inl hx
theorem nat_left (xs:List Nat) (k n:Nat) (hx:okL xs) (hl:xs.length<=137438953472) (hk:k<32) (hn:xs.length<=n:=by omega) (hn':n<=xs.length+1:=by omega) :
  FnR CX 141 [natV xs,.int .u64 k,.int .i64 n] ((limN n (wth xs*2^k)).map limb) 1 0 n:=by
 refine⟨1,[none,none,none],?_⟩;have h:XL 141 [.sv (natV xs),.sv (.int .u64 (.ofNat k)),.sv (.int .i64 (.ofNat n))]=some (.row ((limN n (wth xs*2^k)).map limb) 1 0 n,[none,none,none]):=by
  unfold XL;rw[if_pos (by rfl)];simp only[decV_nat hx hl];rw[if_pos ⟨hk,hn,hn'⟩]
 unfold callN;have h4:CX.X 141 ([natV xs,.int .u64 k,.int .i64 n].map Arg.sv)=some (.row ((limN n (wth xs*2^k)).map limb) 1 0 n,[none,none,none]):=h;rw[h4]
end Go.Proofs.YtfknkoeagjonbaaGreat
