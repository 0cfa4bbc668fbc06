/- Part 1 of the proof: the evaluator, contracts of functions and their plain laws (joined by program). No condition. -/
import Derived.WalkKit
import Derived.Orders
import Derived.ChangeKeysEq
set_option linter.unusedVariables false
set_option linter.unusedSimpArgs false
set_option maxRecDepth 100000
namespace Go.Ev
inductive SV where
 |bool (b:Bool)
 |int (k:IntKind) (n:Int)
 |str (s:ByteArray)
 |sl (n:Nat) (cells:List SV)
 |agg (cells:List SV)
 |tup (vs:List SV)
 |mem (cells:List SV)
 |fn (f:FuncId) (cap:List SV)
 |con (v:Value)
 deriving Inhabited
inductive TV where
 |sv (s:SV)
 |nil
 |ptr (d g off:Nat)
 |ref (d g size off n:Nat)
 |rfc (d g size off n c:Nat)
 |pst (d g:Nat)
 |undef
 |skip
 |emp
 |tp (d g size off n:Nat) (r:List SV)
 deriving Inhabited
structure St where
 tmp:Nat->TV
 obj:Nat->Nat->Option (List SV)
 gen:Nat->Nat
 hob:Nat->Nat->Option (List TV)
 up:Nat->TV
 bm:Nat->Option (List SV)
 bw:Bool
def SV.cells:SV->List SV
 | .agg cs=>cs
 |s=>[s]
def isSlV:Value->Bool
 | .slice none _ _=>true
 |_=>false
def SV.one:SV->Bool
 | .agg _=>false
 | .tup _=>false
 | .con v => !isSlV v
 |_=>true
def TV.toSV:TV->Option SV
 | .sv s=>some s
 | .nil=>some (.sl 0 [])
 |_=>none
def allSV:List TV->Option (List SV)
 | []=>some []
 |v::r=>match v.toSV,allSV r with
  |some s,some l=>some (s::l)
  |_,_=>none
def N0:Nat:=1000000
def H0:Nat:=2000000
def INL:Nat:=1000000
def BOR:Nat:=4000000
def OWN:Nat:=5000000
def cst:Value->TV
 | .bool b => .sv (.bool b)
 | .int k n => .sv (.int k n)
 | .string s => .sv (.str s)
 | .slice none 0 0 => .nil
 | .pointer none => .sv (.con (.pointer none))
 | .nilIface => .sv (.con .nilIface)
 |_ => .undef
def optT:Option TV->TV
 |some v=>v
 |none => .undef
def hget:Option (List TV)->Nat->Option TV
 |some ts,i=>ts[i]?
 |none,_=>none
def St.eval (st:St):Operand->TV
 | .tmp t=>st.tmp t
 | .const v=>cst v
 | .func f => .sv (.fn f [])
 | .global _ => .undef
def St.put (st:St) (d:Nat) (v:TV):St:={ st with tmp:=fun t=>if t=d then v else st.tmp t }
def St.putO (st:St) (d:Option Nat) (v:TV):St:=match d with|some d=>st.put d v|none=>st
def St.set (st:St) (d g:Nat) (cs:List SV):St:={ st with obj:=fun d' g'=>if d'=d/\g'=g then some cs else st.obj d' g' }
def St.new (st:St) (d:Nat) (cs:List SV) (v:TV):St:=
 {st with
  tmp:=fun t=>if t=d then v else st.tmp t
  obj:=fun d' g'=>if d'=d/\g'=st.gen d then some cs else st.obj d' g'
  gen:=fun d'=>if d'=d then st.gen d+1 else st.gen d' }
def St.newH (st:St) (d:Nat) (ts:List TV):St:=
 {st with
  tmp:=fun t=>if t=d then .ptr (H0+d) (st.gen (H0+d)) 0 else st.tmp t
  obj:=fun d' g'=>if d'=H0+d/\g'=st.gen (H0+d) then some [] else st.obj d' g'
  hob:=fun d' g'=>if d'=H0+d/\g'=st.gen (H0+d) then some ts else st.hob d' g'
  gen:=fun d'=>if d'=H0+d then st.gen (H0+d)+1 else st.gen d' }
def St.setH (st:St) (d g:Nat) (ts:List TV):St:={ st with hob:=fun d' g'=>if d'=d/\g'=g then some ts else st.hob d' g' }
def TV.frz (d g:Nat) (cs:List SV):TV->TV
 | .ptr d' g' off=>if d'=d/\g'=g then .sv (.mem (cs.drop off)) else .ptr d' g' off
 | .ref d' g' size off n=>if d'=d/\g'=g then .sv (.sl n ((cs.drop off).take (n*size))) else .ref d' g' size off n
 | .rfc d' g' size off n c=>if d'=d/\g'=g then .undef else .rfc d' g' size off n c
 | .pst d' g'=>if d'=d/\g'=g then .undef else .pst d' g'
 | .tp d' g' size off n r=>if d'=d/\g'=g then .undef else .tp d' g' size off n r
 |v=>v
def St.frzd (st:St) (d g:Nat) (cs:List SV):St:={ st with
 tmp:=fun t=>(st.tmp t).frz d g cs
 obj:=fun d' g'=>if d'=d/\g'=g then none else st.obj d' g'
 hob:=fun d' g'=>(st.hob d' g').map fun ts=>ts.map fun t=>t.frz d g cs
 up:=fun t=>(st.up t).frz d g cs }
def St.frz (st:St) (d g:Nat):Option St:=
 if N0<=d then none else
 match st.obj d g with
 |some cs=>some (st.frzd d g cs)
 |none=>none
def frzAll (st:St):List TV->Option St
 | []=>some st
 |v::r=>match v with
  | .ptr d g _ | .ref d g _ _ _=>match st.obj d g with
   |some _=>match st.frz d g with
    |some st'=>frzAll st' r
    |none=>none
   |none=>frzAll st r
  |_=>frzAll st r
def TV.kill (d g:Nat):TV->TV
 | .ptr d' g' off=>if d'=d/\g'=g then .undef else .ptr d' g' off
 | .ref d' g' size off n=>if d'=d/\g'=g then .undef else .ref d' g' size off n
 | .rfc d' g' size off n c=>if d'=d/\g'=g then .undef else .rfc d' g' size off n c
 | .pst d' g'=>if d'=d/\g'=g then .undef else .pst d' g'
 | .tp d' g' size off n r=>if d'=d/\g'=g then .undef else .tp d' g' size off n r
 |v=>v
def shp (P:Program) (t:TypeId):Option (Bool×Nat):=
 match P.underlying t,P.info? t with
 |some (.struct _),some i=>some (true,i.size)
 |some (.array _ _),some i=>some (true,i.size)
 |some _,some i=>some (false,i.size)
 |_,_=>none
def elm (P:Program) (t:TypeId):Option (Nat×Nat×Nat):=
 match P.underlying t with
 |some (.slice e)=>match P.info? e with
  |some i=>some (e,i.size,i.bytes)
  |none=>none
 |_=>none
def fld (P:Program) (t:TypeId) (f:Nat):Option (Nat×Nat×Nat):=
 match P.underlying t with
 |some (.struct fs)=>match fs[f]? with
  |some x=>match P.info? x.type with
   |some i=>some (x.offset,x.type,i.size)
   |none=>none
  |none=>none
 |_=>none
def ofCell:Value->Option SV
 | .bool b=>some (.bool b)
 | .int k n=>some (.int k n)
 | .string s=>some (.str s)
 | .slice none 0 0=>some (.sl 0 [])
 | .pointer none=>some (.con (.pointer none))
 | .nilIface=>some (.con .nilIface)
 |_=>none
def ofCells:List Value->Option (List SV)
 | []=>some []
 |v::r=>match ofCell v,ofCells r with
  |some s,some l=>some (s::l)
  |_,_=>none
def isPtr (P:Program) (t:TypeId):Bool:=
 match P.underlying t with
 |some (.pointer _)=>true
 |_=>false
def isIface (P:Program) (t:TypeId):Bool:=
 match P.underlying t with
 |some (.interface ..)=>true
 |_=>false
def zer (P:Program) (t:TypeId):Option (List SV):=
 match P.info? t with
 |some i=>match i.zero with
  |some v=>ofCells v.cells.toList
  |none=>none
 |none=>none
def zok (P:Program) (t:TypeId):Bool:=
 match P.info? t with
 |some i=>match i.zero with
  |some z=>z.cells.size==i.size
  |none=>false
 |none=>false
def hty (P:Program) (t:TypeId):Bool:=
 match P.underlying t with
 |some (.struct fs)=>match fs.toList.map fun f=>P.underlying f.type with
  | [some (.slice _),some (.int _)]=>true
  | [some (.slice _),some (.slice _),some (.int _)]=>true
  |_=>false
 |_=>false
def ofCellB:Value->Option SV
 | .slice none 0 0=>some (.con (.slice none 0 0))
 |v=>ofCell v
def ofCellsB:List Value->Option (List SV)
 | []=>some []
 |v::r=>match ofCellB v,ofCellsB r with
  |some s,some l=>some (s::l)
  |_,_=>none
def zerB (P:Program) (t:TypeId):Option (List SV):=
 if hty P t then (match P.info? t with
  |some i=>match i.zero with
   |some v=>ofCellsB v.cells.toList
   |none=>none
  |none=>none)
 else zer P t
def isInt (P:Program) (t:TypeId):Option IntKind:=
 match P.underlying t with
 |some (.int k)=>some k
 |_=>none
def isBool (P:Program) (t:TypeId):Bool:=
 match P.underlying t with
 |some .bool=>true
 |_=>false
def loadC (sh:Bool×Nat) (cs:List SV):Option SV:=
 if sh.1 then (if sh.2<=cs.length then some (.agg (cs.take sh.2)) else none) else cs.head?
def splice (cs:List SV) (off:Nat) (new:List SV):List SV:=cs.take off++new++cs.drop (off+new.length)
def cmpSV (op:BinOp) (a b:Int):Option SV:=
 match op with
 | .eql=>some (.bool (a==b))
 | .neq=>some (.bool (a != b))
 | .lss=>some (.bool (decide (a<b)))
 | .leq=>some (.bool (decide (a<=b)))
 | .gtr=>some (.bool (decide (a>b)))
 | .geq=>some (.bool (decide (a>=b)))
 |_=>none
def bitsSV (op:BinOp) (k:IntKind) (x y:Int):Option SV:=
 match op with
 | .and=>some (.int k (k.wrap (BitVec.ofInt k.bits x &&& BitVec.ofInt k.bits y).toNat))
 | .or=>some (.int k (k.wrap (BitVec.ofInt k.bits x |||BitVec.ofInt k.bits y).toNat))
 | .xor=>some (.int k (k.wrap (BitVec.ofInt k.bits x ^^^ BitVec.ofInt k.bits y).toNat))
 | .andNot=>some (.int k (k.wrap (BitVec.ofInt k.bits x &&& ~~~ BitVec.ofInt k.bits y).toNat))
 |_=>none
def intSV (op:BinOp) (k:IntKind) (a b:Int):Option SV:=
 match op with
 | .add=>some (.int k (k.wrap (a+b)))
 | .sub=>some (.int k (k.wrap (a-b)))
 | .mul=>some (.int k (k.wrap (a*b)))
 | .quo=>if b=0 then none else some (.int k (k.wrap (a.tdiv b)))
 | .rem=>if b=0 then none else some (.int k (a.tmod b))
 | .and=>bitsSV .and k a b
 | .or=>bitsSV .or k a b
 | .xor=>bitsSV .xor k a b
 | .andNot=>bitsSV .andNot k a b
 |op=>cmpSV op a b
def strSV (op:BinOp) (x y:ByteArray):Option SV:=
 match op with
 | .add=>if x.size+y.size<=9223372036854775807 then some (.str (x++y)) else none
 | .eql=>some (.bool (x.toList==y.toList))
 | .neq=>some (.bool (!(x.toList==y.toList)))
 | .lss=>some (.bool (Op.bytesLess x.toList y.toList))
 | .leq=>some (.bool (Op.bytesLess x.toList y.toList||x.toList==y.toList))
 | .gtr=>some (.bool (!(Op.bytesLess x.toList y.toList||x.toList==y.toList)))
 | .geq=>some (.bool (!Op.bytesLess x.toList y.toList))
 |_=>none
def nilSV (op:BinOp) (b:Bool):Option SV:=
 match op with
 | .eql=>some (.bool b)
 | .neq=>some (.bool (!b))
 |_=>none
def isSlT (P:Program) (t:TypeId):Bool:=
 match P.underlying t with
 |some (.slice _)=>true
 |_=>false
def isCst:Operand->Bool
 | .const _=>true
 |_=>false
def binSV (P:Program) (k:Bool) (op:BinOp) (t:TypeId):SV->SV->Option SV
 | .int k a,.int k' b=>match op with
  | .shl=>if 0<=b then some (.int k (k.wrap (a*2^(min b.toNat k.bits)))) else none
  | .shr=>if 0<=b then some (.int k (a.fdiv (2^(min b.toNat k.bits)))) else none
  |op=>if k=k' then intSV op k a b else none
 | .bool a,.bool b=>match op with
  | .eql=>if isBool P t then some (.bool (a==b)) else none
  | .neq=>if isBool P t then some (.bool (!(a==b))) else none
  |_=>none
 | .str a,.str b=>strSV op a b
 | .con (.pointer none),.con (.pointer none)=>if isPtr P t then nilSV op true else none
 | .mem _,.con (.pointer none)=>if isPtr P t then nilSV op false else none
 | .con .nilIface,.con .nilIface=>if k&&isIface P t then nilSV op true else none
 |_,_=>none
def conNil (P:Program) (k:Bool) (op:BinOp) (t:TypeId):TV->Option SV
 | .nil=>if k&&isSlT P t then nilSV op false else none
 |_=>none
def ptrSV (P:Program) (op:BinOp) (t:TypeId):TV->TV->Option SV
 | .ptr _ _ _,.sv (.con (.pointer none))=>if isPtr P t then nilSV op false else none
 |_,_=>none
def unSV (op:UnOp):SV->Option SV
 | .int k n=>match op with
  | .neg=>some (.int k (k.wrap (0-n)))
  | .xor=>bitsSV .xor k (if k.signed then -1 else k.max) n
  |_=>none
 | .bool b=>match op with
  | .not=>some (.bool (!b))
  |_=>none
 |_=>none
def bytesOf:List SV->Option (List UInt8)
 | []=>some []
 | .int .u8 n::r=>match bytesOf r with
  |some l=>some (UInt8.ofNat n.toNat::l)
  |none=>none
 |_=>none
def partC (sh:Bool×Nat) (cs:List SV) (off:Nat):Option SV:=
 if sh.1 then (if off+sh.2<=cs.length then some (.agg ((cs.drop off).take sh.2)) else none) else cs[off]?
def plcs (P:Program):List Field->Option (List (Nat×Nat))
 | []=>some []
 |f::r=>match P.info? f.type,plcs P r with
  |some i,some l=>some ((f.offset,i.size)::l)
  |_,_=>none
def plc (P:Program) (t:TypeId):Option (List (Nat×Nat)):=
 match P.underlying t with
 |some (.struct fs)=>plcs P fs.toList
 |_=>none
def fillC (ps:List (Nat×Nat)) (cs:List SV):List (Nat×SV)->Option (List SV)
 | []=>some cs
 |(f,s)::r=>match ps[f]? with
  |some (off,size)=>if s.cells.length=size/\off+size<=cs.length then fillC ps (splice cs off s.cells) r else none
  |none=>none
def elemsC (size:Nat):Nat->List (Nat×SV)->Option (List SV)
 |_,[]=>some []
 |i,(j,s)::r=>if i=j/\s.cells.length=size then match elemsC size (i+1) r with
   |some l=>some (s.cells++l)
   |none=>none
  else none
def partsSV (st:St):List (Nat×Operand)->Option (List (Nat×SV))
 | []=>some []
 |(i,x)::r=>match (st.eval x).toSV,partsSV st r with
  |some s,some l=>some ((i,s)::l)
  |_,_=>none
def oneAll (cs:List SV):Bool:=cs.all SV.one
def litC (P:Program) (st:St) (t:TypeId) (n:Nat) (parts:Array (Nat×Operand)):Option (Nat×List SV):=
 match elm P t,partsSV st parts.toList with
 |some (e,size,_),some ps=>if ps.length=n/\n*size<=65536/\zok P e then match elemsC size 0 ps with
   |some cs=>if oneAll cs then some (size,cs) else none
   |none=>none
  else none
 |_,_=>none
def minSV:List SV->Option SV
 | [.int k a,.int _ b]=>some (.int k (if b<a then b else a))
 |_=>none
def maxSV:List SV->Option SV
 | [.int k a,.int _ b]=>some (.int k (if b>a then b else a))
 |_=>none
def sliceTV (size:Nat) (lo hi:Nat):TV->Option TV
 | .sv (.sl n cs)=>if lo<=hi/\hi<=n then some (.sv (.sl (hi-lo) ((cs.drop (lo*size)).take ((hi-lo)*size)))) else none
 | .nil=>if lo=0/\hi=0 then some .nil else none
 | .ref d g sz off n=>if sz=size/\lo<=hi/\hi<=n/\(lo=0\/lo<hi) then some (.ref d g sz (off+lo*size) (hi-lo)) else if sz=size/\lo=hi/\hi<=n then some (.sv (.sl 0 [])) else none
 | .rfc d g sz off _ c=>if sz=size/\lo<=hi/\hi<=c/\(lo=0\/lo<hi) then some (.rfc d g sz (off+lo*size) (hi-lo) (c-lo)) else if sz=size/\lo=hi/\hi<=c then some (.sv (.sl 0 [])) else none
 | .sv (.con (.slice (some p) n c))=>if lo=0/\hi<=n/\n<=c then some (.sv (.con (.slice (some p) hi c))) else none
 |_=>none
def slice3 (size lo hi mx:Nat):TV->Option TV
 | .rfc _ _ sz _ _ c=>if sz=size/\lo<=hi/\hi<=mx/\mx<=c then some .undef else none
 |_=>none
def capTV:TV->Option Nat
 | .rfc _ _ _ _ _ c=>some c
 |_=>none
def TV.noCap:TV->TV
 | .rfc d g size off n _ => .ref d g size off n
 |v=>v
def lenTV:TV->Option Nat
 | .sv (.sl n _)=>some n
 | .sv (.str s)=>some s.size
 | .nil=>some 0
 | .ref _ _ _ _ n=>some n
 | .rfc _ _ _ _ n _=>some n
 | .sv (.con (.slice (some _) n _))=>some n
 |_=>none
def natTV:TV->Option Nat
 | .sv (.int _ i)=>if 0<=i then some i.toNat else none
 |_=>none
def loNat (st:St):Option Operand->Option Nat
 |some o=>natTV (st.eval o)
 |none=>some 0
def someNat (st:St):Option Operand->Option Nat
 |some o=>natTV (st.eval o)
 |none=>none
def hiNat (st:St) (x:Operand):Option Operand->Option Nat
 |some o=>natTV (st.eval o)
 |none=>lenTV (st.eval x)
def isStr (P:Program) (t:TypeId):Bool:=
 match P.underlying t with
 |some .string=>true
 |_=>false
def hasTy (P:Program) (t:TypeId):Bool:=(P.underlying t).isSome
def sliceV (P:Program) (t:TypeId) (l h:Nat) (v:TV):Option TV:=
 match v with
 | .sv (.str s)=>if isStr P t/\l<=h/\h<=s.size then some (.sv (.str (s.extract l h))) else none
 |v=>match elm P t with
  |some (_,size,_)=>sliceTV size l h v
  |none=>none
def deskL:Option TV->Option TV
 |some (.ptr d g 0)=>some (.pst d g)
 |_=>none
def bldP (P:Program) (st:St) (t:TypeId):List (Nat×Operand)->Option TV
 | [(0,x)]=>match st.eval x,plc P t,zer P t with
  | .ptr d g 0,some [(0,1)],some [_]=>if H0<=d then some (.pst d g) else none
  |_,_,_=>none
 |_=>none
def val (P:Program) (st:St) (op:Op):Option TV:=
 match op with
 | .move x | .assign x=>some (st.eval x)
 | .pick c a b=>match st.eval c with
  | .sv (.bool t)=>some (if t then st.eval a else st.eval b)
  |_=>none
 | .build t parts=>match plc P t,zerB P t,partsSV st parts.toList with
  |some pl,some cs,some ps=>match fillC pl cs ps with
   |some cs'=>some (.sv (.agg cs'))
   |none=>none
  |_,_,_=>bldP P st t parts.toList
 | .load t x=>match shp P t with
  |some sh=>match st.eval x with
   | .ptr d g off=>if H0<=d then (if sh.1 then (if sh.2=1 then deskL (hget (st.hob d g) off) else none) else hget (st.hob d g) off) else match st.obj d g with
    |some cs=>(loadC sh (cs.drop off)).map TV.sv
    |none=>none
   | .sv (.mem cs)=>(loadC sh cs).map TV.sv
   | .sv (.con (.pointer (some ⟨b,off,none⟩)))=>match st.bm b with
    |some cs=>if ((cs.drop off).take sh.2).all SV.one then (loadC sh ((cs.drop off).take sh.2)).map TV.sv else none
    |none=>none
   |_=>none
  |none=>none
 | .binOp op t x y _=>match (st.eval x).toSV,(st.eval y).toSV with
  |some (.con (.slice (some _) _ _)),_=>(conNil P (isCst y) op t (st.eval y)).map TV.sv
  |some a,some b=>(binSV P (isCst y) op t a b).map TV.sv
  |_,_=>(ptrSV P op t (st.eval x) (st.eval y)).map TV.sv
 | .nilCheck x=>match st.eval x with
  | .ptr d g off=>some (.ptr d g off)
  | .sv (.mem cs)=>some (.sv (.mem cs))
  |_=>none
 | .unOp op _ x=>match (st.eval x).toSV with
  |some a=>(unSV op a).map TV.sv
  |none=>none
 | .convert src dst x=>match st.eval x with
  | .sv (.int _ n)=>match isInt P dst with
   |some k=>if hasTy P src then some (.sv (.int k (k.wrap n))) else none
   |none=>none
  | .sv (.str s)=>if hasTy P src/\isStr P dst then some (.sv (.str s)) else none
  | .sv (.sl n cs)=>match P.underlying src,P.underlying dst with
   |some (.slice e),some .string=>match isInt P e,bytesOf cs with
    |some .u8,some l=>if cs.length=n then some (.sv (.str ⟨l.toArray⟩)) else none
    |_,_=>none
   |_,_=>none
  | .nil=>match P.underlying src,P.underlying dst with
   |some (.slice e),some .string=>match isInt P e with
    |some .u8=>some (.sv (.str ⟨#[]⟩))
    |_=>none
   |_,_=>none
  |_=>none
 | .extract x i=>match st.eval x with
  | .sv (.tup vs)=>(vs[i]?).map TV.sv
  | .tp d g size off n r=>if i=0 then some (.ref d g size off n) else (r[i-1]?).map TV.sv
  |_=>none
 | .field t x f=>match st.eval x with
  | .sv (.agg cs)=>match fld P t f with
   |some (off,ty,_)=>match shp P ty with
    |some sh=>(partC sh cs off).map TV.sv
    |none=>none
   |none=>none
  | .pst d g=>match fld P t f with
   |some (0,ty,1)=>match shp P ty with
    |some (false,1)=>some (.ptr d g 0)
    |_=>none
   |_=>none
  |_=>none
 | .fieldAddr t x f=>match fld P t f with
  |some (off,_,size)=>if size=0 then none else match st.eval x with
   | .ptr d g o=>some (.ptr d g (o+off))
   | .sv (.mem cs)=>some (.sv (.mem (cs.drop off)))
   | .sv (.con (.pointer (some ⟨b,o,none⟩)))=>some (.sv (.con (.pointer (some ⟨b,o+off,none⟩))))
   |_=>none
  |none=>none
 | .indexAddr t x ix=>match elm P t,natTV (st.eval ix) with
  |some (_,size,_),some i=>match st.eval x with
   | .sv (.sl n cs)=>if i<n/\0<cs.length then some (.sv (.mem (cs.drop (i*size)))) else none
   | .ref d g sz off n=>if sz=size/\i<n then some (.ptr d g (off+i*size)) else none
   | .sv (.con (.slice (some ⟨b,o,none⟩) n _))=>if i<n then some (.sv (.con (.pointer (some ⟨b,o+i*size,none⟩)))) else none
   |_=>none
  |_,_=>none
 | .index t x ix=>match natTV (st.eval ix),st.eval x with
  |some i,.sv (.str s)=>match P.underlying t with
   |some .string=>match s[i]? with
    |some b=>some (.sv (.int .u8 b.toNat))
    |none=>none
   |_=>none
  |_,_=>none
 | .slice t x lo hi mx=>if mx.isSome then (match elm P t,loNat st lo,someNat st hi,someNat st mx with
  |some (_,size,_),some l,some h,some m=>slice3 size l h m (st.eval x)
  |_,_,_,_=>none) else match loNat st lo,hiNat st x hi with
  |some l,some h=>sliceV P t l h (st.eval x)
  |_,_=>none
 | .makeFunc (.func f) first captured=>if first.size=0 then
   match allSV (captured.toList.map st.eval) with
   |some l=>some (.sv (.fn f l))
   |none=>none
  else none
 | .call { callee := .builtin .len,args,argTypes }=>match args.toList,argTypes.toList with
  | [x],[t]=>match lenTV (st.eval x),st.eval x with
   |some n,.sv (.str _)=>match P.underlying t with
    |some .string=>some (.sv (.int .i64 n))
    |_=>none
   |some n,_=>match elm P t with
    |some _=>some (.sv (.int .i64 n))
    |none=>none
   |none,_=>none
  |_,_=>none
 | .call { callee := .builtin .cap,args,argTypes }=>match args.toList,argTypes.toList with
  | [x],[t]=>match capTV (st.eval x),elm P t with
   |some n,some _=>some (.sv (.int .i64 n))
   |_,_=>none
  |_,_=>none
 | .call { callee := .builtin .min,args,.. }=>match allSV (args.toList.map st.eval) with
  |some l=>(minSV l).map TV.sv
  |none=>none
 | .call { callee := .builtin .max,args,.. }=>match allSV (args.toList.map st.eval) with
  |some l=>(maxSV l).map TV.sv
  |none=>none
 |_=>none
inductive Arg where
 |sv (s:SV)
 |imp (cs:List SV)
 |impref (cs:List SV) (size off n:Nat)
 |st (look:Bool) (s:St) (vs:List TV)
inductive Ret where
 |sv (s:SV)
 |obj (cs:List SV)
 |row (cs:List SV) (size off n:Nat)
 |heap (ts:List TV)
 |st (s:St) (r:TV)
abbrev Callf:=FuncId->List Arg->Option (Ret×List (Option (List SV)))
def impArgs (st:St):List TV->Option (List Arg)
 | []=>some []
 |v::r=>match impArgs st r with
  |none=>none
  |some l=>match v with
   | .ptr d g 0=>if H0<=d then none else match st.obj d g with
    |some cs=>some (.imp cs::l)
    |none=>none
   | .ref d g size off n=>if H0<=d then none else match st.obj d g with
    |some cs=>some (.impref cs size off n::l)
    |none=>none
   |v=>match v.toSV with
    |some s=>some (.sv s::l)
    |none=>none
def impIds:List TV->List (Nat×Nat)
 | []=>[]
 | .ptr d g _::r=>(d,g)::impIds r
 | .ref d g _ _ _::r=>(d,g)::impIds r
 | .rfc d g _ _ _ _::r=>(d,g)::impIds r
 | .pst d g::r=>(d,g)::impIds r
 | .tp d g _ _ _ _::r=>(d,g)::impIds r
 |_::r=>impIds r
def distinct:List (Nat×Nat)->Bool
 | []=>true
 |x::r => !r.contains x&&distinct r
def expAll (st:St):List TV->List (Option (List SV))->Option St
 | [],[]=>some st
 | .ptr d g _::r,some cs::l=>expAll (st.set d g cs) r l
 | .ref d g _ _ _::r,some cs::l=>expAll (st.set d g cs) r l
 | .ptr _ _ _::_,none::_=>none
 | .ref _ _ _ _ _::_,none::_=>none
 | .rfc _ _ _ _ _ _::_,_::_=>none
 | .pst _ _::_,_::_=>none
 | .tp _ _ _ _ _ _::_,_::_=>none
 |_::r,none::l=>expAll st r l
 |_,_=>none
def afterCall (soft:Bool) (dst:Option Nat) (st:St):Option (Ret×List (Option (List SV)))->Option St
 |some (.sv r,_)=>some (st.putO dst (.sv r))
 |some (.obj cs,_)=>if soft then none else match dst with
  |some d=>some (st.new d cs (.ptr d (st.gen d) 0))
  |none=>none
 |some (.row cs size off n,_)=>if soft then some (st.putO dst (.sv (.sl n ((cs.drop off).take (n*size))))) else match dst with
  |some d=>some (st.new d cs (.ref d (st.gen d) size off n))
  |none=>none
 |some (.heap ts,_)=>if soft then none else match dst with
  |some d=>some (st.newH d ts)
  |none=>none
 |some (.st _ _,_)=>none
 |none=>none
def sameA:Option Addr->Option Addr->Bool
 |some ⟨b,o,none⟩,some ⟨c,p,none⟩=>Nat.beq b c&&Nat.beq o p
 |_,_=>false
def sameV:Value->Value->Bool
 | .pointer a,.pointer b=>sameA a b
 | .slice a n c,.slice b m d=>sameA a b&&(Nat.beq n m&&Nat.beq c d)
 |_,_=>false
mutual
def sameSV:SV->SV->Bool
 | .bool a,.bool b=>decide (a=b)
 | .int k a,.int l b=>decide (k=l)&&decide (a=b)
 | .str a,.str b=>decide (a.data.toList=b.data.toList)
 | .sl n a,.sl m b=>decide (n=m)&&sameL a b
 | .agg a,.agg b=>sameL a b
 | .mem a,.mem b=>sameL a b
 | .con a,.con b=>sameV a b
 |_,_=>false
def sameL:List SV->List SV->Bool
 | [],[]=>true
 |a::r,b::s=>sameSV a b&&sameL r s
 |_,_=>false
end
def roCall (call:Callf) (mu:FuncId->Bool) (dst:Option Nat) (g:FuncId) (caps:List SV) (vs:List TV) (st:St):Option St:=
 match vs with
 | .ptr d g' 0::r=>if H0<=d then none else match st.obj d g',allSV r with
  |some cs,some ss=>if mu g then match call g (.imp cs::(ss++caps).map Arg.sv) with
    |some (.sv s,exps)=>match exps.take (r.length+1) with
     |some cs'::e=>if sameL cs' cs&&(e.all Option.isNone&&decide (e.length=r.length)) then some (st.putO dst (.sv s)) else none
     |_=>none
    |_=>none
   else none
  |_,_=>none
 |_=>none
def inCall (call:Callf) (dst:Option Nat) (g:FuncId) (caps:List SV) (vs:List TV) (st:St):Option St:=
 match call g [.st false st (vs++caps.map TV.sv)]with
 |some (.st st' r,_)=>some (st'.putO dst r)
 |_=>none
def inLook (call:Callf) (dst:Option Nat) (g:FuncId) (caps:List SV) (vs:List TV) (st:St):Option St:=
 match call g [.st true st (vs++caps.map TV.sv)]with
 |some (.sv s,_)=>some (st.putO dst (.sv s))
 |_=>none
def conB:SV->Bool
 | .con (.slice (some _) _ _)=>true
 |_=>false
def borB:SV->Bool
 | .agg cs=>cs.any conB
 |s=>conB s
def borC (mu:FuncId->Bool) (soft bw:Bool) (g:FuncId) (ss:List SV):Bool := !soft&&((ss.any borB&&mu (BOR+g))||(bw&&mu (OWN+g)))
def borCall (call:Callf) (mu:FuncId->Bool) (soft:Bool) (dst:Option Nat) (g:FuncId) (ss:List SV) (st:St):Option St:=
 if borC mu soft st.bw g ss then inCall call dst g [] (ss.map TV.sv) st else afterCall soft dst st (call g (ss.map Arg.sv))
def acall (call:Callf) (mu:FuncId->Bool) (soft:Bool) (dst:Option Nat) (f:Operand) (args:List Operand) (st:St):Option St:=
 match st.eval f with
 | .sv (.fn g caps)=>
  match allSV (args.map st.eval) with
  |some ss=>borCall call mu soft dst g (ss++caps) st
  |none=>if soft then (if mu (INL+g) then inLook call dst g caps (args.map st.eval) st else roCall call mu dst g caps (args.map st.eval) st) else
   if mu g then
    if mu (INL+g) then inCall call dst g caps (args.map st.eval) st else
    if distinct (impIds (args.map st.eval)) then
     match impArgs st (args.map st.eval) with
     |some ars=>match call g (ars++caps.map Arg.sv) with
      |some (r,exps)=>match expAll st (args.map st.eval) (exps.take args.length) with
       |some st'=>match r with
        | .sv s=>some (st'.putO dst (.sv s))
        |_=>none
       |none=>none
      |none=>none
     |none=>none
    else none
   else match frzAll st (args.map st.eval) with
    |some st'=>match allSV (args.map st'.eval) with
     |some ss=>borCall call mu soft dst g (ss++caps) st'
     |none=>none
    |none=>none
 |_=>none
def slotC:SV->Option TV
 | .con (.slice none 0 0)=>some .nil
 |s=>if s.one then some (.sv s) else none
def slotsC:List SV->Option (List TV)
 | []=>some []
 |s::r=>match slotC s,slotsC r with
  |some t,some l=>some (t::l)
  |_,_=>none
def hard (P:Program) (dst:Option Nat) (st:St) (op:Op):Option St:=
 match op,dst with
 | .alloc t,some d=>match zer P t with
  |some cs=>some (st.new d cs (.ptr d (st.gen d) 0))
  |none=>none
 | .box _ x,some d=>match (st.eval x).toSV with
  |some s=>if oneAll s.cells then some (st.new d s.cells (.ptr d (st.gen d) 0)) else match slotsC s.cells with
   |some ts=>some (st.newH d ts)
   |none=>none
  |none=>match st.eval x with
   | .pst d' g'=>some (st.newH d [.ptr d' g' 0])
   |_=>none
 | .buildSlice t n parts,some d=>match litC P st t n parts with
  |some (size,cs)=>some (st.new d cs (.ref d (st.gen d) size 0 n))
  |none=>match frzAll st (parts.toList.map fun p=>st.eval p.2) with
   |some st'=>match litC P st' t n parts with
    |some (size,cs)=>some (st'.new d cs (.ref d (st'.gen d) size 0 n))
    |none=>none
   |none=>none
 | .makeSlice t l c,some d=>match elm P t with
  |some (e,size,bytes)=>match natTV (st.eval l),natTV (st.eval c),zer P e with
   |some n,some m,some z=>if n=m/\n<=1099511627776/\bytes<=128/\z.length=size/\0<size then
     some (st.new d ((List.replicate n z).flatten) (.ref d (st.gen d) size 0 n)) else none
   |_,_,_=>none
  |none=>none
 |_,_=>none
def slotT:TV->Bool
 | .sv s=>s.one
 | .nil=>true
 | .ref _ _ _ _ _=>true
 |_=>false
def exactB:SV->Bool
 | .bool _=>true
 | .int _ _=>true
 | .str _=>true
 | .con v => !isSlV v
 | .sl _ []=>true
 |_=>false
def St.setB (st:St) (b:Nat) (cs:List SV):St:={ st with bm:=fun b'=>if b'=b then some cs else st.bm b' }
def store (P:Program) (soft:Bool) (st:St) (t:TypeId) (a x:Operand):Option St:=
 match shp P t,st.eval a with
 |some (_,size),.ptr d g off=>if H0<=d then (match st.hob d g with
   |some ts=>if size=1/\off<ts.length/\slotT (st.eval x)/\soft=false then some (st.setH d g (ts.set off (st.eval x))) else none
   |none=>none) else
  match (st.eval x).toSV with
  |some s=>match st.obj d g with
   |some cs=>if s.cells.length=size/\oneAll s.cells/\off+size<=cs.length then some (st.set d g (splice cs off s.cells)) else none
   |none=>none
  |none=>if soft then none else match st.eval x with
   | .ref d' g' _ _ _=>if d'=d/\g'=g then none else match st.frz d' g' with
    |some st'=>match (st'.eval x).toSV,st'.obj d g with
     |some s,some cs=>if s.cells.length=size/\oneAll s.cells/\off+size<=cs.length then some (st'.set d g (splice cs off s.cells)) else none
     |_,_=>none
    |none=>none
   |_=>none
 |some (_,size),.sv (.con (.pointer (some ⟨b,off,none⟩)))=>match st.bm b,(st.eval x).toSV with
  |some cs,some s=>if st.bw/\soft=false/\s.cells.length=size/\s.cells.all exactB/\off+size<=cs.length then some (st.setB b (splice cs off s.cells)) else none
  |_,_=>none
 |_,_=>none
def moreOf (st:St) (size:Nat):TV->Option (Nat×List SV)
 | .sv (.sl m cs)=>some (m,cs)
 | .nil=>some (0,[])
 | .ref d g sz off m=>if sz=size then match st.obj d g with
   |some cs=>some (m,(cs.drop off).take (m*size))
   |none=>none
  else none
 | .rfc d g sz off m _=>if sz=size then match st.obj d g with
   |some cs=>some (m,(cs.drop off).take (m*size))
   |none=>none
  else none
 | .sv (.con (.slice (some ⟨b,off,none⟩) m _))=>match st.bm b with
   |some cs=>some (m,(cs.drop off).take (m*size))
   |none=>none
 |_=>none
def St.grow (st:St) (d d' g' size n m:Nat) (cs:List SV):St:=
 {tmp:=fun t=>if t=d then .ref d' g' size 0 (n+m) else (st.tmp t).kill d' g'
  obj:=fun d1 g1=>if d1=d'/\g1=g' then some cs else st.obj d1 g1
  gen:=st.gen
  hob:=fun d1 g1=>(st.hob d1 g1).map fun ts=>ts.map fun t=>t.kill d' g'
  up:=fun t=>(st.up t).kill d' g'
  bm:=st.bm
  bw:=st.bw }
def appendTo (st:St) (d size m:Nat) (new:List SV):TV->Option St
 | .nil=>if m=0 then some (st.put d .nil) else
   if m<=274877906944 then some (st.new d new (.ref d (st.gen d) size 0 m)) else none
 | .ref d' g' sz off n=>if m=0 then some (st.put d (.ref d' g' sz off n)) else
   if sz=size/\off=0/\d'<N0/\n+m<=274877906944 then match st.obj d' g' with
    |some cs=>if cs.length=n*size then some (st.grow d d' g' size n m (cs++new)) else none
    |none=>none
   else none
 | .rfc d' g' sz off n c=>if m=0 then some (st.put d (.rfc d' g' sz off n c)) else
   if sz=size/\d'<N0/\n+m<=274877906944 then match st.obj d' g' with
    |some cs=>if off+n*size<=cs.length then (if n+m<=c then some ((st.set d' g' (splice cs (off+n*size) new)).put d (.rfc d' g' size off (n+m) c)) else
      some (st.new d ((cs.drop off).take (n*size)++new) (.ref d (st.gen d) size 0 (n+m)))) else none
    |none=>none
   else none
 |_=>none
def append (P:Program) (dst:Option Nat) (st:St) (t:TypeId) (s x:Operand):Option St:=
 match elm P t,dst with
 |some (e,size,bytes),some d=>match moreOf st size (st.eval x) with
  |some (m,new)=>if new.length=m*size/\bytes<=128/\0<size/\zok P e/\oneAll new then appendTo st d size m new (st.eval s) else none
  |none=>none
 |_,_=>none
def appendZ (P:Program) (dst:Option Nat) (st:St) (t t':TypeId) (s x:Operand):Option St:=
 match elm P t,dst,isInt P t',natTV (st.eval x),st.eval s with
 |some (e,size,bytes),some d,some _,some m,.rfc d' g' sz off n c=>match st.obj d' g',zer P e with
  |some cs,some z=>if sz=size/\c<n+m/\0<m/\n+m<=274877906944/\off+n*size<=cs.length/\bytes<=128/\0<size/\z.length=size/\oneAll z then
    some (st.new d ((cs.drop off).take (n*size)++(List.replicate m z).flatten) (.ref d (st.gen d) size 0 (n+m))) else none
  |_,_=>none
 |_,_,_,_,_=>none
def clearS (P:Program) (st:St) (t:TypeId) (x:Operand):Option St:=
 match elm P t,st.eval x with
 |some (e,size,_),.rfc d g sz off n _=>match st.obj d g,zer P e with
  |some cs,some z=>if sz=size/\d<N0/\off<=cs.length/\z.length=size/\oneAll z/\0<n then some (st.set d g (splice cs off (List.replicate n z).flatten)) else none
  |_,_=>none
 |_,_=>none
def copy (P:Program) (dst:Option Nat) (st:St) (t:TypeId) (s x:Operand):Option St:=
 match elm P t,st.eval s with
 |some (_,size,_),.rfc d g sz off n _=>match moreOf st size (st.eval x),st.obj d g with
  |some (m,new),some cs=>if sz=size/\min n m*size<=new.length/\off<=cs.length/\d<N0/\oneAll (new.take (min n m*size)) then
    some ((st.set d g (splice cs off (new.take (min n m*size)))).putO dst (.sv (.int .i64 (min n m:Nat))))
   else none
  |_,_=>none
 |some (_,size,_),.ref d g sz off n=>match moreOf st size (st.eval x),st.obj d g with
  |some (m,new),some cs=>if sz=size/\new.length=m*size/\m<=n/\off+m*size<=cs.length/\oneAll new then
    some ((st.set d g (splice cs off new)).putO dst (.sv (.int .i64 m)))
   else none
  |_,_=>none
 |_,_=>none
def frzV (P:Program) (dst:Option Nat) (st:St) (op:Op):Option St:=
 match op with
 | .build t parts=>match frzAll st (parts.toList.map fun p=>st.eval p.2) with
  |some st'=>match val P st' (.build t parts) with
   |some v=>some (st'.putO dst v)
   |none=>none
  |none=>none
 | .makeFunc f first captured=>match frzAll st (captured.toList.map st.eval) with
  |some st'=>match val P st' (.makeFunc f first captured) with
   |some v=>some (st'.putO dst v)
   |none=>none
  |none=>none
 | .convert s t x=>match frzAll st [st.eval x]with
  |some st'=>match val P st' (.convert s t x) with
   |some v=>some (st'.putO dst v)
   |none=>none
  |none=>none
 |_=>none
def step (P:Program) (call:Callf) (mu:FuncId->Bool) (soft:Bool) (dst:Option Nat) (op:Op) (st:St):Option St:=
 match op with
 | .call { callee := .value f,args,.. }=>acall call mu soft dst f args.toList st
 | .call { callee := .builtin .append,args,argTypes }=>match args.toList,argTypes.toList with
  | [s,x],[t,t']=>if t=t' then append P dst st t s x else appendZ P dst st t t' s x
  |_,_=>none
 | .call { callee := .builtin .clear,args,argTypes }=>match args.toList,argTypes.toList with
  | [x],[t]=>if dst.isSome then none else clearS P st t x
  |_,_=>none
 | .call { callee := .builtin .copy,args,argTypes }=>match args.toList,argTypes.toList with
  | [s,x],t::_=>copy P dst st t s x
  |_,_=>none
 | .store t a x=>if dst.isSome then none else store P soft st t a x
 | .alloc t=>hard P dst st (.alloc t)
 | .box t x=>hard P dst st (.box t x)
 | .buildSlice t n parts=>if soft then match litC P st t n parts with
   |some (_,cs)=>some (st.putO dst (.sv (.sl n cs)))
   |none=>none
  else hard P dst st (.buildSlice t n parts)
 | .makeSlice t l c=>hard P dst st (.makeSlice t l c)
 |op=>match val P st op with
  |some v=>some (st.putO dst v)
  |none=>if soft then none else frzV P dst st op
def isStore:Op->Bool
 | .store .. => true
 |_=>false
def isLoad:Op->Bool
 | .load .. => true
 |_=>false
def isAlloc:Op->Bool
 | .alloc _=>true
 | .makeSlice .. => true
 |_=>false
def isHard:Op->Bool
 | .box .. => true
 | .call { callee := .builtin .append,.. }=>true
 | .call { callee := .builtin .copy,.. }=>true
 | .call { callee := .builtin .clear,.. }=>true
 |_=>false
def isMem (o:Op):Bool:=isStore o||isLoad o||isAlloc o
def isW (o:Op):Bool:=isStore o||isAlloc o
def calm (x y:Op):Bool := !(isW x&&isMem y) && !(isMem x&&isW y)
def lkT (ops:Array Oper):List Nat:=ops.toList.filterMap fun o=>match o.op,o.dst with
 | .store _ (.tmp s) _,_=>some s
 | .alloc _,some d=>some d
 | .makeSlice ..,some d=>some d
 |_,_=>none
def force {α:Type} (n:Nat) (f:Nat->α):α:=match n with
 |0=>f 0
 |m+1=>f (m+1)
def rowOf (rows:List Nat):List Edge->Nat
 | []=>0
 |e::r=>if Region.binds .any e&&decide (e.on<rows.length) then 2^e.on |||(rows.getD (rows.length-1-e.on) 0 |||rowOf rows r) else rowOf rows r
def rowsOf:List Oper->List Nat->List Nat
 | [],rows=>rows
 |o::r,rows=>force (rowOf rows o.after.toList) fun m=>rowsOf r (m::rows)
def okRowP (ind:Oper->Oper->Bool) (ops:Array Oper) (j m:Nat):Bool:=match ops[j]? with
 |some y=>(y.after.all fun e => !Region.binds .any e||decide (e.on<j))&&(List.range j).all fun i=>m.testBit i||match ops[i]? with
  |some x=>ind x y
  |none=>false
 |none=>false
def okRowsP (ind:Oper->Oper->Bool) (ops:Array Oper):List Nat->Bool
 | []=>true
 |m::r=>okRowP ind ops r.length m&&okRowsP ind ops r
def calmAll (ops:Array Oper):Bool:=(ops.toList.all fun x=>isHard x.op || !isW x.op||ops.toList.all fun y=>isHard y.op || !isMem y.op) ||
 okRowsP (fun x y=>isHard x.op||isHard y.op||calm x.op y.op) ops (rowsOf ops.toList [])
def TV.adr:TV->Option Nat
 | .ptr d _ _=>some d
 |_=>none
def lkv (ops:Array Oper) (op:Op) (a:Option Nat):Bool:=
 calmAll ops||match op,a with
 | .load _ x,some d=>(lkT ops).all fun s=>s != d||(match x with | .tmp t=>t==s|_=>false)
 | .store _ x _,some d=>match x with | .tmp t=>t==d|_=>false
 | .store ..,none=>false
 |_,_=>true
def adrOp (st:St):Op->Option Nat
 | .load _ x=>(st.eval x).adr
 | .store _ x _=>(st.eval x).adr
 | .call { callee := .value _,args,.. }=>match args.toList with
  |x::_=>(st.eval x).adr
  | []=>none
 |_=>none
def noW (ops:Array Oper):Bool:=ops.toList.all fun o => !isW o.op
def isVCall:Op->Bool
 | .call { callee := .value _,.. }=>true
 |_=>false
def soloR (ops:Array Oper):Bool:=match ops.toList.reverse with
 |o::r=>isVCall o.op&&((r.all fun p => !isVCall p.op)&&(match rowsOf ops.toList []with
  |m::_=>Nat.beq m (2^r.length-1)
  | []=>false))
 | []=>false
def muS (mu:FuncId->Bool) (soft:Bool) (ops:Array Oper):FuncId->Bool:=match soft with
 |true=>fun f=>mu f&&noW ops
 |false=>mu
def acallS (call:Callf) (mu:FuncId->Bool) (dst:Option Nat) (f:Operand) (args:List Operand) (st:St):Option St:=
 match st.eval f with
 | .sv (.fn g caps)=>
  match allSV (args.map st.eval) with
  |some ss=>afterCall true dst st (call g ((ss++caps).map Arg.sv))
  |none=>if mu (INL+g) then inCall call dst g caps (args.map st.eval) st else none
 |_=>none
def stepV (call:Callf) (mu:FuncId->Bool) (dst:Option Nat) (op:Op) (st:St):Option St:=match op with
 | .call { callee := .value f,args,.. }=>acallS call mu dst f args.toList st
 |_=>none
def stepS (P:Program) (call:Callf) (mu:FuncId->Bool) (soft:Bool) (ops:Array Oper) (dst:Option Nat) (op:Op) (st:St):Option St:=
 if isVCall op&&(soloR ops&&soft) then stepV call mu dst op st else
 if soft&&isMem op && !lkv ops op (adrOp st op) then none else step P call (muS mu soft ops) soft dst op st
def stepO (P:Program) (call:Callf) (mu:FuncId->Bool) (soft:Bool) (ops:Array Oper) (o:Oper) (st:St):Option St:=
 match o.guard with
 |none=>stepS P call mu soft ops o.dst o.op st
 |some (j,want)=>match (ops[j]?).bind (·.dst) with
  |some t=>match st.tmp t with
   | .sv (.bool b)=>if b=want then stepS P call mu soft ops o.dst o.op st else some (st.putO o.dst .skip)
   | .skip=>some (st.putO o.dst .skip)
   |_=>none
  |none=>none
def execOps (P:Program) (call:Callf) (mu:FuncId->Bool) (soft:Bool) (ops:Array Oper):List Oper->St->Option St
 | [],st=>some st
 |o::r,st=>match stepO P call mu soft ops o st with
  |some st'=>execOps P call mu soft ops r st'
  |none=>none
inductive Ex where
 |normal
 |exit (id:Nat)
 |ret
 |goto (l:Nat)
def argSt (args:List Arg):St:=
 {tmp:=fun t=>match args[t]? with
   |some (.sv s) => .sv s
   |some (.imp _) => .ptr (N0+t) 0 0
   |some (.impref _ size off n) => .ref (N0+t) 0 size off n
   |some (.st _ _ _) => .undef
   |none => .undef
  obj:=fun d g=>if N0<=d/\g=0 then (match args[d-N0]? with
   |some (.imp cs)=>some cs
   |some (.impref cs _ _ _)=>some cs
   |_=>none) else none
  gen:=fun d=>if N0<=d then 1 else 0
  hob:=fun _ _=>none
  up:=fun _ => .undef
  bm:=fun _=>none
  bw:=false }
def St.enter (st:St) (vs:List TV):St:=
 {st with
  tmp:=fun t=>optT vs[t]?
  up:=fun t=>if t%2=0 then st.tmp (t/2) else st.up (t/2) }
def St.leave (st:St):St:=
 {st with
  tmp:=fun t=>st.up (2*t)
  up:=fun t=>st.up (2*t+1) }
def outSV (st:St):TV->Option SV
 | .sv s=>some s
 | .nil=>some (.sl 0 [])
 | .ref d g size off n=>if d<N0 then match st.obj d g with
   |some cs=>some (.sl n ((cs.drop off).take (n*size)))
   |none=>none
  else none
 |_=>none
def resTV (P:Program) (st:St):ResultVar->Option TV
 | .tmp t=>some (st.tmp t)
 | .cell a t=>match shp P t,st.tmp a with
  |some sh,.ptr d g off=>match st.obj d g with
   |some cs=>(loadC sh (cs.drop off)).map TV.sv
   |none=>none
  |_,_=>none
def resSVs (P:Program) (st:St):List ResultVar->Option (List SV)
 | []=>some []
 |r::rs=>match resTV P st r,resSVs P st rs with
  |some v,some l=>match outSV st v with
   |some s=>some (s::l)
   |none=>none
  |_,_=>none
def plnT:TV->Bool
 | .sv s=>s.one
 | .nil=>true
 |_=>false
def retOf (P:Program) (st:St) (rs:List ResultVar):Option Ret:=
 match rs with
 | [r]=>match resTV P st r with
  |some (.ptr d g 0)=>if d<N0 then (st.obj d g).map Ret.obj else if H0<=d then (match st.hob d g with
   |some ts=>if ts.all plnT then some (.heap ts) else none
   |none=>none) else none
  |some v=>(outSV st v).map Ret.sv
  |none=>none
 |rs=>(resSVs P st rs).map fun l=>Ret.sv (.tup l)
def resIs (P:Program) (st:St):List ResultVar->Option (List SV)
 | []=>some []
 |r::rs=>match resTV P st r,resIs P st rs with
  |some v,some l=>match v.toSV with
   |some s=>some (s::l)
   |none=>none
  |_,_=>none
def retI (P:Program) (st:St) (rs:List ResultVar):Option TV:=
 match rs with
 | [r]=>(resTV P st r).map TV.noCap
 | [r,r2]=>match resTV P st r,resIs P st [r2]with
  |some (.ref d g size off n),some l=>if st.bw then some (.tp d g size off n l) else none
  |_,_=>(resIs P st rs).map fun l => .sv (.tup l)
 |rs=>(resIs P st rs).map fun l => .sv (.tup l)
def retRow (P:Program) (st:St) (rs:List ResultVar):Option Ret:=
 match rs with
 | [r]=>match resTV P st r with
  |some (.ref d g size off n)=>if d<N0 then (st.obj d g).map fun cs=>Ret.row cs size off n else none
  |_=>none
 |_=>none
def expOf (st:St) (args:List Arg):List (Option (List SV)):=
 (List.range args.length).map fun (i:Nat)=>match (args[i]?:Option Arg) with
  |some (.imp _)=>st.obj (N0+i) 0
  |some (.impref _ _ _ _)=>st.obj (N0+i) 0
  |_=>none
def rootT:Nat->List Oper->Nat->Nat
 |0,_,t=>t
 |n+1,ops,t=>match ops.find? (fun o=>match o.dst with|some d=>Nat.beq d t|none=>false) with
  |some { op := .move (.tmp s),.. }=>rootT n ops s
  |some { op := .slice _ (.tmp s) _ _ _,.. }=>rootT n ops s
  |_=>t
def rootB (ops:List Oper) (t:Nat):Option Nat:=
 if ops.any (fun o=>match o.dst with|some d=>Nat.beq d (rootT 4 ops t)|none=>false) then none else some (rootT 4 ops t)
def rootsOf (P:Program) (ops:Array Oper):List Nat:=ops.toList.flatMap fun o=>match o.op with
 | .call { callee := .value _,args,argTypes }=>(args.toList.zip argTypes.toList).filterMap fun x=>match x.1 with
  | .tmp t=>if (elm P x.2).isSome then some (rootT 4 ops.toList t) else none
  |_=>none
 | .build _ parts=>parts.toList.filterMap fun x=>match x.2 with
  | .tmp t=>rootB ops.toList t
  |_=>none
 |_=>[]
def ownRef:TV->Bool
 | .ref d _ _ _ _=>decide (d<N0)
 |_=>false
def preFrz (P:Program) (draw:Bool) (ops:Array Oper) (st:St):Option St:=
 if draw then frzAll st (((rootsOf P ops).map st.tmp).filter ownRef) else some st
def jumps (run:Code->St->Option (Ex×St)) (c:Code):Nat->Option (Ex×St)->Option (Ex×St)
 |0,_=>none
 |n+1,r=>match r with
  |some (.goto l,st)=>match findLabel c l with
   |some rest=>jumps run c n (run rest st)
   |none=>some (.goto l,st)
  |r=>r
def lookOp:Op->Bool
 | .move _ | .assign _ | .pick .. | .nilCheck _ | .binOp .. | .unOp .. | .extract .. | .field .. | .fieldAddr .. | .indexAddr .. | .index .. | .slice .. | .load .. => true
 | .call { callee := .builtin .len,.. }=>true
 |_=>false
def readsOf (ops:Array Oper) (o:Oper):List Nat:=
 (o.op.operands.toList.filterMap fun | .tmp t=>some t|_=>none) ++
 (match o.guard with
  |some (g,_)=>((ops[g]?).bind (·.dst)).toList
  |none=>[])
def memOp:Op->Option Operand
 | .load _ a=>some a
 | .store _ a _=>some a
 |_=>none
def apartX (a b:Option Operand):Bool:=
 match a,b with
 |some (.tmp s),some (.tmp t)=>s != t
 |some _,some _=>false
 |_,_=>true
def apart (x y:Op):Bool := !(isStore x||isStore y)||apartX (memOp x) (memOp y)
def indep (ops:Array Oper) (x y:Oper):Bool:=
 !isHard x.op && !isHard y.op && !((isVCall x.op||isVCall y.op)&&soloR ops) &&
 ((match x.dst with
  |some d => !(readsOf ops y).contains d&&y.dst != some d
  |none=>true) &&
 ((match y.dst with
  |some d => !(readsOf ops x).contains d
  |none=>true) &&
 (calm x.op y.op || !calmAll ops&&apart x.op y.op)))
def okRow (ops:Array Oper) (j m:Nat):Bool:=okRowP (indep ops) ops j m
def okRows (ops:Array Oper) (rows:List Nat):Bool:=okRowsP (indep ops) ops rows
def okDraw (ops:Array Oper):Bool:=okRows ops (rowsOf ops.toList [])
def empB:Op->Bool
 | .buildSlice _ n parts=>Nat.beq n 0&&parts.isEmpty
 |_=>false
def appB:Op->Bool
 | .call { callee := .builtin .append,.. }=>true
 |_=>false
def nearB (dst:Option Nat):Op->Bool
 | .call { callee := .builtin .append,args,.. }=>match args.toList,dst with
  | .tmp s::_,some d=>Nat.ble d (s+6)
  |_,_=>false
 |_=>true
def bldB:Op->Bool
 | .build .. => true
 |_=>false
def alB:Op->Bool
 | .alloc _=>true
 |_=>false
def copyR (ops:Array Oper):Bool:=(ops.toList.any fun o=>alB o.op||bldB o.op)&&decide (2<=(ops.toList.filter fun o=>empB o.op).length)
def spcB (o:Oper):Bool:=(empB o.op||(appB o.op||bldB o.op))&&(o.guard.isNone&&nearB o.dst o.op)
def lookX (ops:Array Oper) (o:Oper):Bool:=lookOp o.op||copyR ops&&spcB o
def heavyO (ops:Array Oper) (o:Oper):Bool := !lookX ops o
def lookU (ops:Array Oper) (o:Oper):Bool:=lookX ops o&&o.dst.isSome
def valX (P:Program) (st:St):Op->Option TV
 | .buildSlice t n parts=>if (litC P st t n parts).isSome then some .emp else none
 | .call { callee := .builtin .append,args,argTypes }=>match args.toList,argTypes.toList with
  | [s,x],[t,t']=>if t=t' then match elm P t,st.eval s with
    |some (e,size,bytes),.emp=>match moreOf st size (st.eval x) with
     |some (m,new)=>if new.length=m*size/\bytes<=128/\0<size/\zok P e/\oneAll new/\m<=274877906944 then some (.sv (.sl m new)) else none
     |none=>none
    |_,_=>none
   else none
  |_,_=>none
 | .build t ps=>val P st (.build t ps)
 |_=>none
def stepX (P:Program) (o:Oper) (st:St):Option St:=match valX P st o.op with
 |some v=>some (st.putO o.dst v)
 |none=>none
def stepC (P:Program) (call:Callf) (mu:FuncId->Bool) (ops:Array Oper) (o:Oper) (st:St):Option St:=
 if copyR ops&&spcB o then stepX P o st else stepO P call mu false ops o st
def popc:Nat->Nat->Nat
 |0,_=>0
 |n+1,m=>m%2+popc n (m/2)
def hmask (ops:Array Oper):List Oper->Nat->Nat
 | [],_=>0
 |o::r,k=>(if heavyO ops o then 2^k else 0) |||hmask ops r (k+1)
def keysOf (ops:Array Oper) (hm n:Nat):List Oper->List Nat->List Nat
 | [],_=>[]
 |o::r,rows=>force (rowOf rows o.after.toList) fun m=>(2*popc n (m &&& hm)+(if heavyO ops o then 1 else 0))::keysOf ops hm n r (m::rows)
def atKey (k:Nat):List Nat->Nat->List Nat
 | [],_=>[]
 |x::r,i=>if Nat.beq x k then i::atKey k r (i+1) else atKey k r (i+1)
def ordI (ops:Array Oper):List Nat:=
 (List.range (2*ops.size+2)).flatMap fun k=>atKey k (keysOf ops (hmask ops ops.toList 0) ops.size ops.toList []) 0
def rowB (rows:List Nat) (i k:Nat):Bool:=(rows.getD (rows.length-1-i) 0).testBit k
def ownDst (ops:Array Oper) (rows:List Nat) (i:Nat):Bool:=match ops[i]? with
 |some x=>match x.dst with
  |some d => !(readsOf ops x).contains d&&(List.range ops.size).all fun k=>Nat.beq k i||match ops[k]? with
   |some y=>(y.dst != some d)&&(rowB rows k i || !(readsOf ops y).contains d)
   |none=>false
  |none=>false
 |none=>false
def edgeTo (ops:Array Oper) (i k:Nat):Bool:=match ops[i]? with
 |some o=>o.after.any fun e=>Region.binds .any e&&Nat.beq e.on k
 |none=>true
def indepC (ops:Array Oper) (x y:Oper):Bool:=
 (match x.dst with
  |some d => !(readsOf ops y).contains d&&y.dst != some d
  |none=>true) &&
 (match y.dst with
  |some d => !(readsOf ops x).contains d
  |none=>true)
def pairC (ops:Array Oper) (rows:List Nat) (i k:Nat):Bool := !edgeTo ops i k&&(!rowB rows i k&&(rowB rows k i||match ops[i]?,ops[k]? with
 |some x,some y=>if heavyO ops y then lookU ops x&&(ownDst ops rows i&&(match y.dst with|some d => !(readsOf ops x).contains d|none=>true)) else !heavyO ops x&&indepC ops x y
 |_,_=>false))
def okOrd (ops:Array Oper) (rows:List Nat):List Nat->Bool
 | []=>true
 |i::r => !rowB rows i i&&(match ops[i]? with|some o=>o.after.all (fun e => !Region.binds .any e||(decide (e.on<ops.size) && !Nat.beq e.on i))|none=>false)&&((r.all fun k => !Nat.beq k i&&pairC ops rows i k)&&okOrd ops rows r)
def okDrawC (ops:Array Oper):Bool:=Nat.beq (ordI ops).length ops.size&&(((List.range ops.size).all fun i=>(ordI ops).contains i)&&okOrd ops (rowsOf ops.toList []) (ordI ops))
def inlCall (mu:FuncId->Bool) (o:Oper):Bool:=match o.op with
 | .call { callee := .value (.func g),.. }=>mu (INL+g)
 |_=>false
def markCall (mu:FuncId->Bool) (o:Oper):Bool:=match o.op with
 | .call { callee := .value (.func g),.. }=>mu (INL+INL+g)&&o.guard.isNone
 |_=>false
def looseR (mu:FuncId->Bool) (ops:Array Oper):Bool:=
 ((ops.toList.any fun o=>isHard o.op) && !okDraw ops||(decide (2<=(ops.toList.filter (inlCall mu)).length)&&ops.toList.any fun o=>inlCall mu o&&o.guard.isNone)||ops.toList.any (markCall mu))&&okDrawC ops
def looseI (ops:Array Oper) (i:Nat):List Nat:=match ops[i]? with
 |some o=>if heavyO ops o then (List.range ops.size).filter fun k=>(match ops[k]? with|some p=>lookU ops p|none=>false)&&(!rowB (rowsOf ops.toList []) i k && !rowB (rowsOf ops.toList []) k i) else []
 |none=>[]
def sameTV:TV->TV->Bool
 | .sv a,.sv b=>sameSV a b
 | .nil,.nil=>true
 | .skip,.skip=>true
 | .emp,.emp=>true
 | .ptr d g o,.ptr d' g' o'=>Nat.beq d d'&&(Nat.beq g g'&&Nat.beq o o')
 | .ref d g s o n,.ref d' g' s' o' n'=>Nat.beq d d'&&(Nat.beq g g'&&(Nat.beq s s'&&(Nat.beq o o'&&Nat.beq n n')))
 | .rfc d g s o n c,.rfc d' g' s' o' n' c'=>Nat.beq d d'&&(Nat.beq g g'&&(Nat.beq s s'&&(Nat.beq o o'&&(Nat.beq n n'&&Nat.beq c c'))))
 |_,_=>false
def ckOne (P:Program) (ops:Array Oper) (st s:St) (o:Oper):Bool:=match o.dst with
 |some t=>sameTV (s.tmp t) (st.tmp t)&&(match stepC P (fun _ _=>none) (fun _=>false) ops o s with|some s'=>sameTV (s'.tmp t) (st.tmp t)|none=>false)
 |none=>false
def ckAll (P:Program) (ops:Array Oper) (r:List Nat) (st s:St) (L:List Nat):Bool:=L.all fun k=>r.contains k||match ops[k]? with
 |some o=>ckOne P ops st s o
 |none=>false
def execC (P:Program) (call:Callf) (mu:FuncId->Bool) (ops:Array Oper):List Nat->St->Option St
 | [],st=>some st
 |i::r,st=>match ops[i]? with
  |some o=>match stepC P call mu ops o st with
   |some s=>if ckAll P ops r st s (looseI ops i) then execC P call mu ops r s else none
   |none=>none
  |none=>none
def exec (P:Program) (call:Callf) (mu:FuncId->Bool):Nat->Code->St->Option (Ex×St)
 |0,_,_=>none
 |n+1,c,st=>match c with
  | .skip=>some (.normal,st)
  | .region _ ops draw=>match preFrz P draw ops st with
   |some st0=>match (if draw&&looseR mu ops then execC P call mu ops (ordI ops) st0 else execOps P call mu draw ops ops.toList st0) with
    |some st'=>some (.normal,st')
    |none=>none
   |none=>none
  | .seq a b=>match exec P call mu n a st with
   |some (.normal,st')=>exec P call mu n b st'
   |r=>r
  | .cond x t e=>match st.eval x with
   | .sv (.bool b)=>exec P call mu n (if b then t else e) st
   |_=>none
  | .block id c=>match exec P call mu n c st with
   |some (.exit i,st')=>if i=id then some (.normal,st') else some (.exit i,st')
   |r=>r
  | .loop c=>match exec P call mu n c st with
   |some (.normal,st')=>exec P call mu n (.loop c) st'
   |r=>r
  | .exit id=>some (.exit id,st)
  | .scope c=>jumps (exec P call mu n) c n (exec P call mu n c st)
  | .label _=>some (.normal,st)
  | .goto l=>some (.goto l,st)
  | .ret=>some (.ret,st)
  |_=>none
def okCode (n:Nat):Code->Bool
 | .region _ ops draw=>ops.all (fun o=>match o.dst with|some d=>decide (d<n)|none=>true)&&(!draw||(okDraw ops||(ops.toList.any fun o=>isHard o.op)&&okDrawC ops))
 | .seq a b=>okCode n a&&okCode n b
 | .cond _ a b=>okCode n a&&okCode n b
 | .block _ c=>okCode n c
 | .loop c=>okCode n c
 | .scope c=>okCode n c
 | .rangeFunc .. => false
 |_=>true
def okFn (P : Program) (fn : Func) : Bool := P.follows .mixedOrders && fn.name != "runtime.NumGoroutine" && decide (fn.ntmps <= N0) && (match fn.body with | some c => okCode fn.ntmps c | none => false)
def stq:List Arg->Option (Bool×St×List TV)
 | [.st k s vs]=>some (k,s,vs)
 |_=>none
def lookCode:Code->Bool
 | .region _ ops draw => !draw&&ops.all fun o=>lookOp o.op
 | .seq a b=>lookCode a&&lookCode b
 | .cond _ a b=>lookCode a&&lookCode b
 | .skip=>true
 | .ret=>true
 |_=>false
def resTs (P:Program) (st:St):List ResultVar->List TV
 | []=>[]
 |r::rs=>optT (resTV P st r)::resTs P st rs
def frz2 (b:Bool) (t:TV) (x y:Option St):Option St:=match t with
 | .ref _ _ _ _ _=>if b then x else y
 |_=>y
theorem frz2_or (b:Bool) (t:TV) (x y:Option St):frz2 b t x y=x\/frz2 b t x y=y:=by
 unfold frz2
 split
 ·split
  ·exact .inl rfl
  ·exact .inr rfl
 ·exact .inr rfl
def frzR (P:Program) (st:St) (rs:List ResultVar):Option St:=match rs with
 | [_]=>some st
 | [r,_]=>frz2 st.bw (optT (resTV P st r)) (some st) (frzAll st ((resTs P st rs).filter ownRef))
 |rs=>frzAll st ((resTs P st rs).filter ownRef)
def inlOf (P:Program) (rs:List ResultVar) (k:Bool):Option (Ex×St)->Option (Ret×List (Option (List SV)))
 |some (.ret,st)=>if k then (match retI P st rs with
   |some (.sv s)=>some (.sv s,[])
   |_=>none) else (match frzR P st rs with
   |some s1=>match retI P s1 rs with
    |some r=>some (.st s1.leave r,[])
    |none=>none
   |none=>none)
 |_=>none
def callN (P:Program) (X:Callf) (mu good:FuncId->Bool):Nat->Callf
 |0=>fun _ _=>none
 |n+1=>fun f args=>match stq args with
  |some (k,s,vs)=>match X f args with
   |some r=>some r
   |none=>match P.funcs[f]? with
    |some fn=>if good f then match fn.body with
      |some c=>if vs.length<=fn.ntmps/\(k=true->lookCode c=true) then inlOf P fn.results.toList k (exec P (callN P X mu good n) mu n c (s.enter vs)) else none
      |none=>none
     else none
    |none=>none
  |none=>match X f args with
   |some r=>some r
   |none=>match P.funcs[f]? with
    |some fn=>if good f then match fn.body with
      |some c=>if args.length<=fn.ntmps then match exec P (callN P X mu good n) mu n c (argSt args) with
        |some (.normal,st)=>(retOf P st fn.results.toList).map fun r=>(r,expOf st args)
        |some (.ret,st)=>(retOf P st fn.results.toList).map fun r=>(r,expOf st args)
        |_=>none
       else none
      |none=>none
     else none
    |none=>none
def rowN (P:Program) (X:Callf) (mu good:FuncId->Bool) (n:Nat) (f:FuncId) (args:List Arg):Option (Ret×List (Option (List SV))):=
 match P.funcs[f]? with
 |some fn=>if good f then match fn.body with
   |some c=>if args.length<=fn.ntmps then match exec P (callN P X mu good n) mu n c (argSt args) with
     |some (.normal,st)=>(retRow P st fn.results.toList).map fun r=>(r,expOf st args)
     |some (.ret,st)=>(retRow P st fn.results.toList).map fun r=>(r,expOf st args)
     |_=>none
    else none
   |none=>none
  else none
 |none=>none
end Go.Ev
attribute [go_sem_proc] Nat.reduceEqDiff Nat.reduceAdd Nat.reduceSub Nat.reduceMul Nat.reduceLeDiff Nat.reduceLT reduceIte reduceCtorEq Int.reduceToNat Nat.reducePow Int.reducePow
attribute [go_sem] Nat.succ_ne_zero Go.Ev.elemsC
namespace Go.Ev
inductive Rep (w:World) (M:Nat->Prop):Value->SV->Prop
 |bool (b:Bool):Rep w M (.bool b) (.bool b)
 |int (k:IntKind) (n:Int):Rep w M (.int k n) (.int k n)
 |str (s:ByteArray):Rep w M (.string s) (.str s)
 |sl0 (A:Option Addr) (n cap:Nat) (h:n<=cap):Rep w M (.slice A n cap) (.sl n [])
 |sl (a:Addr) (n cap:Nat) (h:n<=cap) (cells:List SV) (c:Nat->Value) (hb : ¬M a.block)
   (hc : ∀i s,cells[i]?=some s->w.cell? (a.add i)=some (c i)) (hr : ∀i s,cells[i]?=some s->Rep w M (c i) s):Rep w M (.slice (some a) n cap) (.sl n cells)
 |agg (vs:Array Value) (cells:List SV) (hl:vs.size=cells.length) (hr : ∀i s,cells[i]?=some s->Rep w M (vs.getD i undef) s):Rep w M (.agg vs) (.agg cells)
 |tup (vs:Array Value) (cells:List SV) (hl:vs.size=cells.length) (hr : ∀i s,cells[i]?=some s->Rep w M (vs.getD i undef) s):Rep w M (.tuple vs) (.tup cells)
 |mem0 (a:Addr):Rep w M (.pointer (some a)) (.mem [])
 |mem (a:Addr) (cells:List SV) (c:Nat->Value) (hb : ¬M a.block)
   (hc : ∀i s,cells[i]?=some s->w.cell? (a.add i)=some (c i)) (hr : ∀i s,cells[i]?=some s->Rep w M (c i) s):Rep w M (.pointer (some a)) (.mem cells)
 |fn (f:FuncId) (vs:Array Value) (caps:List SV) (hl:vs.size=caps.length) (hr : ∀i s,caps[i]?=some s->Rep w M (vs.getD i undef) s):Rep w M (.func (.func f) #[] vs) (.fn f caps)
 |con (v:Value) (h:v.oneCell'=true):Rep w M v (.con v)
theorem block_add (a:Addr) (n:Nat):(a.add n).block=a.block:=by unfold Addr.add;split<;>rfl
theorem add_add (a:Addr) (i j:Nat):(a.add i).add j=a.add (i+j):=by
 unfold Addr.add
 by_cases hi:i=0<;>by_cases hj:j=0<;>simp[hi,hj,Nat.add_assoc]
theorem add_mk (b o n:Nat):(⟨b,o,none⟩:Addr).add n=⟨b,o+n,none⟩:=by
 unfold Addr.add
 split
 ·rename_i h;subst h;rfl
 ·rfl
theorem add_zero (a:Addr):a.add 0=a:=rfl
section
variable {w w':World} {M M':Nat->Prop}
theorem Rep.mono (hc : ∀p:Addr,p.block<w.heap.size -> ¬M p.block->w'.cell? p=w.cell? p) (hM : ∀b,b<w.heap.size->M' b->M b) :
  ∀ {v:Value} {s:SV},Rep w M v s->Rep w' M' v s:=by
 intro v s h
 induction h with
 |bool b=>exact .bool b
 |int k n=>exact .int k n
 |str s=>exact .str s
 |sl0 A n cap h=>exact .sl0 A n cap h
 |sl a n cap h cells c hb hcell _ ih=>
  cases cells with
  |nil=>exact .sl0 _ n cap h
  |cons x l=>
   have hlt:a.block<w.heap.size:=World.block_lt_of_cell? w a (hcell 0 x rfl)
   exact .sl a n cap h _ c (fun hm=>hb (hM _ hlt hm)) (fun i s hi=>(hc _ (by rw[block_add];exact hlt) (by rw[block_add];exact hb)).trans (hcell i s hi)) ih
 |agg vs cells hl _ ih=>exact .agg vs cells hl ih
 |tup vs cells hl _ ih=>exact .tup vs cells hl ih
 |mem0 a=>exact .mem0 a
 |mem a cells c hb hcell _ ih=>
  cases cells with
  |nil=>exact .mem0 a
  |cons x l=>
   have hlt:a.block<w.heap.size:=World.block_lt_of_cell? w a (hcell 0 x rfl)
   exact .mem a _ c (fun hm=>hb (hM _ hlt hm)) (fun i s hi=>(hc _ (by rw[block_add];exact hlt) (by rw[block_add];exact hb)).trans (hcell i s hi)) ih
 |fn f vs caps hl _ ih=>exact .fn f vs caps hl ih
 |con v h=>exact .con v h
theorem Rep.cells_size {v:Value} {s:SV} (h:Rep w M v s):v.cells.size=s.cells.length:=by
 cases h with
 |con v h=>cases v<;>first|rfl|cases h
 |_=>first|rfl|assumption
theorem Rep.cells {v:Value} {s:SV} (h:Rep w M v s) : ∀i x,s.cells[i]?=some x->Rep w M (v.cells.getD i undef) x:=by
 intro i x hx
 cases h with
 |con _ h=>
  have hc:v.cells = #[v]:=by cases v<;>first|rfl|cases h
  simp only[SV.cells]at hx
  rw[hc]
  cases i with
  |zero=>
   simp only[List.getElem?_cons_zero,Option.some.injEq]at hx
   subst hx
   exact .con v h
  |succ i=>simp at hx
 |agg vs cells hl hr=>exact hr i x hx
 |_=>
  simp only[SV.cells]at hx
  cases i with
  |zero=>
   simp only[List.getElem?_cons_zero,Option.some.injEq]at hx
   subst hx
   simp only[Value.cells,Array.getD_eq_getD_getElem?]
   simp
   constructor<;>assumption
  |succ i=>simp at hx
theorem Rep.one {v:Value} {s:SV} (h:Rep w M v s) (hs:s.one=true):v.oneCell'=true:=by
 cases h<;>first|rfl|assumption|(simp[SV.one]at hs)
theorem Rep.mem_drop {a:Addr} {cells:List SV} (h:Rep w M (.pointer (some a)) (.mem cells)) (k:Nat):Rep w M (.pointer (some (a.add k))) (.mem (cells.drop k)):=by
 cases h with
 |mem0=>rw[List.drop_nil];exact .mem0 _
 |mem _ _ c hb hc hr=>
  exact .mem _ _ (fun i=>c (k+i)) (by rw[block_add];exact hb)
   (fun i s hi=>by rw[add_add];exact hc _ s (by rw[<- hi,List.getElem?_drop]))
   (fun i s hi=>hr _ s (by rw[<- hi,List.getElem?_drop]))
end
def RepT (β:Nat->Nat->Nat) (w:World) (M:Nat->Prop) (v:Value):TV->Prop
 | .sv s=>Rep w M v s
 | .nil=>v = .slice none 0 0
 | .ptr d g off=>v = .pointer (some ⟨β d g,off,none⟩)
 | .ref d g size off n => ∃cap cs ty,v = .slice (some ⟨β d g,off,none⟩) n cap/\n<=cap/\w.heap[β d g]?=some (.cells cs ty (0,0))/\off+cap*size<=cs.size
 | .rfc d g size off n c => ∃cs ty,v = .slice (some ⟨β d g,off,none⟩) n c/\n<=c/\w.heap[β d g]?=some (.cells cs ty (0,0))/\off+c*size<=cs.size
 | .pst d g=>v = .agg #[.pointer (some ⟨β d g,0,none⟩)]
 | .undef=>True
 | .skip=>v=undef
 | .emp => ∃p,v = .slice (some p) 0 0
 | .tp d g size off n r => ∃cap cs ty,∃vs:List Value,v = .tuple (.slice (some ⟨β d g,off,none⟩) n cap::vs).toArray/\n<=cap/\w.heap[β d g]?=some (.cells cs ty (0,0))/\off+cap*size<=cs.size/\vs.length=r.length /\ ∀i s,r[i]?=some s->Rep w M (vs.getD i undef) s
def TV.id:TV->Option (Nat×Nat)
 | .ptr d g _=>some (d,g)
 | .ref d g _ _ _=>some (d,g)
 | .rfc d g _ _ _ _=>some (d,g)
 | .pst d g=>some (d,g)
 | .tp d g _ _ _ _=>some (d,g)
 |_=>none
def Mut (F:Nat->Prop) (β:Nat->Nat->Nat) (st:St) (b:Nat):Prop:=F b \/ ∃d g,(st.obj d g).isSome=true/\β d g=b
structure Ext (I:Nat->Prop) (w0 w:World):Prop where
 os:w.os=w0.os
 tape:w.tape=w0.tape
 output:w.output=w0.output
 size:w0.heap.size<=w.heap.size
 block : ∀b,b<w0.heap.size -> ¬I b->w.heap[b]?=w0.heap[b]?
 imp : ∀b cs ty,b<w0.heap.size->I b->w0.heap[b]?=some (.cells cs ty (0,0)) -> ∃cs',w.heap[b]?=some (.cells cs' ty (0,0))/\cs'.size=cs.size
theorem Ext.refl (I:Nat->Prop) (w:World):Ext I w w:=⟨rfl,rfl,rfl,Nat.le_refl _,fun _ _ _=>rfl,fun _ cs _ _ _ h=>⟨cs,h,rfl⟩⟩
theorem Ext.trans {I:Nat->Prop} {a b c:World} (h:Ext I a b) (k:Ext I b c):Ext I a c:=
 ⟨k.os.trans h.os,k.tape.trans h.tape,k.output.trans h.output,Nat.le_trans h.size k.size,
  fun i hi hn=>(k.block i (Nat.lt_of_lt_of_le hi h.size) hn).trans (h.block i hi hn),
  fun i cs ty hi hI hc=>by
   obtain⟨cs1,h1,e1⟩:=h.imp i cs ty hi hI hc
   obtain⟨cs2,h2,e2⟩:=k.imp i cs1 ty (Nat.lt_of_lt_of_le hi h.size) hI h1
   exact⟨cs2,h2,e2.trans e1⟩⟩
structure Zy where
 z:Nat->Nat
 y:Nat->Value
 old:Prop
 gl:List (Nat×Value)
def GlOk (G:List (Nat×Value)) (w:World) (M:Nat->Prop):Prop := ∀g v,(g,v)∈G->Rep w M (.pointer (some ⟨g,0,none⟩)) (.mem [.con v])
def HobOk (β:Nat->Nat->Nat) (w:World) (M:Nat->Prop) (st:St):Prop := ∀d g ts,st.hob d g=some ts->H0<=d/\st.obj d g=some [] /\ ∃ (cs:Array Value) (ty:TypeId),w.heap[β d g]?=some (.cells cs ty (0,0)) /\
 ∀ (i:Nat) (t:TV),ts[i]?=some t -> ∃v:Value,cs[i]?=some v/\v.oneCell'=true/\RepT β w M v t /\ ∀d' g',t.id=some (d',g')->g'<st.gen d'
def Exact (v:Value) (s:SV):Prop := ∀w M,Rep w M v s
def BmOk (F I:Nat->Prop) (β:Nat->Nat->Nat) (w:World) (st:St):Prop := ∀b cs,st.bm b=some cs->(∀d g,(st.obj d g).isSome=true->β d g≠b) /\ ∃ (us:Array Value) (ty:TypeId) (fz:Nat×Nat),w.heap[b]?=some (.cells us ty fz) /\
 (st.bw=true->fz=(0,0)/\F b/\I b) /\ ∀ (i:Nat) (s:SV),cs[i]?=some s -> ∃v:Value,us[i]?=some v/\(s.one=true->Exact v s)
structure Rel (w0:World) (F I:Nat->Prop) (Z:Zy) (N:Nat) (β:Nat->Nat->Nat) (st:St) (a:Act) (w:World):Prop where
 defers:a.defers=[]
 size:a.tmps.size=N
 tmps : ∀t,RepT β w (Mut F β st) (a.tmps.getD t undef) (st.tmp t)
 ids : ∀t d g,(st.tmp t).id=some (d,g)->g<st.gen d
 objs : ∀d g cells,st.obj d g=some cells -> ∃ (cs:Array Value) (ty:TypeId),w.heap[β d g]?=some (.cells cs ty (0,0)) /\
  ∀ (i:Nat) (s:SV),cells[i]?=some s->s.one=true /\ ∃v:Value,cs[i]?=some v/\Rep w (Mut F β st) v s
 own : ∀d g,(st.obj d g).isSome=true->(d<N0\/H0<=d->w0.heap.size<=β d g\/(Z.old/\I (β d g)))/\(N0<=d->d<H0->I (β d g))
 room:N<=N0
 inj : ∀d g d' g',(st.obj d g).isSome=true->(st.obj d' g').isSome=true->β d g=β d' g'->d=d'/\g=g'
 gens : ∀d g,(st.obj d g).isSome=true->g<st.gen d
 ext:Ext I w0 w
 old : ∀b,F b->b<w0.heap.size
 imps : ∀b,I b->(F b\/Z.old)/\(Z.old -> ¬F b\/(st.bm b).isSome=true)
 pin : ∀d g,N0<=d->d<H0->β d g=Z.z (d-N0)
 ups : ∀t,RepT β w (Mut F β st) (Z.y t) (st.up t)
 uids : ∀t d g,(st.up t).id=some (d,g)->g<st.gen d
 glob:GlOk Z.gl w (Mut F β st)
 hobs:HobOk β w (Mut F β st) st
 bms:BmOk F I β w st
section
variable {w0 w:World} {F I:Nat->Prop} {Z:Zy} {N:Nat} {β:Nat->Nat->Nat} {st:St} {a:Act}
theorem cst_rep (M:Nat->Prop) (v:Value):RepT β w M v (cst v):=by
 unfold cst
 split<;>first|exact .bool _|exact .int _ _|exact .str _|exact .con _ rfl|rfl|trivial
theorem Rel.eval (h:Rel w0 F I Z N β st a w) (x:Operand):RepT β w (Mut F β st) (a.eval x) (st.eval x):=by
 cases x with
 |tmp t=>exact h.tmps t
 |const v=>exact cst_rep _ v
 |global g=>trivial
 |func f=>exact .fn f #[] [] rfl (fun i s hi=>by simp at hi)
theorem cst_id (v:Value):(cst v).id=none:=by
 unfold cst
 split<;>rfl
theorem Rel.evalId (h:Rel w0 F I Z N β st a w) {x:Operand} {d g:Nat} (hx:(st.eval x).id=some (d,g)):g<st.gen d:=by
 cases x with
 |tmp t=>exact h.ids t d g hx
 |const v=>rw[St.eval,cst_id]at hx;cases hx
 |global g=>simp[St.eval,TV.id]at hx
 |func f=>simp[St.eval,TV.id]at hx
theorem toSV_rep {M:Nat->Prop} {v:Value} {t:TV} {s:SV} (h:RepT β w M v t) (hs:t.toSV=some s):Rep w M v s:=by
 cases t with
 |sv x=>simp only[TV.toSV,Option.some.injEq]at hs;subst hs;exact h
 |nil=>simp only[TV.toSV,Option.some.injEq]at hs;subst hs;rw[show v = .slice none 0 0 from h];exact .sl0 _ _ _ (Nat.le_refl _)
 |_=>simp[TV.toSV]at hs
theorem Rel.put (h:Rel w0 F I Z N β st a w) {d:Nat} {v:Value} {t:TV} (hd:d<N) (ht:RepT β w (Mut F β st) v t) (hi : ∀d g,t.id=some (d,g)->g<st.gen d) :
  Rel w0 F I Z N β (st.put d t) (a.put (some d) v) w where
 defers:=h.defers
 size:=by simp[Act.put,h.size]
 tmps:=fun u=>by
  by_cases hu:u=d
  ·subst hu
   simp only[St.put,if_true,Act.put,Array.getD_eq_getD_getElem?]
   rw[Array.getElem?_setIfInBounds_self_of_lt (by rw[h.size];exact hd)]
   exact ht
  ·simp only[St.put,if_neg hu,Act.put,Array.getD_eq_getD_getElem?]
   rw[Array.getElem?_setIfInBounds_ne (fun e=>hu e.symm)]
   have:=h.tmps u
   rw[Array.getD_eq_getD_getElem?]at this
   exact this
 ids:=fun u d' g' hx=>by
  simp only[St.put]at hx
  split at hx
  ·exact hi _ _ hx
  ·exact h.ids u _ _ hx
 objs:=h.objs
 own:=h.own
 room:=h.room
 inj:=h.inj
 gens:=h.gens
 ext:=h.ext
 old:=h.old
 imps:=h.imps
 pin:=h.pin
 ups:=h.ups
 uids:=h.uids
 glob:=h.glob
 hobs:=h.hobs
 bms:=h.bms
theorem Rel.own_or (h:Rel w0 F I Z N β st a w) {d g:Nat} (ho:(st.obj d g).isSome=true):w0.heap.size<=β d g\/I (β d g):=by
 obtain⟨h1,h2⟩:=h.own d g ho
 rcases Nat.lt_or_ge d N0 with hd|hd
 ·exact(h1 (.inl hd)).imp_right fun x=>x.2
 ·rcases Nat.lt_or_ge d H0 with hh|hh
  ·exact .inr (h2 hd hh)
  ·exact(h1 (.inr hh)).imp_right fun x=>x.2
theorem Rel.no_hob (h:Rel w0 F I Z N β st a w) {d g:Nat} (hd:d<H0):st.hob d g=none:=by
 cases e:st.hob d g with
 |none=>rfl
 |some ts=>have:=(h.hobs d g ts e).1;omega
theorem Rel.putO (h:Rel w0 F I Z N β st a w) {dst:Option Nat} {v:Value} {t:TV} (hd : ∀d,dst=some d->d<N) (ht:RepT β w (Mut F β st) v t) (hi : ∀d g,t.id=some (d,g)->g<st.gen d) :
  Rel w0 F I Z N β (st.putO dst t) (a.put dst v) w:=by
 cases dst with
 |none=>exact h
 |some d=>exact h.put (hd d rfl) ht hi
theorem RepT.mono {w':World} {M M':Nat->Prop} {v:Value} {t:TV} (hc : ∀p:Addr,p.block<w.heap.size -> ¬M p.block->w'.cell? p=w.cell? p) (hM : ∀b,b<w.heap.size->M' b->M b)
  (hs : ∀ (b:Nat) cs ty,M b->w.heap[b]?=some (.cells cs ty (0,0)) -> ∃cs',w'.heap[b]?=some (.cells cs' ty (0,0))/\cs'.size=cs.size)
  (hn : ∀ (b:Nat),¬M b->b<w.heap.size->w'.heap[b]?=w.heap[b]?)
  (h:RepT β w M v t):RepT β w' M' v t:=by
 cases t with
 |sv s=>exact Rep.mono hc hM h
 |nil=>exact h
 |ptr d g off=>exact h
 |ref d g size off n=>
  obtain⟨cap,cs,ty,hv,hn',hb,hsz⟩:=h
  by_cases hm:M (β d g)
  ·obtain⟨cs',h',e⟩:=hs _ cs ty hm hb
   exact⟨cap,cs',ty,hv,hn',h',by rw[e];exact hsz⟩
  ·have hlt:β d g<w.heap.size:=by
    rcases Nat.lt_or_ge (β d g) w.heap.size with hh|hh
    ·exact hh
    ·rw[Array.getElem?_eq_none hh]at hb;cases hb
   exact⟨cap,cs,ty,hv,hn',(hn _ hm hlt).trans hb,hsz⟩
 |rfc d g size off n c=>
  obtain⟨cs,ty,hv,hn',hb,hsz⟩:=h
  by_cases hm:M (β d g)
  ·obtain⟨cs',h',e⟩:=hs _ cs ty hm hb
   exact⟨cs',ty,hv,hn',h',by rw[e];exact hsz⟩
  ·have hlt:β d g<w.heap.size:=by
    rcases Nat.lt_or_ge (β d g) w.heap.size with hh|hh
    ·exact hh
    ·rw[Array.getElem?_eq_none hh]at hb;cases hb
   exact⟨cs,ty,hv,hn',(hn _ hm hlt).trans hb,hsz⟩
 |pst d g=>exact h
 |undef=>trivial
 |skip=>exact h
 |emp=>exact h
 |tp d g size off n r=>
  obtain⟨cap,cs,ty,vs,hv,hn',hb,hsz,hl,hr⟩:=h
  have hr' : ∀i s,r[i]?=some s->Rep w' M' (vs.getD i undef) s:=fun i s hi=>Rep.mono hc hM (hr i s hi)
  by_cases hm:M (β d g)
  ·obtain⟨cs',h',e⟩:=hs _ cs ty hm hb
   exact⟨cap,cs',ty,vs,hv,hn',h',by rw[e];exact hsz,hl,hr'⟩
  ·have hlt:β d g<w.heap.size:=by
    rcases Nat.lt_or_ge (β d g) w.heap.size with hh|hh
    ·exact hh
    ·rw[Array.getElem?_eq_none hh]at hb;cases hb
   exact⟨cap,cs,ty,vs,hv,hn',(hn _ hm hlt).trans hb,hsz,hl,hr'⟩
end
section
variable {w0 w:World} {F I:Nat->Prop} {Z:Zy} {N:Nat} {β:Nat->Nat->Nat} {st:St} {a:Act}
theorem Rel.own_imp (h:Rel w0 F I Z N β st a w) {d g:Nat} (ho:(st.obj d g).isSome=true) (hi:I (β d g)) (hz:Z.old) : ¬F (β d g):=fun hf=>by
 rcases (h.imps _ hi).2 hz with h1|h1
 ·exact h1 hf
 ·obtain⟨cs,hc⟩:=Option.isSome_iff_exists.1 h1
  exact(h.bms _ cs hc).1 d g ho rfl
theorem BmOk.to {β':Nat->Nat->Nat} {w':World} {s:St} (h:BmOk F I β w st) (e1:s.bm=st.bm) (e2:s.bw=st.bw)
  (ho : ∀d g,(s.obj d g).isSome=true->((st.obj d g).isSome=true/\β' d g=β d g)\/w.heap.size<=β' d g \/ ∃d' g',(st.obj d' g').isSome=true/\β' d g=β d' g')
  (hb : ∀b,b<w.heap.size->(∀d g,(st.obj d g).isSome=true->β d g≠b)->w'.heap[b]?=w.heap[b]?):BmOk F I β' w' s:=by
 intro b cs hc
 rw[e1]at hc
 obtain⟨h1,us,ty,fz,hu,hw,hall⟩:=h b cs hc
 have hlt:b<w.heap.size:=by
  rcases Nat.lt_or_ge b w.heap.size with hh|hh
  ·exact hh
  ·rw[Array.getElem?_eq_none hh]at hu;cases hu
 refine⟨fun d g h2 e => ?_,us,ty,fz,(hb b hlt h1).trans hu,fun h2=>hw (by rw[<- e2];exact h2),hall⟩
 rcases ho d g h2 with⟨h3,h4⟩|h3|⟨d',g',h3,h4⟩
 ·exact h1 d g h3 (h4▸e)
 ·omega
 ·exact h1 d' g' h3 (h4▸e)
end
end Go.Ev
namespace Go.Ev
open Go.RowKit
section
variable {P:Program} {w:World} {M:Nat->Prop}
theorem run_info {t:TypeId} {i:TypeInfo} (h:P.info? t=some i) (w:World):(typeInfo t).run P w = .ok i w:=by
 simp[typeInfo,h]
theorem run_size {t:TypeId} {i:TypeInfo} (h:P.info? t=some i) (w:World):(sizeOf t).run P w = .ok i.size w:=by
 simp[sizeOf,run_info h]
theorem shp_parts {t:TypeId} {sh:Bool×Nat} (h:shp P t=some sh) : ∃i,P.info? t=some i/\i.size=sh.2 /\ ∀w,(isAgg t).run P w = .ok sh.1 w:=by
 unfold shp at h
 split at h
 ·rename_i fs i hu hi
  cases h
  exact⟨i,hi,rfl,fun w=>by simp[isAgg,run_underlying hu]⟩
 ·rename_i n e i hu hi
  cases h
  exact⟨i,hi,rfl,fun w=>by simp[isAgg,run_underlying hu]⟩
 ·rename_i d i hn1 hn2 hu hi
  cases h
  refine⟨i,hi,rfl,fun w => ?_⟩
  unfold isAgg
  simp only[Sem.run_bind,run_underlying hu,Result.andThen_ok]
  cases d<;>first|rfl|exact(hn1 _ rfl).elim|exact(hn2 _ _ rfl).elim
 ·cases h
theorem load_sound {t:TypeId} {a:Addr} {sh:Bool×Nat} {cells:List SV} {s:SV} (hsh:shp P t=some sh)
  (hc : ∀i x,cells[i]?=some x -> ∃v,w.cell? (a.add i)=some v/\Rep w M v x) (hl:loadC sh cells=some s) :
  ∃v,(loadVar t a).run P w = .ok v w/\Rep w M v s:=by
 obtain⟨i,hi,hsz,hagg⟩:=shp_parts hsh
 unfold loadC at hl
 unfold loadVar
 simp only[Sem.run_bind,hagg,Result.andThen_ok]
 cases hb:sh.1 with
 |true=>
  rw[hb]at hl
  simp only[if_true]at hl
  split at hl
  ·rename_i hle
   cases hl
   have hcell : ∀j,j<sh.2->w.cell? (a.add j)=some ((w.cell? (a.add j)).getD undef):=by
    intro j hj
    obtain⟨v,hv,_⟩:=hc j cells[j] (List.getElem?_eq_getElem (by omega))
    rw[hv];rfl
   refine⟨.agg ((List.range sh.2).map fun j=>(w.cell? (a.add j)).getD undef).toArray,?_,?_⟩
   ·simp only[if_true,Sem.run_bind,run_size hi,hsz,Result.andThen_ok,run_loadCells w a sh.2 _ hcell,Sem.run_pure]
   ·refine .agg _ _ (by simp;omega) fun j x hx => ?_
    have hj:j<sh.2:=by
     rcases Nat.lt_or_ge j sh.2 with h|h
     ·exact h
     ·rw[List.getElem?_eq_none (by simp;omega)]at hx;cases hx
    rw[List.getElem?_take_of_lt hj]at hx
    obtain⟨v,hv,hr⟩:=hc j x hx
    simp only[Array.getD_eq_getD_getElem?,List.getElem?_toArray,List.getElem?_map,List.getElem?_range hj,Option.map_some,Option.getD_some,hv]
    exact hr
  ·cases hl
 |false=>
  rw[hb]at hl
  simp only[Bool.false_eq_true,if_false]at hl
  cases cells with
  |nil=>cases hl
  |cons x l=>
   cases hl
   obtain⟨v,hv,hr⟩:=hc 0 s rfl
   rw[add_zero]at hv
   exact⟨v,by simp[hv],hr⟩
theorem part_sound {t:TypeId} {sh:Bool×Nat} {cells:List SV} {vs:Array Value} {off:Nat} {s:SV} (hsh:shp P t=some sh) (hlen:vs.size=cells.length)
  (hc : ∀ (i:Nat) (x:SV),cells[i]?=some x->Rep w M (vs.getD i undef) x) (hl:partC sh cells off=some s) : ∃v,(part t vs off).run P w = .ok v w/\Rep w M v s:=by
 obtain⟨i,hi,hsz,hagg⟩:=shp_parts hsh
 unfold partC at hl
 unfold part
 simp only[Sem.run_bind,hagg,Result.andThen_ok]
 cases hb:sh.1 with
 |true=>
  rw[hb]at hl
  simp only[if_true]at hl
  split at hl
  ·rename_i hle
   cases hl
   refine⟨.agg (vs.extract off (off+sh.2)),?_,?_⟩
   ·simp[run_size hi,hsz]
   ·refine .agg _ _ (by simp;omega) fun j x hx => ?_
    have hj:j<sh.2:=by
     rcases Nat.lt_or_ge j sh.2 with h|h
     ·exact h
     ·rw[List.getElem?_eq_none (by simp;omega)]at hx;cases hx
    rw[List.getElem?_take_of_lt hj,List.getElem?_drop]at hx
    have:=hc _ x hx
    rw[Array.getD_eq_getD_getElem?]at this ⊢
    rw[Array.getElem?_extract,if_pos (by omega)]
    exact this
  ·cases hl
 |false=>
  rw[hb]at hl
  simp only[Bool.false_eq_true,if_false]at hl
  have hlt:off<vs.size:=by
   rcases Nat.lt_or_ge off vs.size with h|h
   ·exact h
   ·rw[List.getElem?_eq_none (by omega)]at hl;cases hl
  have hr:=hc off s hl
  refine⟨vs[off],by simp[hlt],?_⟩
  simpa[Array.getD_eq_getD_getElem?,Array.getElem?_eq_getElem hlt]using hr
theorem elm_parts {t e size bytes:Nat} (h:elm P t=some (e,size,bytes)):P.underlying t=some (.slice e) /\ ∃i,P.info? e=some i/\i.size=size/\i.bytes=bytes:=by
 unfold elm at h
 split at h
 ·rename_i e' hu
  split at h
  ·rename_i i hi
   cases h
   exact⟨hu,i,hi,rfl,rfl⟩
  ·cases h
 ·cases h
theorem fld_parts {t f off ty size:Nat} (h:fld P t f=some (off,ty,size)) :
  ∃fs x i,P.underlying t=some (.struct fs)/\fs[f]?=some x/\x.offset=off/\x.type=ty/\P.info? ty=some i/\i.size=size:=by
 unfold fld at h
 split at h
 ·rename_i fs hu
  split at h
  ·rename_i x hx
   split at h
   ·rename_i i hi
    cases h
    exact⟨fs,x,i,hu,hx,rfl,rfl,hi,rfl⟩
   ·cases h
  ·cases h
 ·cases h
theorem ofCell_rep {v:Value} {s:SV} (h:ofCell v=some s):Rep w M v s:=by
 unfold ofCell at h
 split at h<;>cases h
 ·exact .bool _
 ·exact .int _ _
 ·exact .str _
 ·exact .sl0 _ _ _ (Nat.le_refl _)
 ·exact .con _ rfl
 ·exact .con _ rfl
theorem ofCell_one {v:Value} {s:SV} (h:ofCell v=some s):s.one=true:=by
 unfold ofCell at h
 split at h<;>cases h<;>rfl
theorem ofCells_get : ∀ {l:List Value} {cs:List SV},ofCells l=some cs->l.length=cs.length /\ ∀ (i:Nat) (x:SV),cs[i]?=some x -> ∃v:Value,l[i]?=some v/\ofCell v=some x
 | [],cs,h=>by cases h;exact⟨rfl,fun i x hx=>by simp at hx⟩
 |v::r,cs,h=>by
  unfold ofCells at h
  split at h
  ·rename_i s l hs hl
   cases h
   obtain⟨h1,h2⟩:=ofCells_get hl
   refine⟨by simp[h1],fun i x hx => ?_⟩
   cases i with
   |zero=>simp only[List.getElem?_cons_zero,Option.some.injEq]at hx;subst hx;exact⟨v,rfl,hs⟩
   |succ i=>simp only[List.getElem?_cons_succ]at hx ⊢;exact h2 i x hx
  ·cases h
theorem zer_parts {t:TypeId} {cs:List SV} (h:zer P t=some cs) : ∃i z,P.info? t=some i/\i.zero=some z/\z.cells.size=cs.length /\
  ∀ (j:Nat) (x:SV),cs[j]?=some x -> ∃v:Value,z.cells[j]?=some v/\ofCell v=some x:=by
 unfold zer at h
 split at h
 ·rename_i i hi
  split at h
  ·rename_i z hz
   obtain⟨h1,h2⟩:=ofCells_get h
   refine⟨i,z,hi,hz,by simpa using h1,fun j x hx => ?_⟩
   obtain⟨v,hv,hx⟩:=h2 j x hx
   exact⟨v,by simpa using hv,hx⟩
  ·cases h
 ·cases h
theorem ofCellB_rep {v:Value} {s:SV} (h:ofCellB v=some s):Rep w M v s:=by
 unfold ofCellB at h
 split at h
 ·cases h;exact .con _ rfl
 ·exact ofCell_rep h
theorem ofCellsB_get : ∀ {l:List Value} {cs:List SV},ofCellsB l=some cs->l.length=cs.length /\ ∀ (i:Nat) (x:SV),cs[i]?=some x -> ∃v:Value,l[i]?=some v/\ofCellB v=some x
 | [],cs,h=>by cases h;exact⟨rfl,fun i x hx=>by simp at hx⟩
 |v::r,cs,h=>by
  unfold ofCellsB at h
  split at h
  ·rename_i s l hs hl
   cases h
   obtain⟨h1,h2⟩:=ofCellsB_get hl
   refine⟨by simp[h1],fun i x hx => ?_⟩
   cases i with
   |zero=>simp only[List.getElem?_cons_zero,Option.some.injEq]at hx;subst hx;exact⟨v,rfl,hs⟩
   |succ i=>simp only[List.getElem?_cons_succ]at hx ⊢;exact h2 i x hx
  ·cases h
theorem zerB_parts {t:TypeId} {cs:List SV} (h:zerB P t=some cs) : ∃i z,P.info? t=some i/\i.zero=some z/\z.cells.size=cs.length /\
  ∀ (j:Nat) (x:SV),cs[j]?=some x -> ∃v:Value,z.cells[j]?=some v/\Rep w M v x:=by
 unfold zerB at h
 split at h
 ·split at h
  ·rename_i i hi
   split at h
   ·rename_i z hz
    obtain⟨h1,h2⟩:=ofCellsB_get h
    refine⟨i,z,hi,hz,by simpa using h1,fun j x hx => ?_⟩
    obtain⟨v,hv,hx⟩:=h2 j x hx
    exact⟨v,by simpa using hv,ofCellB_rep hx⟩
   ·cases h
  ·cases h
 ·obtain⟨i,z,h1,h2,h3,h4⟩:=zer_parts h
  refine⟨i,z,h1,h2,h3,fun j x hx => ?_⟩
  obtain⟨v,hv,ho⟩:=h4 j x hx
  exact⟨v,hv,ofCell_rep ho⟩
theorem run_zero {t:TypeId} {i:TypeInfo} {z:Value} (h:P.info? t=some i) (hz:i.zero=some z) (w:World):(zeroValue t).run P w = .ok z w:=by
 simp[zeroValue,run_info h,hz]
theorem fold_set (off:Nat) : ∀ (l:List Value) (s:Nat) (cs:Array Value),
  ((l.zipIdx s).foldl (fun cs (p:Value×Nat)=>cs.setIfInBounds (off+p.2) p.1) cs).size=cs.size /\
  ∀k,((l.zipIdx s).foldl (fun cs (p:Value×Nat)=>cs.setIfInBounds (off+p.2) p.1) cs)[k]? =
   if off+s<=k/\k<off+s+l.length/\k<cs.size then l[k-(off+s)]? else cs[k]?
 | [],s,cs=>⟨rfl,fun k=>by rw[if_neg (by simp;omega)];rfl⟩
 |v::r,s,cs=>by
  obtain⟨h1,h2⟩:=fold_set off r (s+1) (cs.setIfInBounds (off+s) v)
  refine⟨by simpa using h1,fun k => ?_⟩
  simp only[List.zipIdx_cons,List.foldl_cons,h2,Array.size_setIfInBounds,List.length_cons]
  by_cases hk:k=off+s
  ·subst hk
   rw[if_neg (by omega)]
   by_cases hs:off+s<cs.size
   ·rw[Array.getElem?_setIfInBounds_self_of_lt hs,if_pos ⟨by omega,by omega,hs⟩,Nat.sub_self]
    rfl
   ·rw[if_neg (by omega)]
    rw[Array.getElem?_eq_none (by simp;omega),Array.getElem?_eq_none (by omega)]
  ·rw[Array.getElem?_setIfInBounds_ne (fun e=>hk e.symm)]
   by_cases hs:off+s<=k/\k<off+s+(r.length+1)/\k<cs.size
   ·rw[if_pos (by omega),if_pos hs,show k-(off+s)=(k-(off+(s+1)))+1 from by omega,List.getElem?_cons_succ]
   ·rw[if_neg (by omega),if_neg hs]
def RepC (w:World) (M:Nat->Prop) (vs:Array Value) (cs:List SV):Prop:=vs.size=cs.length /\ ∀ (i:Nat) (x:SV),cs[i]?=some x->Rep w M (vs.getD i undef) x
theorem splice_len {cs new:List SV} {off:Nat} (h:off+new.length<=cs.length):(splice cs off new).length=cs.length:=by
 unfold splice
 simp only[List.length_append,List.length_take,List.length_drop]
 omega
theorem splice_getW {cs new:List SV} {off:Nat} (h:off<=cs.length) (k:Nat) :
  (splice cs off new)[k]?=if off<=k/\k<off+new.length then new[k-off]? else cs[k]?:=by
 unfold splice
 by_cases h1:k<off
 ·rw[if_neg (by omega),List.append_assoc,List.getElem?_append_left (by simp;omega),List.getElem?_take_of_lt h1]
 ·by_cases h2:k<off+new.length
  ·rw[if_pos ⟨by omega,h2⟩,List.append_assoc,List.getElem?_append_right (by simp;omega)]
   simp only[List.length_take]
   rw[List.getElem?_append_left (by omega)]
   congr 1
   omega
  ·rw[if_neg (by omega),List.getElem?_append_right (by simp;omega)]
   simp only[List.length_append,List.length_take,List.getElem?_drop]
   congr 1
   omega
theorem splice_get {cs new:List SV} {off:Nat} (h:off+new.length<=cs.length) (k:Nat) :
  (splice cs off new)[k]?=if off<=k/\k<off+new.length then new[k-off]? else cs[k]?:=splice_getW (by omega) k
theorem fill_sound {ps:List (Nat×Nat)} {place:Nat->Option (Nat×Nat)} (hp : ∀i,place i=ps[i]?) : ∀ {parts:List (Nat×Value)} {qs:List (Nat×SV)} {vs:Array Value} {cs cs':List SV},
  parts.length=qs.length->(∀ (i:Nat) (x:Nat×SV),qs[i]?=some x -> ∃v:Value,parts[i]?=some (x.1,v)/\Rep w M v x.2)->RepC w M vs cs->fillC ps cs qs=some cs' ->
  ∃vs',Instr.fill place vs parts=some vs'/\RepC w M vs' cs'
 | [],[],vs,cs,cs',_,_,hv,h=>by cases h;exact⟨vs,rfl,hv⟩
 |(i,v)::r,(j,s)::q,vs,cs,cs',hl,hr,hv,h=>by
  obtain⟨v',hv',hrep⟩:=hr 0 (j,s) rfl
  simp only[List.getElem?_cons_zero,Option.some.injEq,Prod.mk.injEq]at hv'
  obtain⟨rfl,rfl⟩:=hv'
  unfold fillC at h
  split at h
  ·rename_i off size hps
   split at h
   ·rename_i hcond
    obtain⟨hs1,hs2⟩:=hcond
    have hsz:v.cells.size=size:=hrep.cells_size.trans hs1
    obtain⟨hf1,hf2⟩:=fold_set off v.cells.toList 0 vs
    unfold Instr.fill
    simp only[hp,hps]
    rw[if_neg (by simp[hsz,hv.1];omega)]
    have hfold:v.cells.zipIdx.foldl (fun cs (x:Value×Nat)=>match x with|(c,j)=>cs.setIfInBounds (off+j) c) vs =
      (v.cells.toList.zipIdx 0).foldl (fun cs (p:Value×Nat)=>cs.setIfInBounds (off+p.2) p.1) vs:=by
     rw[<- Array.foldl_toList]
     simp[Array.toList_zipIdx]
    rw[hfold]
    refine fill_sound hp (by simpa using hl) (fun k x hx=>by simpa using hr (k+1) x (by simpa using hx)) ⟨by rw[hf1,hv.1,splice_len (by omega)],fun k x hx => ?_⟩ h
    rw[Array.getD_eq_getD_getElem?,hf2]
    rw[splice_get (by omega)]at hx
    simp only[Nat.add_zero,Array.length_toList]
    by_cases hk:off<=k/\k<off+s.cells.length
    ·rw[if_pos hk]at hx
     rw[if_pos (by rw[hsz,hv.1];omega)]
     have:=hrep.cells _ x hx
     rw[Array.getD_eq_getD_getElem?]at this
     simpa using this
    ·rw[if_neg hk]at hx
     rw[if_neg (by rw[hsz];omega)]
     have:=hv.2 k x hx
     rw[Array.getD_eq_getD_getElem?]at this
     exact this
   ·cases h
  ·cases h
 | [],_::_,_,_,_,hl,_,_,_=>by simp at hl
 |_::_,[],_,_,_,hl,_,_,_=>by simp at hl
theorem run_places : ∀ {fs:List Field} {ps:List (Nat×Nat)},plcs P fs=some ps -> ∀w,
  (fs.mapM fun f=>(do pure (f.offset,<- sizeOf f.type):Sem (Nat×Nat))).run P w = .ok ps w
 | [],ps,h,w=>by cases h;rfl
 |f::r,ps,h,w=>by
  unfold plcs at h
  split at h
  ·rename_i i l hi hl
   cases h
   simp only[List.mapM_cons,Sem.run_bind,run_size hi,Result.andThen_ok,Sem.run_pure,run_places hl]
  ·cases h
end
end Go.Ev
namespace Go.Ev
open Go.RowKit
section
variable {P:Program} {w0 w:World} {F I:Nat->Prop} {Z:Zy} {N:Nat} {β:Nat->Nat->Nat} {st:St} {a:Act}
def Gives (P:Program) (F:Nat->Prop) (β:Nat->Nat->Nat) (st:St) (w:World) (m:Sem Value) (t:TV):Prop:=
 ∃v,m.run P w = .ok v w/\RepT β w (Mut F β st) v t /\ ∀d g,t.id=some (d,g)->g<st.gen d
theorem Gives.sv {m:Sem Value} {v:Value} {s:SV} (hr:m.run P w = .ok v w) (h:Rep w (Mut F β st) v s):Gives P F β st w m (.sv s):=
 ⟨v,hr,h,fun d g hi=>by simp[TV.id]at hi⟩
theorem rep_int {M:Nat->Prop} {v:Value} {k:IntKind} {n:Int} (h:Rep w M v (.int k n)):v = .int k n:=by cases h;rfl
theorem rep_bool {M:Nat->Prop} {v:Value} {b:Bool} (h:Rep w M v (.bool b)):v = .bool b:=by cases h;rfl
theorem rep_str {M:Nat->Prop} {v:Value} {s:ByteArray} (h:Rep w M v (.str s)):v = .string s:=by cases h;rfl
theorem cmp_sound {op:BinOp} {x y:Int} {s:SV} (h:cmpSV op x y=some s) : ∃v,(Op.intCmp op x y).run P w = .ok v w /\ ∀M,Rep w M v s:=by
 unfold cmpSV at h
 split at h<;>first|(cases h;exact⟨_,rfl,fun M => .bool _⟩)|cases h
theorem bits_sound {op:BinOp} {k:IntKind} {x y:Int} {s:SV} (h:bitsSV op k x y=some s) : ∃v,(Op.intBits op k x y).run P w = .ok v w /\ ∀M,Rep w M v s:=by
 unfold bitsSV at h
 split at h<;>first|(cases h;exact⟨_,rfl,fun M => .int _ _⟩)|cases h
theorem str_sound {op:BinOp} {x y:ByteArray} {s:SV} (h:strSV op x y=some s) : ∃v,(Op.stringOp op x y).run P w = .ok v w /\ ∀M,Rep w M v s:=by
 unfold strSV at h
 split at h
 ·split at h
  ·rename_i hle
   cases h
   refine⟨.string (x++y),?_,fun M => .str _⟩
   unfold Op.stringOp
   simp only[IntKind.max,IntKind.signed,IntKind.bits]
   rw[if_neg (by simp;omega)]
   rfl
  ·cases h
 all_goals first|(cases h;exact⟨_,rfl,fun M => .bool _⟩)|cases h
theorem int_sound {op:BinOp} {k:IntKind} {x y:Int} {s:SV} (h:intSV op k x y=some s) (h1:op ≠ .shl) (h2:op ≠ .shr) {t:TypeId} :
  ∃v,(binOp op t (.int k x) (.int k y)).run P w = .ok v w /\ ∀M,Rep w M v s:=by
 unfold intSV at h
 cases op<;>simp only[binOp,ne_eq,not_true_eq_false,if_false]<;>dsimp only at h
 case add=>cases h;exact⟨_,rfl,fun M => .int _ _⟩
 case sub=>cases h;exact⟨_,rfl,fun M => .int _ _⟩
 case mul=>cases h;exact⟨_,rfl,fun M => .int _ _⟩
 case quo=>
  split at h
  ·cases h
  ·rename_i hy
   cases h
   refine⟨_,?_,fun M => .int _ _⟩
   simp only[Op.intDiv,if_neg hy]
   rfl
 case rem=>
  split at h
  ·cases h
  ·rename_i hy
   cases h
   refine⟨_,?_,fun M => .int _ _⟩
   simp only[Op.intDiv,if_neg hy]
   rfl
 case and=>exact bits_sound h
 case or=>exact bits_sound h
 case xor=>exact bits_sound h
 case andNot=>exact bits_sound h
 case shl=>exact absurd rfl h1
 case shr=>exact absurd rfl h2
 all_goals exact cmp_sound h
theorem isBool_under {t:TypeId} (h:isBool P t=true):P.underlying t=some .bool:=by
 unfold isBool at h
 split at h
 ·assumption
 ·cases h
theorem isInt_under {t:TypeId} {k:IntKind} (h:isInt P t=some k):P.underlying t=some (.int k):=by
 unfold isInt at h
 split at h
 ·cases h;assumption
 ·cases h
theorem isPtr_under {t:TypeId} (h:isPtr P t=true) : ∃e,P.underlying t=some (.pointer e):=by
 unfold isPtr at h
 split at h
 ·rename_i e he;exact⟨e,he⟩
 ·cases h
theorem isIface_under {t:TypeId} (h:isIface P t=true) : ∃e,P.underlying t=some (.interface e):=by
 unfold isIface at h
 split at h
 ·rename_i e he;exact⟨e,he⟩
 ·cases h
theorem bool_eq {t:TypeId} (h:isBool P t=true) (x y:Bool) (w:World):(Op.equal t (.bool x) (.bool y)).run P w = .ok (x==y) w:=by
 have hd : ∀d:Nat,(Op.equalIn (d+1) t (.bool x) (.bool y)).run P w = .ok (x==y) w:=fun d=>by
  simp[Op.equalIn,run_underlying (isBool_under h)]
 exact hd 9999
theorem ptr_eq {t:TypeId} (h:isPtr P t=true) (x y:Option Addr) (hn:y=none) (w:World):(Op.equal t (.pointer x) (.pointer y)).run P w = .ok x.isNone w:=by
 subst hn
 obtain⟨e,he⟩:=isPtr_under h
 have hd : ∀d:Nat,(Op.equalIn (d+1) t (.pointer x) (.pointer none)).run P w = .ok x.isNone w:=fun d=>by
  cases x<;>simp[Op.equalIn,run_underlying he]
 exact hd 9999
theorem iface_eq {t:TypeId} (h:isIface P t=true) (w:World):(Op.equal t .nilIface .nilIface).run P w = .ok true w:=by
 obtain⟨e,he⟩:=isIface_under h
 have hd : ∀d:Nat,(Op.equalIn (d+1) t .nilIface .nilIface).run P w = .ok true w:=fun d=>by
  simp[Op.equalIn,run_underlying he]
 exact hd 9999
theorem ptr_nil_sound {op:BinOp} {t:TypeId} {A:Option Addr} {s:SV} (hp:isPtr P t=true) (h:nilSV op A.isNone=some s) (p q:Operand) :
  ∃v,(do eqGuard op t p q (.pointer A) (.pointer none);binOp op t (.pointer A) (.pointer none):Sem Value).run P w = .ok v w /\ ∀M,Rep w M v s:=by
 have hg:(eqGuard op t p q (.pointer A) (.pointer none)).run P w = .ok () w:=by
  unfold eqGuard;split<;>rfl
 simp only[Sem.run_bind,hg,Result.andThen_ok]
 unfold nilSV at h
 split at h
 ·cases h
  exact⟨.bool A.isNone,by simp only[binOp,Sem.run_bind,ptr_eq hp A none rfl w,Result.andThen_ok,Sem.run_pure],fun M => .bool _⟩
 ·cases h
  exact⟨.bool (!A.isNone),by simp only[binOp,Sem.run_bind,ptr_eq hp A none rfl w,Result.andThen_ok,Sem.run_pure],fun M => .bool _⟩
 ·cases h
theorem isSlT_under {t:TypeId} (h:isSlT P t=true) : ∃e,P.underlying t=some (.slice e):=by
 unfold isSlT at h
 split at h
 ·rename_i e he;exact⟨e,he⟩
 ·cases h
theorem sl_nil_sound {op:BinOp} {t:TypeId} {A:Addr} {n c:Nat} {s:SV} (hp:isSlT P t=true) (h:nilSV op false=some s) (p q:Operand) :
  ∃v,(do eqGuard op t p q (.slice (some A) n c) (.slice none 0 0);binOp op t (.slice (some A) n c) (.slice none 0 0):Sem Value).run P w = .ok v w /\ ∀M,Rep w M v s:=by
 have hg:(eqGuard op t p q (.slice (some A) n c) (.slice none 0 0)).run P w = .ok () w:=by
  unfold eqGuard;split<;>rfl
 have he:(Op.equal t (.slice (some A) n c) (.slice none 0 0)).run P w = .ok false w:=by
  obtain⟨e,he⟩:=isSlT_under hp
  have hd : ∀d:Nat,(Op.equalIn (d+1) t (.slice (some A) n c) (.slice none 0 0)).run P w = .ok false w:=fun d=>by
   simp[Op.equalIn,run_underlying he]
  exact hd 9999
 simp only[Sem.run_bind,hg,Result.andThen_ok]
 unfold nilSV at h
 split at h
 ·cases h
  exact⟨.bool false,by simp only[binOp,Sem.run_bind,he,Result.andThen_ok,Sem.run_pure],fun M => .bool _⟩
 ·cases h
  exact⟨.bool (!false),by simp only[binOp,Sem.run_bind,he,Result.andThen_ok,Sem.run_pure],fun M => .bool _⟩
 ·cases h
theorem bin_sound {op:BinOp} {t:TypeId} {M:Nat->Prop} {x y:Value} {a b s:SV} (ha:Rep w M x a) (hb:Rep w M y b) (p q:Operand) (h:binSV P (isCst q) op t a b=some s) :
  ∃v,(do eqGuard op t p q x y;binOp op t x y:Sem Value).run P w = .ok v w /\ ∀M,Rep w M v s:=by
 unfold binSV at h
 split at h
 ·rename_i k n k' m
  cases rep_int ha
  cases rep_int hb
  have hg:(eqGuard op t p q (.int k n) (.int k' m)).run P w = .ok () w:=by
   unfold eqGuard;split<;>rfl
  simp only[Sem.run_bind,hg,Result.andThen_ok]
  split at h
  ·split at h
   ·rename_i hm
    cases h
    refine⟨_,?_,fun M => .int _ _⟩
    simp only[binOp,Op.shift,if_neg (show ¬m<0 by omega)]
    rfl
   ·cases h
  ·split at h
   ·rename_i hm
    cases h
    refine⟨_,?_,fun M => .int _ _⟩
    simp only[binOp,Op.shift,if_neg (show ¬m<0 by omega)]
    rfl
   ·cases h
  ·rename_i h1 h2
   split at h
   ·rename_i hk
    subst hk
    exact int_sound h (fun e=>h1 e) (fun e=>h2 e)
   ·cases h
 ·rename_i n m
  cases rep_bool ha
  cases rep_bool hb
  have hg:(eqGuard op t p q (.bool n) (.bool m)).run P w = .ok () w:=by
   unfold eqGuard;split<;>rfl
  simp only[Sem.run_bind,hg,Result.andThen_ok]
  split at h
  ·split at h
   ·rename_i hb
    cases h
    exact⟨.bool (n==m),by simp only[binOp,Sem.run_bind,bool_eq hb,Result.andThen_ok,Sem.run_pure],fun M => .bool _⟩
   ·cases h
  ·split at h
   ·rename_i hb
    cases h
    exact⟨.bool (!(n==m)),by simp only[binOp,Sem.run_bind,bool_eq hb,Result.andThen_ok,Sem.run_pure],fun M => .bool _⟩
   ·cases h
  ·cases h
 ·rename_i n m
  cases rep_str ha
  cases rep_str hb
  have hg:(eqGuard op t p q (.string n) (.string m)).run P w = .ok () w:=by
   unfold eqGuard;split<;>rfl
  simp only[Sem.run_bind,hg,Result.andThen_ok]
  have:binOp op t (.string n) (.string m)=Op.stringOp op n m:=by cases op<;>rfl
  rw[this]
  exact str_sound h
 ·cases ha
  cases hb
  split at h
  ·rename_i hp
   exact ptr_nil_sound (A:=none) hp h p q
  ·cases h
 ·rename_i cs
  cases hb
  split at h
  ·rename_i hp
   cases ha with
   |mem0 A=>exact ptr_nil_sound (A:=some A) hp h p q
   |mem A _ _ _ _ _=>exact ptr_nil_sound (A:=some A) hp h p q
  ·cases h
 ·cases ha
  cases hb
  split at h
  ·rename_i hk
   simp only[Bool.and_eq_true]at hk
   obtain⟨hq,hi⟩:=hk
   have hg:(eqGuard op t p q .nilIface .nilIface).run P w = .ok () w:=by
    cases q with
    |const v=>
     cases op<;>cases p<;>rfl
    |_=>cases hq
   simp only[Sem.run_bind,hg,Result.andThen_ok]
   unfold nilSV at h
   split at h
   ·cases h
    exact⟨.bool true,by simp only[binOp,Sem.run_bind,iface_eq hi w,Result.andThen_ok,Sem.run_pure],fun M => .bool _⟩
   ·cases h
    exact⟨.bool (!true),by simp only[binOp,Sem.run_bind,iface_eq hi w,Result.andThen_ok,Sem.run_pure],fun M => .bool _⟩
   ·cases h
  ·cases h
 ·cases h
theorem un_sound {op:UnOp} {M:Nat->Prop} {x:Value} {a s:SV} (ha:Rep w M x a) (h:unSV op a=some s) : ∃v,(Op.unary op x).run P w = .ok v w /\ ∀M,Rep w M v s:=by
 unfold unSV at h
 split at h
 ·cases rep_int ha
  split at h
  ·cases h;exact⟨_,rfl,fun M => .int _ _⟩
  ·exact bits_sound h
  ·cases h
 ·cases rep_bool ha
  split at h
  ·cases h;exact⟨_,rfl,fun M => .bool _⟩
  ·cases h
 ·cases h
theorem extract_sound {x:Value} {M:Nat->Prop} {vs:List SV} {i:Nat} {s:SV} (h:Rep w M x (.tup vs)) (hi:vs[i]?=some s) : ∃v,(Instr.extract x i).run P w = .ok v w/\Rep w M v s:=by
 cases h with
 |tup us _ hl hr=>
  have hlt:i<us.size:=by
   rcases Nat.lt_or_ge i us.size with h|h
   ·exact h
   ·rw[List.getElem?_eq_none (by omega)]at hi;cases hi
  have:=hr i s hi
  refine⟨us[i],by simp[Instr.extract,hlt],?_⟩
  simpa[Array.getD_eq_getD_getElem?,hlt]using this
theorem natTV_rep {M:Nat->Prop} {v:Value} {t:TV} {n:Nat} (h:RepT β w M v t) (ht:natTV t=some n) : ∃k,v = .int k (n:Int):=by
 unfold natTV at ht
 split at ht
 ·rename_i k i
  split at ht
  ·rename_i hi
   cases ht
   refine⟨k,(rep_int h).trans ?_⟩
   rw[Int.toNat_of_nonneg hi]
  ·cases ht
 ·cases ht
theorem bytes_get : ∀ {cs:List SV} {l:List UInt8},bytesOf cs=some l->l.length=cs.length /\ ∀ (i:Nat) (s:SV),cs[i]?=some s -> ∃n:Int,s = .int .u8 n/\l[i]?=some (UInt8.ofNat n.toNat)
 | [],l,h=>by cases h;exact⟨rfl,fun i s hi=>by simp at hi⟩
 |c::r,l,h=>by
  unfold bytesOf at h
  split at h
  ·rename_i heq;cases heq
  ·rename_i n r' heq
   injection heq with e1 e2
   subst e1 e2
   split at h
   ·rename_i l' hl
    cases h
    obtain⟨h1,h2⟩:=bytes_get hl
    refine⟨by simp[h1],fun i s hi => ?_⟩
    cases i with
    |zero=>simp only[List.getElem?_cons_zero,Option.some.injEq]at hi;subst hi;exact⟨n,rfl,rfl⟩
    |succ i=>simp only[List.getElem?_cons_succ]at hi ⊢;exact h2 i s hi
   ·cases h
  ·cases h
end
end Go.Ev
namespace Go.Ev
open Go.RowKit
section
variable {P:Program} {w0 w:World} {F I:Nat->Prop} {Z:Zy} {N:Nat} {β:Nat->Nat->Nat} {st:St} {a:Act}
theorem parts_rep (h:Rel w0 F I Z N β st a w) : ∀ {ps:List (Nat×Operand)} {qs:List (Nat×SV)},partsSV st ps=some qs ->
  ps.length=qs.length /\ ∀ (i:Nat) (x:Nat×SV),qs[i]?=some x -> ∃v:Value,(ps.map fun p=>(p.1,a.eval p.2))[i]?=some (x.1,v)/\Rep w (Mut F β st) v x.2
 | [],qs,e=>by cases e;exact⟨rfl,fun i x hx=>by simp at hx⟩
 |(i,x)::r,qs,e=>by
  unfold partsSV at e
  split at e
  ·rename_i s l hs hl
   cases e
   obtain⟨h1,h2⟩:=parts_rep h hl
   refine⟨by simp[h1],fun j y hy => ?_⟩
   cases j with
   |zero=>
    simp only[List.getElem?_cons_zero,Option.some.injEq]at hy
    subst hy
    exact⟨a.eval x,rfl,toSV_rep (h.eval x) hs⟩
   |succ j=>simp only[List.getElem?_cons_succ,List.map_cons]at hy ⊢;exact h2 j y hy
  ·cases e
theorem allSV_rep (h:Rel w0 F I Z N β st a w) : ∀ {xs:List Operand} {ss:List SV},allSV (xs.map st.eval)=some ss ->
  xs.length=ss.length /\ ∀ (i:Nat) (s:SV),ss[i]?=some s -> ∃v:Value,(xs.map a.eval)[i]?=some v/\Rep w (Mut F β st) v s
 | [],ss,e=>by cases e;exact⟨rfl,fun i s hs=>by simp at hs⟩
 |x::r,ss,e=>by
  simp only[List.map_cons]at e
  unfold allSV at e
  split at e
  ·rename_i s l hs hl
   cases e
   obtain⟨h1,h2⟩:=allSV_rep h hl
   refine⟨by simp[h1],fun j y hy => ?_⟩
   cases j with
   |zero=>
    simp only[List.getElem?_cons_zero,Option.some.injEq]at hy
    subst hy
    exact⟨a.eval x,rfl,toSV_rep (h.eval x) hs⟩
   |succ j=>simp only[List.getElem?_cons_succ,List.map_cons]at hy ⊢;exact h2 j y hy
  ·cases e
theorem Rel.obj_cells (h:Rel w0 F I Z N β st a w) {d g:Nat} {cs:List SV} (hc:st.obj d g=some cs) (off:Nat) :
  ∀ (i:Nat) (x:SV),(cs.drop off)[i]?=some x -> ∃v,w.cell? ((⟨β d g,off,none⟩:Addr).add i)=some v/\Rep w (Mut F β st) v x:=by
 intro i x hx
 obtain⟨vs,ty,hb,hall⟩:=h.objs d g cs hc
 rw[List.getElem?_drop]at hx
 obtain⟨_,v,hv,hr⟩:=hall _ x hx
 exact⟨v,by rw[add_mk,cell_of_row w _ _ vs ty (0,0) hb];exact hv,hr⟩
theorem mem_cells {M:Nat->Prop} {v:Value} {cs:List SV} (h:Rep w M v (.mem cs)) :
  ∃a:Addr,v = .pointer (some a) /\ ∀ (i:Nat) (x:SV),cs[i]?=some x -> ∃u,w.cell? (a.add i)=some u/\Rep w M u x:=by
 cases h with
 |mem0 a=>exact⟨a,rfl,fun i x hx=>by simp at hx⟩
 |mem a _ c _ hc hr=>exact⟨a,rfl,fun i x hx=>⟨_,hc i x hx,hr i x hx⟩⟩
theorem place_sound {x:Field} {i:TypeInfo} (hi:P.info? x.type=some i) (hs:i.size≠0) (p:Addr) (w:World):(fieldPlace p x).run P w = .ok (p.add x.offset) w:=by
 simp[fieldPlace,run_size hi,hs]
theorem slice_len {M:Nat->Prop} {v:Value} {n:Nat} {cs:List SV} (h:Rep w M v (.sl n cs)) : ∃A cap,v = .slice A n cap/\n<=cap:=by
 cases h with
 |sl0 A n cap hn=>exact⟨A,cap,rfl,hn⟩
 |sl a n cap hn=>exact⟨_,cap,rfl,hn⟩
theorem bytes_str {M:Nat->Prop} {v:Value} {n:Nat} {cs:List SV} {l:List UInt8} (h:Rep w M v (.sl n cs)) (hl:bytesOf cs=some l) (hn:cs.length=n) :
  (Conv.bytesToString v).run P w = .ok (.string ⟨l.toArray⟩) w:=by
 obtain⟨e1,e2⟩:=bytes_get hl
 have key : ∀ (f:Value->ByteArray->Sem (ForInStep ByteArray)),(∀n s,f (.int .u8 n) s=pure (ForInStep.yield (s.push (UInt8.ofNat n.toNat)))) ->
   ∀ (us:List Value) (l:List UInt8) (s:ByteArray),us.length=l.length->(∀ (i:Nat) (b:UInt8),l[i]?=some b -> ∃n:Int,us[i]?=some (.int .u8 n)/\b=UInt8.ofNat n.toNat) ->
   (forIn us.toArray s f).run P w = .ok ⟨s.data++l.toArray⟩ w:=by
  intro f hf us
  induction us with
  |nil=>intro l s hl _;cases l with
   |nil=>simp
   |cons=>simp at hl
  |cons u r ih=>
   intro l s hl hg
   cases l with
   |nil=>simp at hl
   |cons b l=>
    obtain⟨n,hu,hb⟩:=hg 0 b rfl
    simp only[List.getElem?_cons_zero,Option.some.injEq]at hu
    subst hu
    have:=ih l (s.push b) (by simpa using hl) (fun i c hc=>by simpa using hg (i+1) c (by simpa using hc))
    simp only[List.forIn_toArray]at this ⊢
    simp only[List.forIn_cons,hf,Sem.run_bind,Sem.run_pure,Result.andThen_ok,<- hb]
    rw[this]
    congr 2
    simp[ByteArray.push]
 cases h with
 |sl0 A n' cap hn' =>
  subst hn
  cases l with
  |cons=>simp at e1
  |nil=>
   cases A with
   |none=>simp[Conv.bytesToString];rfl
   |some a=>simp[Conv.bytesToString,loadCells,loadCellsFrom];rfl
 |sl p n' cap hn' _ c hb hc hr=>
  subst hn
  have hload:=run_loadCells (P:=P) w p cs.length c (fun j hj=>hc j cs[j] (List.getElem?_eq_getElem hj))
  unfold Conv.bytesToString
  simp only[Sem.run_bind,hload,Result.andThen_ok]
  rw[key _ (fun n s=>rfl) ((List.range cs.length).map c) l ByteArray.empty (by simp[e1]) (fun i b hb=>by
   have hi:i<cs.length:=by
    rcases Nat.lt_or_ge i cs.length with h|h
    ·exact h
    ·rw[List.getElem?_eq_none (by omega)]at hb;cases hb
   obtain⟨n,hn,hl'⟩:=e2 i cs[i] (List.getElem?_eq_getElem hi)
   have hr':=hr i cs[i] (List.getElem?_eq_getElem hi)
   rw[hn]at hr'
   refine⟨n,by rw[List.getElem?_map,List.getElem?_range hi,Option.map_some,rep_int hr'],?_⟩
   rw[hl']at hb
   exact(Option.some.inj hb).symm)]
  simp[Result.andThen]
end
end Go.Ev
namespace Go.Ev
open Go.RowKit
section
variable {P:Program} {w0 w:World} {F I:Nat->Prop} {Z:Zy} {N:Nat} {β:Nat->Nat->Nat} {st:St} {a:Act}
def Does (P:Program) (F:Nat->Prop) (β:Nat->Nat->Nat) (st:St) (w:World) (m:Sem Next) (t:TV):Prop:=
 ∃v,m.run P w = .ok (.value v) w/\RepT β w (Mut F β st) v t /\ ∀d g,t.id=some (d,g)->g<st.gen d
theorem Does.sv {m:Sem Next} {v:Value} {s:SV} (hr:m.run P w = .ok (.value v) w) (h:Rep w (Mut F β st) v s):Does P F β st w m (.sv s):=
 ⟨v,hr,h,fun d g hi=>by simp[TV.id]at hi⟩
theorem rep_con {w:World} {M:Nat->Prop} {v u:Value} (h:Rep w M v (.con u)):v=u:=by
 cases h
 rfl
theorem map_some {α γ:Type} {o:Option α} {f:α->γ} {y:γ} (h:o.map f=some y) : ∃x,o=some x/\f x=y:=by
 cases o with
 |none=>cases h
 |some x=>exact⟨x,rfl,by simpa using h⟩
theorem build_sound (h:Rel w0 F I Z N β st a w) {t:TypeId} {parts:Array (Nat×Operand)} {pl:List (Nat×Nat)} {cs cs':List SV} {ps:List (Nat×SV)}
  (hp:plc P t=some pl) (hz:zerB P t=some cs) (hq:partsSV st parts.toList=some ps) (hf:fillC pl cs ps=some cs') (dst:Option Nat) (ty:TypeId) (pos:String) (af:Array Edge) (gd:Option (Nat×Bool)) :
  Does P F β st w (execOp a.eval ⟨dst,.build t parts,ty,pos,af,gd⟩) (.sv (.agg cs')):=by
 unfold plc at hp
 split at hp
 ·rename_i fs hu
  obtain⟨i,z,hi,hzz,hsz,hcell⟩:=zerB_parts (w:=w) (M:=Mut F β st) hz
  obtain⟨hl,hpr⟩:=parts_rep h hq
  obtain⟨vs',hfill,hsz',hrep⟩:=fill_sound (w:=w) (M:=Mut F β st) (place:=fun i=>(pl.toArray)[i]?) (fun i=>by simp) (parts:=parts.toList.map fun p=>(p.1,a.eval p.2)) (vs:=z.cells)
   (by simp[hl]) hpr ⟨hsz,fun j x hx=>by
    obtain⟨v,hv,ho⟩:=hcell j x hx
    rw[Array.getD_eq_getD_getElem?,hv]
    exact ho⟩ hf
  refine Does.sv (v := .agg vs') ?_ (.agg _ _ hsz' hrep)
  have hpl:(fs.mapM fun f=>(do pure (f.offset,<- sizeOf f.type):Sem (Nat×Nat))).run P w = .ok pl.toArray w:=by
   rw[Array.mapM_eq_mapM_toList,Sem.run_map,run_places hp]
   rfl
  have hparts:(parts.map fun (x:Nat×Operand)=>(x.1,a.eval x.2)).toList=parts.toList.map fun p=>(p.1,a.eval p.2):=by simp
  simp only[execOp,Instr.build,Sem.run_bind,run_zero hi hzz,Result.andThen_ok,run_underlying hu]
  erw [hpl]
  simp only[Result.andThen_ok]
  have:(parts.map fun (x:Nat×Operand)=>match x with|(i,x)=>(i,a.eval x)).toList=parts.toList.map fun p=>(p.1,a.eval p.2):=by simp
  rw[this,hfill]
  rfl
 ·cases hp
theorem bldP_sound (h:Rel w0 F I Z N β st a w) {t:TypeId} {parts:Array (Nat×Operand)} {v:TV} (hv:bldP P st t parts.toList=some v) (dst:Option Nat) (ty:TypeId) (pos:String) (af:Array Edge) (gd:Option (Nat×Bool)) :
  Does P F β st w (execOp a.eval ⟨dst,.build t parts,ty,pos,af,gd⟩) v:=by
 unfold bldP at hv
 split at hv
 ·rename_i x hps
  split at hv
  ·rename_i d g c hx hp hz
   split at hv
   ·cases hv
    have hpl0:=hp
    unfold plc at hp
    split at hp
    ·rename_i fs hu
     obtain⟨i,z,hi,hzz,hsz,_⟩:=zer_parts hz
     have hpt:a.eval x = .pointer (some ⟨β d g,0,none⟩):=by
      have:=h.eval x
      rw[hx]at this
      exact this
     have hid:g<st.gen d:=by
      have hx':(st.eval x).id=some (d,g):=by rw[hx];rfl
      exact h.evalId hx'
     refine⟨.agg #[.pointer (some ⟨β d g,0,none⟩)],?_,rfl,fun d' g' e=>by
      simp only[TV.id,Option.some.injEq,Prod.mk.injEq]at e
      obtain⟨rfl,rfl⟩:=e
      exact hid⟩
     have hpl:(fs.mapM fun f=>(do pure (f.offset,<- sizeOf f.type):Sem (Nat×Nat))).run P w = .ok #[(0,1)] w:=by
      rw[Array.mapM_eq_mapM_toList,Sem.run_map,run_places hp]
      rfl
     have hparts:(parts.map fun (x:Nat×Operand)=>match x with|(i,x)=>(i,a.eval x)).toList=[(0,.pointer (some ⟨β d g,0,none⟩))]:=by
      rw[Array.toList_map,hps]
      simp[hpt]
     obtain⟨c0,hc0⟩ : ∃c0,z.cells = #[c0]:=by
      have:z.cells.size=1:=hsz
      match hzc:z.cells with
      |⟨[]⟩=>rw[hzc]at this;simp at this
      |⟨[c]⟩=>exact⟨c,rfl⟩
      |⟨_::_::_⟩=>rw[hzc]at this;simp at this
     simp only[execOp,Instr.build,Sem.run_bind,run_zero hi hzz,Result.andThen_ok,run_underlying hu]
     erw [hpl]
     simp only[Result.andThen_ok]
     rw[hparts,hc0]
     rfl
    ·cases hp
   ·cases hv
  ·cases hv
 ·cases hv
theorem loadOp_sound {t:TypeId} {x:Operand} {sh:Bool×Nat} (hsh:shp P t=some sh) {p:Addr} (hx:a.eval x = .pointer (some p)) {cells:List SV} {s:SV}
  (hc : ∀ (i:Nat) (y:SV),cells[i]?=some y -> ∃v,w.cell? (p.add i)=some v/\Rep w (Mut F β st) v y) (hl:loadC sh cells=some s)
  (dst:Option Nat) (ty:TypeId) (pos:String) (af:Array Edge) (gd:Option (Nat×Bool)):Does P F β st w (execOp a.eval ⟨dst,.load t x,ty,pos,af,gd⟩) (.sv s):=by
 obtain⟨v,hv,hr⟩:=load_sound (P:=P) hsh hc hl
 refine Does.sv (v:=v) ?_ hr
 simp[execOp,hx,Instr.loadAt,Instr.sureAddr,hv]
theorem slice_runC {t e:TypeId} {i:TypeInfo} (hu:P.underlying t=some (.slice e)) (hi:P.info? e=some i) {A:Option Addr} {n cap l hh:Nat} (h1:l<=hh) (h2:hh<=cap)
  {lo hi':Option Value} (hlo:(lo=none/\l=0) \/ ∃k,lo=some (.int k (l:Int))) (hhi:(hi'=none/\hh=n) \/ ∃k,hi'=some (.int k (hh:Int))) :
  (Instr.sliceAt t (.slice A n cap) lo hi' none).run P w = .ok (.slice (if cap=l then A else A.map (·.add (l*i.size))) (hh-l) (cap-l)) w:=by
 have hb:(Instr.sliceBounds true n cap lo hi' none).run P w = .ok (l,hh,cap) w:=by
  have hH : ∀ (k:IntKind) (y:Nat) (code:BoundsCode),hh<=y->(Instr.sliceBound (.int k (hh:Int)) y code).run P w = .ok hh w:=fun k y code hy=>by
   simp[Instr.sliceBound,asIntOf,hy]
  have hL : ∀ (k:IntKind) (y:Nat) (code:BoundsCode),l<=y->(Instr.sliceBound (.int k (l:Int)) y code).run P w = .ok l w:=fun k y code hy=>by
   simp[Instr.sliceBound,asIntOf,hy]
  rcases hhi with⟨rfl,rfl⟩|⟨kh,rfl⟩<;>rcases hlo with⟨rfl,rfl⟩|⟨kl,rfl⟩
  ·rfl
  ·simp only[Instr.sliceBounds,Sem.run_bind,Sem.run_pure,Result.andThen_ok,hL kl _ _ h1]
  ·simp only[Instr.sliceBounds,Sem.run_bind,Sem.run_pure,Result.andThen_ok,hH kh _ _ h2]
  ·simp only[Instr.sliceBounds,Sem.run_bind,Sem.run_pure,Result.andThen_ok,hH kh _ _ h2,hL kl _ _ h1]
 simp only[Instr.sliceAt,Instr.slice,Sem.run_bind,run_underlying hu,Result.andThen_ok,hb,run_size hi,Sem.run_pure]
theorem slice_run {t e:TypeId} {i:TypeInfo} (hu:P.underlying t=some (.slice e)) (hi:P.info? e=some i) {A:Option Addr} {n cap l hh:Nat} (hn:n<=cap) (h1:l<=hh) (h2:hh<=n)
  {lo hi':Option Value} (hlo:(lo=none/\l=0) \/ ∃k,lo=some (.int k (l:Int))) (hhi:(hi'=none/\hh=n) \/ ∃k,hi'=some (.int k (hh:Int))) :
  (Instr.sliceAt t (.slice A n cap) lo hi' none).run P w = .ok (.slice (if cap=l then A else A.map (·.add (l*i.size))) (hh-l) (cap-l)) w:=
 slice_runC hu hi h1 (Nat.le_trans h2 hn) hlo hhi
theorem slice3_run {t e:TypeId} {i:TypeInfo} (hu:P.underlying t=some (.slice e)) (hi:P.info? e=some i) {A:Option Addr} {n cap l hh m:Nat} (h1:l<=hh) (h2:hh<=m) (h3:m<=cap)
  {lo:Option Value} {kh km:IntKind} (hlo:(lo=none/\l=0) \/ ∃k,lo=some (.int k (l:Int))) :
  (Instr.sliceAt t (.slice A n cap) lo (some (.int kh (hh:Int))) (some (.int km (m:Int)))).run P w = .ok (.slice (if m=l then A else A.map (·.add (l*i.size))) (hh-l) (m-l)) w:=by
 have hb:(Instr.sliceBounds true n cap lo (some (.int kh (hh:Int))) (some (.int km (m:Int)))).run P w = .ok (l,hh,m) w:=by
  have hS : ∀ (k:IntKind) (x y:Nat) (code:BoundsCode),x<=y->(Instr.sliceBound (.int k (x:Int)) y code).run P w = .ok x w:=fun k x y code hy=>by
   simp[Instr.sliceBound,asIntOf,hy]
  rcases hlo with⟨rfl,rfl⟩|⟨kl,rfl⟩
  ·simp only[Instr.sliceBounds,Sem.run_bind,Sem.run_pure,Result.andThen_ok,hS km _ _ _ h3,hS kh _ _ _ h2]
  ·simp only[Instr.sliceBounds,Sem.run_bind,Sem.run_pure,Result.andThen_ok,hS km _ _ _ h3,hS kh _ _ _ h2,hS kl _ _ _ h1]
 simp only[Instr.sliceAt,Instr.slice,Sem.run_bind,run_underlying hu,Result.andThen_ok,hb,run_size hi,Sem.run_pure]
theorem natO_rep (h:Rel w0 F I Z N β st a w) {o:Operand} {n:Nat} (ho:natTV (st.eval o)=some n) : ∃k,a.eval o = .int k (n:Int):=natTV_rep (h.eval o) ho
theorem sliceOp_sound (h:Rel w0 F I Z N β st a w) {t:TypeId} {x:Operand} {lo hi:Option Operand} {e size bytes l hh:Nat} {tv:TV} (he:elm P t=some (e,size,bytes))
  (hl:(match lo with|some o=>natTV (st.eval o)|none=>some 0)=some l) (hh':(match hi with|some o=>natTV (st.eval o)|none=>lenTV (st.eval x))=some hh)
  (hs:sliceTV size l hh (st.eval x)=some tv) (dst:Option Nat) (ty:TypeId) (pos:String) (af:Array Edge) (gd:Option (Nat×Bool)) :
  Does P F β st w (execOp a.eval ⟨dst,.slice t x lo hi none,ty,pos,af,gd⟩) tv:=by
 obtain⟨hu,i,hi',hsz,_⟩:=elm_parts he
 have hlo:(lo.map a.eval=none/\l=0) \/ ∃k,lo.map a.eval=some (.int k (l:Int)):=by
  cases lo with
  |none=>left;exact⟨rfl,by simpa using hl.symm⟩
  |some o=>right;obtain⟨k,hk⟩:=natO_rep h hl;exact⟨k,by rw[Option.map_some,hk]⟩
 have hrep:=h.eval x
 unfold sliceTV at hs
 split at hs
 ·rename_i n cs hx
  rw[hx]at hrep hh'
  obtain⟨A,cap,hv,hcap⟩:=slice_len hrep
  have hhi:(hi.map a.eval=none/\hh=n) \/ ∃k,hi.map a.eval=some (.int k (hh:Int)):=by
   cases hi with
   |none=>left;exact⟨rfl,by simpa[lenTV]using hh'.symm⟩
   |some o=>right;obtain⟨k,hk⟩:=natO_rep h hh';exact⟨k,by rw[Option.map_some,hk]⟩
  split at hs
  ·rename_i hb
   cases hs
   refine Does.sv (v := .slice (if cap=l then A else A.map (·.add (l*i.size))) (hh-l) (cap-l)) ?_ ?_
   ·simp only[execOp,hv,Option.map_none,Sem.run_bind,slice_run hu hi' hcap hb.1 hb.2 hlo hhi,Result.andThen_ok,Sem.run_pure]
   ·rw[hv]at hrep
    cases hrep with
    |sl0=>rw[List.drop_nil,List.take_nil];exact .sl0 _ _ _ (by omega)
    |sl p _ _ _ _ c hbl hc hr=>
     by_cases hcl:cap=l
     ·have:hh-l=0:=by omega
      rw[this,Nat.zero_mul,List.take_zero]
      exact .sl0 _ _ _ (by omega)
     ·rw[if_neg hcl,Option.map_some,hsz]
      refine .sl _ _ _ (by omega) _ (fun j=>c (l*size+j)) (by rw[block_add];exact hbl) (fun j s hj => ?_) (fun j s hj => ?_)
      ·rw[add_add]
       refine hc _ s ?_
       rcases Nat.lt_or_ge j ((hh-l)*size) with hjl|hjl
       ·rw[List.getElem?_take_of_lt hjl,List.getElem?_drop]at hj;exact hj
       ·rw[List.getElem?_eq_none (by simp;omega)]at hj;cases hj
      ·refine hr _ s ?_
       rcases Nat.lt_or_ge j ((hh-l)*size) with hjl|hjl
       ·rw[List.getElem?_take_of_lt hjl,List.getElem?_drop]at hj;exact hj
       ·rw[List.getElem?_eq_none (by simp;omega)]at hj;cases hj
  ·cases hs
 ·rename_i hx
  rw[hx]at hrep hh'
  have hv:a.eval x = .slice none 0 0:=hrep
  split at hs
  ·rename_i hb
   obtain⟨rfl,rfl⟩:=hb
   cases hs
   have hhi:(hi.map a.eval=none/\0=0) \/ ∃k,hi.map a.eval=some (.int k ((0:Nat):Int)):=by
    cases hi with
    |none=>left;exact⟨rfl,rfl⟩
    |some o=>right;obtain⟨k,hk⟩:=natO_rep h hh';exact⟨k,by rw[Option.map_some,hk]⟩
   refine⟨.slice none 0 0,?_,rfl,fun d g hi=>by simp[TV.id]at hi⟩
   simp only[execOp,hv,Option.map_none,Sem.run_bind,slice_run hu hi' (Nat.le_refl 0) (Nat.le_refl 0) (Nat.le_refl 0) hlo hhi,Result.andThen_ok,Sem.run_pure]
   rfl
  ·cases hs
 ·rename_i d g sz off n hx
  rw[hx]at hrep hh'
  obtain⟨cap,cs,cty,hv,hcap,hblk,hroom⟩:=hrep
  have hhi:(hi.map a.eval=none/\hh=n) \/ ∃k,hi.map a.eval=some (.int k (hh:Int)):=by
   cases hi with
   |none=>left;exact⟨rfl,by simpa[lenTV]using hh'.symm⟩
   |some o=>right;obtain⟨k,hk⟩:=natO_rep h hh';exact⟨k,by rw[Option.map_some,hk]⟩
  split at hs
  ·rename_i hb
   obtain⟨hb0,hb1,hb2,hb3⟩:=hb
   cases hs
   refine⟨.slice (some ⟨β d g,off+l*i.size,none⟩) (hh-l) (cap-l),?_,?_,?_⟩
   ·simp only[execOp,hv,Option.map_none,Sem.run_bind,slice_run hu hi' hcap hb1 hb2 hlo hhi,Result.andThen_ok,Sem.run_pure,Option.map_some,add_mk]
    split
    ·rename_i hcl
     have hl0:l=0:=by omega
     subst hl0
     rw[Nat.zero_mul,Nat.add_zero]
    ·rfl
   ·refine⟨cap-l,cs,cty,by rw[hsz],by omega,hblk,?_⟩
    have:cap*sz=l*sz+(cap-l)*sz:=by rw[<- Nat.add_mul];congr 1;omega
    rw[<- hb0]
    omega
   ·intro d' g' hid
    simp only[TV.id,Option.some.injEq,Prod.mk.injEq]at hid
    obtain⟨rfl,rfl⟩:=hid
    exact h.evalId (by rw[hx];rfl)
  ·split at hs
   ·rename_i hb
    obtain⟨_,rfl,hb2⟩:=hb
    cases hs
    refine Does.sv (v := .slice (if cap=l then some ⟨β d g,off,none⟩ else (some (⟨β d g,off,none⟩:Addr)).map (·.add (l*i.size))) (l-l) (cap-l)) ?_ ?_
    ·simp only[execOp,hv,Option.map_none,Sem.run_bind,slice_run hu hi' hcap (Nat.le_refl l) hb2 hlo hhi,Result.andThen_ok,Sem.run_pure]
    ·rw[Nat.sub_self]
     exact .sl0 _ _ _ (by omega)
   ·cases hs
 ·rename_i d g sz off n cap hx
  rw[hx]at hrep hh'
  obtain⟨cs,cty,hv,hcap,hblk,hroom⟩:=hrep
  have hhi:(hi.map a.eval=none/\hh=n) \/ ∃k,hi.map a.eval=some (.int k (hh:Int)):=by
   cases hi with
   |none=>left;exact⟨rfl,by simpa[lenTV]using hh'.symm⟩
   |some o=>right;obtain⟨k,hk⟩:=natO_rep h hh';exact⟨k,by rw[Option.map_some,hk]⟩
  split at hs
  ·rename_i hb
   obtain⟨hb0,hb1,hb2,hb3⟩:=hb
   cases hs
   refine⟨.slice (some ⟨β d g,off+l*i.size,none⟩) (hh-l) (cap-l),?_,?_,?_⟩
   ·simp only[execOp,hv,Option.map_none,Sem.run_bind,slice_runC hu hi' hb1 hb2 hlo hhi,Result.andThen_ok,Sem.run_pure,Option.map_some,add_mk]
    split
    ·rename_i hcl
     have hl0:l=0:=by omega
     subst hl0
     rw[Nat.zero_mul,Nat.add_zero]
    ·rfl
   ·refine⟨cs,cty,by rw[hsz],by omega,hblk,?_⟩
    have:cap*sz=l*sz+(cap-l)*sz:=by rw[<- Nat.add_mul];congr 1;omega
    rw[<- hb0]
    omega
   ·intro d' g' hid
    simp only[TV.id,Option.some.injEq,Prod.mk.injEq]at hid
    obtain⟨rfl,rfl⟩:=hid
    exact h.evalId (by rw[hx];rfl)
  ·split at hs
   ·rename_i hb
    obtain⟨_,rfl,hb2⟩:=hb
    cases hs
    refine Does.sv (v := .slice (if cap=l then some ⟨β d g,off,none⟩ else (some (⟨β d g,off,none⟩:Addr)).map (·.add (l*i.size))) (l-l) (cap-l)) ?_ ?_
    ·simp only[execOp,hv,Option.map_none,Sem.run_bind,slice_runC hu hi' (Nat.le_refl l) hb2 hlo hhi,Result.andThen_ok,Sem.run_pure]
    ·rw[Nat.sub_self]
     exact .sl0 _ _ _ (by omega)
   ·cases hs
 ·rename_i p n cap hx
  rw[hx]at hrep hh'
  have hv:a.eval x = .slice (some p) n cap:=rep_con hrep
  have hhi:(hi.map a.eval=none/\hh=n) \/ ∃k,hi.map a.eval=some (.int k (hh:Int)):=by
   cases hi with
   |none=>left;exact⟨rfl,by simpa[lenTV]using hh'.symm⟩
   |some o=>right;obtain⟨k,hk⟩:=natO_rep h hh';exact⟨k,by rw[Option.map_some,hk]⟩
  split at hs
  ·rename_i hb
   obtain⟨rfl,hb2,hb3⟩:=hb
   cases hs
   refine Does.sv (v := .slice (some p) hh cap) ?_ (.con _ rfl)
   simp only[execOp,hv,Option.map_none,Sem.run_bind,slice_run hu hi' hb3 (Nat.zero_le _) hb2 hlo hhi,Result.andThen_ok,Sem.run_pure,Option.map_some,Nat.zero_mul,add_zero,Nat.sub_zero]
   split<;>rfl
  ·cases hs
 ·cases hs
theorem Rel.bm_cells (h:Rel w0 F I Z N β st a w) {b:Nat} {cs:List SV} (hc:st.bm b=some cs) (off n:Nat) (ho:((cs.drop off).take n).all SV.one=true) (M:Nat->Prop) :
  ∀ (i:Nat) (x:SV),((cs.drop off).take n)[i]?=some x -> ∃v,w.cell? ((⟨b,off,none⟩:Addr).add i)=some v/\Rep w M v x:=by
 intro i x hx
 have h1:=List.all_eq_true.1 ho x (List.mem_of_getElem? hx)
 obtain⟨_,us,ty,fz,hb,_,hall⟩:=h.bms b cs hc
 have hx2:(cs.drop off)[i]?=some x:=by
  rcases Nat.lt_or_ge i n with hl|hl
  ·rw[List.getElem?_take_of_lt hl]at hx;exact hx
  ·rw[List.getElem?_eq_none (by simp;omega)]at hx;cases hx
 rw[List.getElem?_drop]at hx2
 obtain⟨v,hv,he⟩:=hall _ x hx2
 exact⟨v,by rw[add_mk,cell_of_row w _ _ us ty fz hb];exact hv,he h1 w M⟩
theorem slice3Op_sound (h:Rel w0 F I Z N β st a w) {t:TypeId} {x:Operand} {lo hi mx:Option Operand} {e size bytes l hh m:Nat} {tv:TV} (he:elm P t=some (e,size,bytes))
  (hl:loNat st lo=some l) (hh':someNat st hi=some hh) (hm:someNat st mx=some m)
  (hs:slice3 size l hh m (st.eval x)=some tv) (dst:Option Nat) (ty:TypeId) (pos:String) (af:Array Edge) (gd:Option (Nat×Bool)) :
  Does P F β st w (execOp a.eval ⟨dst,.slice t x lo hi mx,ty,pos,af,gd⟩) tv:=by
 obtain⟨hu,i,hi',hsz,_⟩:=elm_parts he
 have hlo:(lo.map a.eval=none/\l=0) \/ ∃k,lo.map a.eval=some (.int k (l:Int)):=by
  cases lo with
  |none=>left;exact⟨rfl,by simpa[loNat]using hl.symm⟩
  |some o=>right;obtain⟨k,hk⟩:=natO_rep h hl;exact⟨k,by rw[Option.map_some,hk]⟩
 have hrep:=h.eval x
 unfold slice3 at hs
 split at hs
 ·rename_i d g sz off n cap hx
  rw[hx]at hrep
  obtain⟨cs,cty,hv,hcap,hblk,hroom⟩:=hrep
  split at hs
  ·rename_i hb
   cases hs
   cases hi with
   |none=>cases hh'
   |some oh=>
    cases mx with
    |none=>cases hm
    |some om=>
     obtain⟨kh,hkh⟩:=natO_rep h (o:=oh) hh'
     obtain⟨km,hkm⟩:=natO_rep h (o:=om) hm
     refine⟨.slice (if m=l then some ⟨β d g,off,none⟩ else (some (⟨β d g,off,none⟩:Addr)).map (·.add (l*i.size))) (hh-l) (m-l),?_,trivial,fun d g e=>by simp[TV.id]at e⟩
     simp only[execOp,hv,Option.map_some,hkh,hkm,Sem.run_bind,slice3_run hu hi' hb.2.1 hb.2.2.1 hb.2.2.2 hlo,Result.andThen_ok,Sem.run_pure]
  ·cases hs
 ·cases hs
theorem deskOp_sound (h:Rel w0 F I Z N β st a w) {t:TypeId} {x:Operand} {sh:Bool×Nat} (hsh:shp P t=some sh) (hs:sh.1=true) (hs1:sh.2=1) {d g off:Nat} (hx:st.eval x = .ptr d g off) {ts:List TV} {tv:TV} (ho:st.hob d g=some ts) (ht:deskL (ts[off]?)=some tv)
  (dst:Option Nat) (ty:TypeId) (pos:String) (af:Array Edge) (gd:Option (Nat×Bool)):Does P F β st w (execOp a.eval ⟨dst,.load t x,ty,pos,af,gd⟩) tv:=by
 unfold deskL at ht
 split at ht
 ·rename_i d' g' hto
  cases ht
  obtain⟨_,_,cs,cty,hb,hall⟩:=h.hobs d g ts ho
  obtain⟨v,hv,h1,hr,hid⟩:=hall off _ hto
  have hr:v = .pointer (some ⟨β d' g',0,none⟩):=hr
  subst hr
  have he:=h.eval x
  rw[hx]at he
  have he:a.eval x = .pointer (some ⟨β d g,off,none⟩):=he
  have hcell : ∀ (i:Nat) (y:SV),([.con (.pointer (some ⟨β d' g',0,none⟩))]:List SV)[i]?=some y -> ∃v,w.cell? ((⟨β d g,off,none⟩:Addr).add i)=some v/\Rep w (Mut F β st) v y:=by
   intro i y hy
   cases i with
   |zero=>
    simp only[List.getElem?_cons_zero,Option.some.injEq]at hy
    subst hy
    refine⟨.pointer (some ⟨β d' g',0,none⟩),?_,.con _ rfl⟩
    rw[add_zero]
    simp[World.cell?,hb,hv]
   |succ i=>simp at hy
  have hld:loadC sh ([.con (.pointer (some ⟨β d' g',0,none⟩))]:List SV)=some (.agg [.con (.pointer (some ⟨β d' g',0,none⟩))]):=by
   unfold loadC
   rw[if_pos hs,hs1]
   rfl
  obtain⟨v2,hv2,hr2⟩:=load_sound (P:=P) hsh hcell hld
  have hagg:v2 = .agg #[.pointer (some ⟨β d' g',0,none⟩)]:=by
   cases hr2 with
   |agg vs cells hl hall2=>
    match vs,hl,hall2 with
    |⟨[u]⟩,_,hall2=>
     have h0:Rep w (Mut F β st) u (.con (.pointer (some ⟨β d' g',0,none⟩))):=hall2 0 _ rfl
     generalize (Value.pointer (some ⟨β d' g',0,none⟩))=p at h0 ⊢
     cases h0
     rfl
  subst hagg
  refine⟨_,?_,rfl,fun d1 g1 e=>hid d1 g1 (by simpa[TV.id]using e)⟩
  simp[execOp,he,Instr.loadAt,Instr.sureAddr,hv2]
 ·cases ht
theorem hloadOp_sound (h:Rel w0 F I Z N β st a w) {t:TypeId} {x:Operand} {sh:Bool×Nat} (hsh:shp P t=some sh) (hs:sh.1=false) {d g off:Nat} (hx:st.eval x = .ptr d g off) {ts:List TV} {tv:TV} (ho:st.hob d g=some ts) (ht:ts[off]?=some tv)
  (dst:Option Nat) (ty:TypeId) (pos:String) (af:Array Edge) (gd:Option (Nat×Bool)):Does P F β st w (execOp a.eval ⟨dst,.load t x,ty,pos,af,gd⟩) tv:=by
 obtain⟨_,_,cs,cty,hb,hall⟩:=h.hobs d g ts ho
 obtain⟨v,hv,h1,hr,hid⟩:=hall off tv ht
 have he:=h.eval x
 rw[hx]at he
 have he:a.eval x = .pointer (some ⟨β d g,off,none⟩):=he
 refine⟨v,?_,hr,hid⟩
 have hl:(loadVar t ⟨β d g,off,none⟩).run P w = .ok v w:=by
  obtain⟨i,hi,hsz,hagg⟩:=shp_parts hsh
  unfold loadVar
  simp only[Sem.run_bind,hagg,Result.andThen_ok,hs]
  simp[World.cell?,hb,hv]
 simp[execOp,he,Instr.loadAt,Instr.sureAddr,hl]
end
end Go.Ev
namespace Go.Ev
open Go.RowKit
section
variable {P:Program} {w0 w:World} {F I:Nat->Prop} {Z:Zy} {N:Nat} {β:Nat->Nat->Nat} {st:St} {a:Act}
theorem isStr_under {t:TypeId} (h:isStr P t=true):P.underlying t=some .string:=by
 unfold isStr at h
 split at h
 ·assumption
 ·cases h
theorem minmax_rep (h:Rel w0 F I Z N β st a w) {xs:List Operand} {ss:List SV} (hs:allSV (xs.map st.eval)=some ss) {k k':IntKind} {n m:Int} (e:ss=[.int k n,.int k' m]) :
  xs.map a.eval=[.int k n,.int k' m]:=by
 subst e
 obtain⟨hl,hr⟩:=allSV_rep h hs
 match xs,hl with
 | [x,y],_=>
  obtain⟨v,hv,h1⟩:=hr 0 _ rfl
  obtain⟨u,hu,h2⟩:=hr 1 _ rfl
  simp only[List.map_cons,List.map_nil,List.getElem?_cons_zero,List.getElem?_cons_succ,Option.some.injEq]at hv hu
  simp only[List.map_cons,List.map_nil,hv,hu,rep_int h1,rep_int h2]
theorem call_builtin (o:Builtin) (args:Array Operand) (tys:Array TypeId) (dst:Option Nat) (ty:TypeId) (pos:String) (af:Array Edge) (gd:Option (Nat×Bool)) :
  execOp a.eval ⟨dst,.call { callee := .builtin o,args:=args,argTypes:=tys },ty,pos,af,gd⟩ =
   builtin o tys ty (args.map fun | .const _=>true|_=>false) (args.map a.eval):=by
 simp only[execOp,resolve,invoke]
 rfl
set_option maxHeartbeats 1000000 in
theorem val_sound (h:Rel w0 F I Z N β st a w) {op:Op} {t:TV} (hv:val P st op=some t) (dst:Option Nat) (ty:TypeId) (pos:String) (af:Array Edge) (gd:Option (Nat×Bool)) :
  Does P F β st w (execOp a.eval ⟨dst,op,ty,pos,af,gd⟩) t:=by
 unfold val at hv
 split at hv
 ·-- move
  cases hv
  exact⟨_,rfl,h.eval _,fun d g hi=>h.evalId hi⟩
 ·cases hv
  exact⟨_,rfl,h.eval _,fun d g hi=>h.evalId hi⟩
 ·-- pick
  rename_i c x y
  split at hv
  ·rename_i b hb
   cases hv
   have hc:=h.eval c
   rw[hb]at hc
   cases b with
   |true=>exact⟨a.eval x,by simp[execOp,rep_bool hc,asBool],h.eval x,fun d g hi=>h.evalId hi⟩
   |false=>exact⟨a.eval y,by simp[execOp,rep_bool hc,asBool],h.eval y,fun d g hi=>h.evalId hi⟩
  ·cases hv
 ·-- build
  split at hv
  ·rename_i pl cs ps h1 h2 h3
   split at hv
   ·rename_i cs' h4
    cases hv
    exact build_sound h h1 h2 h3 h4 dst ty pos af gd
   ·cases hv
  ·exact bldP_sound h hv dst ty pos af gd
 ·-- load
  rename_i t x
  split at hv
  ·rename_i sh hsh
   split at hv
   ·rename_i d g off hx
    split at hv
    ·split at hv
     ·rename_i hs1
      split at hv
      ·rename_i hs2
       cases ho:st.hob d g with
       |none=>rw[ho]at hv;cases hv
       |some ts=>
        rw[ho]at hv
        exact deskOp_sound h hsh hs1 hs2 hx ho hv dst ty pos af gd
      ·cases hv
     ·rename_i hs1
      cases ho:st.hob d g with
      |none=>rw[ho]at hv;cases hv
      |some ts=>
       rw[ho]at hv
       exact hloadOp_sound h hsh (by simpa using hs1) hx ho hv dst ty pos af gd
    ·split at hv
     ·rename_i cs hcs
      obtain⟨s,hs,rfl⟩:=map_some hv
      have he:=h.eval x
      rw[hx]at he
      exact loadOp_sound hsh he (h.obj_cells hcs off) hs dst ty pos af gd
     ·cases hv
   ·rename_i cs hx
    obtain⟨s,hs,rfl⟩:=map_some hv
    have he:=h.eval x
    rw[hx]at he
    obtain⟨p,hp,hc⟩:=mem_cells he
    exact loadOp_sound hsh hp hc hs dst ty pos af gd
   ·rename_i b off hx
    have he:=h.eval x
    rw[hx]at he
    have hp:=rep_con he
    split at hv
    ·rename_i cs hcs
     split at hv
     ·rename_i hone
      obtain⟨s,hs,rfl⟩:=map_some hv
      exact loadOp_sound hsh hp (h.bm_cells hcs off sh.2 hone _) hs dst ty pos af gd
     ·cases hv
    ·cases hv
   ·cases hv
  ·cases hv
 ·-- binOp
  rename_i op t x y yt
  split at hv
  ·rename_i A n c hu
   obtain⟨s,hs,rfl⟩:=map_some hv
   unfold conNil at hs
   split at hs
   ·rename_i hy
    split at hs
    ·rename_i hk
     rw[Bool.and_eq_true]at hk
     have hx':a.eval x = .slice (some A) n c:=rep_con (toSV_rep (h.eval x) hu)
     have hy':a.eval y = .slice none 0 0:=by
      have:=h.eval y
      rw[hy]at this
      exact this
     obtain⟨r,hr,hrep⟩:=sl_nil_sound (P:=P) (w:=w) (op:=op) (A:=A) (n:=n) (c:=c) hk.2 hs x y
     refine Does.sv (v:=r) ?_ (hrep _)
     simp only[execOp,hx',hy']
     rw[Sem.run_bind,hr]
     rfl
    ·cases hs
   ·cases hs
  ·rename_i u v _ hu hv'
   obtain⟨s,hs,rfl⟩:=map_some hv
   obtain⟨r,hr,hrep⟩:=bin_sound (P:=P) (toSV_rep (h.eval x) hu) (toSV_rep (h.eval y) hv') x y hs
   refine Does.sv (v:=r) ?_ (hrep _)
   simp only[execOp]
   rw[Sem.run_bind,hr]
   rfl
  ·obtain⟨s,hs,rfl⟩:=map_some hv
   unfold ptrSV at hs
   split at hs
   ·rename_i d g off hx hy
    split at hs
    ·rename_i hp
     have hx':=h.eval x
     rw[hx]at hx'
     have hy':=h.eval y
     rw[hy]at hy'
     have hx':a.eval x = .pointer (some ⟨β d g,off,none⟩):=hx'
     have hy':a.eval y = .pointer none:=rep_con hy'
     obtain⟨r,hr,hrep⟩:=ptr_nil_sound (P:=P) (w:=w) (op:=op) (A:=some ⟨β d g,off,none⟩) hp hs x y
     refine Does.sv (v:=r) ?_ (hrep _)
     simp only[execOp,hx',hy']
     rw[Sem.run_bind,hr]
     rfl
    ·cases hs
   ·cases hs
 ·-- nilCheck
  rename_i x
  have he:=h.eval x
  split at hv
  ·rename_i d g off hx
   cases hv
   rw[hx]at he
   have he':a.eval x = .pointer (some ⟨β d g,off,none⟩):=he
   refine⟨_,?_,he,fun d' g' hi => ?_⟩
   ·simp only[execOp,he']
    rfl
   ·rw[<- hx]at hi
    exact h.evalId hi
  ·rename_i cs hx
   cases hv
   rw[hx]at he
   obtain⟨p,hp,hc⟩:=mem_cells he
   refine Does.sv (v:=a.eval x) ?_ he
   simp only[execOp,hp]
   rfl
  ·cases hv
 ·-- unOp
  rename_i op t x
  split at hv
  ·rename_i u hu
   obtain⟨s,hs,rfl⟩:=map_some hv
   obtain⟨r,hr,hrep⟩:=un_sound (P:=P) (toSV_rep (h.eval x) hu) hs
   refine Does.sv (v:=r) ?_ (hrep _)
   simp only[execOp,Sem.run_bind,hr,Result.andThen_ok,Sem.run_pure]
  ·cases hv
 ·-- convert
  rename_i src dst' x
  have he:=h.eval x
  split at hv
  ·rename_i k n hx
   rw[hx]at he
   split at hv
   ·rename_i k' hk
    split at hv
    ·rename_i hsrc
     cases hv
     obtain⟨d,hd⟩:=Option.isSome_iff_exists.1 hsrc
     refine Does.sv (v := .int k' (k'.wrap n)) ?_ (.int _ _)
     simp only[execOp,rep_int he,convert,Sem.run_bind,run_underlying hd,run_underlying (isInt_under hk),Result.andThen_ok]
     cases d<;>rfl
    ·cases hv
   ·cases hv
  ·rename_i s hx
   rw[hx]at he
   split at hv
   ·rename_i hd
    cases hv
    obtain⟨hsrc,hdst⟩:=hd
    obtain⟨d,hd⟩:=Option.isSome_iff_exists.1 hsrc
    refine Does.sv (v := .string s) ?_ (.str _)
    simp only[execOp,rep_str he,convert,Sem.run_bind,run_underlying hd,run_underlying (isStr_under hdst),Result.andThen_ok]
    cases d<;>rfl
   ·cases hv
  ·rename_i n cs hx
   rw[hx]at he
   split at hv
   ·rename_i e hsrc hdst
    split at hv
    ·rename_i l hint hl
     split at hv
     ·rename_i hn
      cases hv
      refine Does.sv (v := .string ⟨l.toArray⟩) ?_ (.str _)
      simp only[execOp]
      obtain⟨A,cap,hA,_⟩:=slice_len he
      have hb:=bytes_str (P:=P) he hl hn
      rw[hA]at hb ⊢
      simp only[convert,Sem.run_bind,run_underlying hsrc,run_underlying hdst,run_underlying (isInt_under hint),Result.andThen_ok,hb,Sem.run_pure]
     ·cases hv
    ·cases hv
   ·cases hv
  ·rename_i hx
   split at hv
   ·rename_i e hsrc hdst
    split at hv
    ·rename_i hint
     cases hv
     have he:=toSV_rep (s := .sl 0 []) (h.eval x) (by rw[hx];rfl)
     refine Does.sv (v := .string ⟨[].toArray⟩) ?_ (.str _)
     simp only[execOp]
     obtain⟨A,cap,hA,_⟩:=slice_len he
     have hb:=bytes_str (P:=P) (l:=[]) he rfl rfl
     rw[hA]at hb ⊢
     simp only[convert,Sem.run_bind,run_underlying hsrc,run_underlying hdst,run_underlying (isInt_under hint),Result.andThen_ok,hb,Sem.run_pure]
    ·cases hv
   ·cases hv
  ·cases hv
 ·-- extract
  rename_i x i
  split at hv
  ·rename_i vs hx
   obtain⟨s,hs,rfl⟩:=map_some hv
   have he:=h.eval x
   rw[hx]at he
   obtain⟨r,hr,hrep⟩:=extract_sound (P:=P) he hs
   refine Does.sv (v:=r) ?_ hrep
   simp only[execOp,Sem.run_bind,hr,Result.andThen_ok,Sem.run_pure]
  ·rename_i d g size off n l hx
   have he:=h.eval x
   rw[hx]at he
   obtain⟨cap,cs,cty,vs,hvx,hcap,hblk,hroom,hlen,hall⟩:=he
   have hid:g<st.gen d:=h.evalId (d:=d) (g:=g) (x:=x) (by rw[hx];rfl)
   split at hv
   ·rename_i h0
    subst h0
    cases hv
    refine⟨.slice (some ⟨β d g,off,none⟩) n cap,?_,⟨cap,cs,cty,rfl,hcap,hblk,hroom⟩,fun d' g' e => ?_⟩
    ·simp only[execOp,hvx,Sem.run_bind]
     rfl
    ·simp only[TV.id,Option.some.injEq,Prod.mk.injEq]at e
     obtain⟨rfl,rfl⟩:=e
     exact hid
   ·rename_i h0
    obtain⟨s,hs,rfl⟩:=map_some hv
    obtain⟨r,hr,hrep⟩:=extract_sound (P:=P) (w:=w) (M:=Mut F β st) (x := .tuple (.slice (some ⟨β d g,off,none⟩) n cap::vs).toArray) (vs := .con (.slice (some ⟨β d g,off,none⟩) n cap)::l) (i:=i) (.tup _ _ (by simp[hlen]) fun j s hj=>by
     cases j with
     |zero=>cases hj;exact .con _ rfl
     |succ j=>
      have:=hall j s hj
      simpa[Array.getD_eq_getD_getElem?]using this) (by
     obtain⟨k,rfl⟩ : ∃k,i=k+1:=⟨i-1,by omega⟩
     exact hs)
    refine Does.sv (v:=r) ?_ hrep
    simp only[execOp,hvx,Sem.run_bind,hr,Result.andThen_ok,Sem.run_pure]
  ·cases hv
 ·-- field
  rename_i t x f
  split at hv
  ·rename_i cs hx
   split at hv
   ·rename_i off fty fsz hf
    split at hv
    ·rename_i sh hsh
     obtain⟨s,hs,rfl⟩:=map_some hv
     have he:=h.eval x
     rw[hx]at he
     obtain⟨fs,fx,i,hu,hfx,rfl,rfl,hi,_⟩:=fld_parts hf
     generalize hvx:a.eval x=vx at he
     cases he with
     |agg us _ hl hr=>
      obtain⟨r,hr',hrep⟩:=part_sound (P:=P) hsh hl hr hs
      refine Does.sv (v:=r) ?_ hrep
      simp only[execOp,hvx,Instr.field,Sem.run_bind,run_underlying hu,Result.andThen_ok,hfx,asAgg,Sem.run_pure,hr']
    ·cases hv
   ·cases hv
  ·rename_i d g hx
   split at hv
   ·rename_i fty hf
    split at hv
    ·rename_i hsh
     cases hv
     have hxi:(st.eval x).id=some (d,g):=by rw[hx];rfl
     have hid:=h.evalId hxi
     have he:a.eval x = .agg #[.pointer (some ⟨β d g,0,none⟩)]:=by
      have:=h.eval x
      rw[hx]at this
      exact this
     obtain⟨fs,fx,i,hu,hfx,h0,rfl,hi,_⟩:=fld_parts hf
     obtain⟨r,hr',hrep⟩:=part_sound (P:=P) (w:=w) (M:=Mut F β st) (vs := #[.pointer (some ⟨β d g,0,none⟩)]) (cells:=[.con (.pointer (some ⟨β d g,0,none⟩))]) (off:=0) hsh rfl (fun i s hi=>by
      cases i with
      |zero=>cases hi;exact .con _ rfl
      |succ i=>cases hi) rfl
     cases hrep
     refine⟨_,?_,rfl,fun d' g' e=>by
      simp only[TV.id,Option.some.injEq,Prod.mk.injEq]at e
      obtain⟨rfl,rfl⟩:=e
      exact hid⟩
     simp only[execOp,he,Instr.field,Sem.run_bind,run_underlying hu,Result.andThen_ok,hfx,asAgg,Sem.run_pure,h0,hr']
    ·cases hv
   ·cases hv
  ·cases hv
 ·-- fieldAddr
  rename_i t x f
  split at hv
  ·rename_i off fty fsz hf
   split at hv
   ·cases hv
   ·rename_i hsz
    obtain⟨fs,fx,i,hu,hfx,rfl,rfl,hi,his⟩:=fld_parts hf
    have he:=h.eval x
    split at hv
    ·rename_i d g o hx
     cases hv
     rw[hx]at he
     have he:a.eval x = .pointer (some ⟨β d g,o,none⟩):=he
     refine⟨.pointer (some ⟨β d g,o+fx.offset,none⟩),?_,rfl,fun d' g' hid => ?_⟩
     ·simp only[execOp,he,Instr.fieldAt,Sem.run_bind,run_underlying hu,Result.andThen_ok,hfx,Instr.sureAddr,Sem.run_pure,place_sound hi (by rw[his];exact hsz),add_mk]
     ·simp only[TV.id,Option.some.injEq,Prod.mk.injEq]at hid
      obtain⟨rfl,rfl⟩:=hid
      exact h.evalId (by rw[hx];rfl)
    ·rename_i cs hx
     cases hv
     rw[hx]at he
     obtain⟨p,hp,_⟩:=mem_cells he
     rw[hp]at he
     refine Does.sv (v := .pointer (some (p.add fx.offset))) ?_ (he.mem_drop _)
     simp only[execOp,hp,Instr.fieldAt,Sem.run_bind,run_underlying hu,Result.andThen_ok,hfx,Instr.sureAddr,Sem.run_pure,place_sound hi (by rw[his];exact hsz)]
    ·rename_i b o hx
     cases hv
     rw[hx]at he
     have he:a.eval x = .pointer (some ⟨b,o,none⟩):=rep_con he
     refine Does.sv (v := .pointer (some ⟨b,o+fx.offset,none⟩)) ?_ (.con _ rfl)
     simp only[execOp,he,Instr.fieldAt,Sem.run_bind,run_underlying hu,Result.andThen_ok,hfx,Instr.sureAddr,Sem.run_pure,place_sound hi (by rw[his];exact hsz),add_mk]
    ·cases hv
  ·cases hv
 ·-- indexAddr
  rename_i t x ix
  split at hv
  ·rename_i e size bytes i he hi
   obtain⟨hu,inf,hinf,hsz,_⟩:=elm_parts he
   obtain⟨k,hk⟩:=natO_rep h hi
   have hx':=h.eval x
   split at hv
   ·rename_i n cs hx
    split at hv
    ·rename_i hlt
     cases hv
     rw[hx]at hx'
     generalize hvx:a.eval x=vx at hx'
     cases hx' with
     |sl0 A _ cap hn=>simp at hlt
     |sl p _ cap hn _ c hb hc hr=>
      have hm:Rep w (Mut F β st) (.pointer (some p)) (.mem cs) := .mem p cs c hb hc hr
      refine Does.sv (v := .pointer (some (p.add (i*inf.size)))) ?_ (by rw[hsz];exact hm.mem_drop _)
      simp only[execOp,hvx,hk,Instr.indexAt,asIntOf,Sem.run_bind,Sem.run_pure,Result.andThen_ok,run_underlying hu]
      rw[if_pos (by omega)]
      simp[run_size hinf]
    ·cases hv
   ·rename_i d g sz off n hx
    split at hv
    ·rename_i hlt
     cases hv
     rw[hx]at hx'
     obtain⟨cap,cs,cty,hvx,hcap,hblk,hroom⟩:=hx'
     refine⟨.pointer (some ⟨β d g,off+i*size,none⟩),?_,rfl,fun d' g' hid => ?_⟩
     ·simp only[execOp,hvx,hk,Instr.indexAt,asIntOf,Sem.run_bind,Sem.run_pure,Result.andThen_ok,run_underlying hu]
      rw[if_pos (by omega)]
      simp[run_size hinf,hsz,add_mk]
     ·simp only[TV.id,Option.some.injEq,Prod.mk.injEq]at hid
      obtain⟨rfl,rfl⟩:=hid
      exact h.evalId (by rw[hx];rfl)
    ·cases hv
   ·rename_i b o n c hx
    split at hv
    ·rename_i hlt
     cases hv
     rw[hx]at hx'
     have hvx:a.eval x = .slice (some ⟨b,o,none⟩) n c:=rep_con hx'
     refine Does.sv (v := .pointer (some ⟨b,o+i*size,none⟩)) ?_ (.con _ rfl)
     simp only[execOp,hvx,hk,Instr.indexAt,asIntOf,Sem.run_bind,Sem.run_pure,Result.andThen_ok,run_underlying hu]
     rw[if_pos (by omega)]
     simp[run_size hinf,hsz,add_mk]
    ·cases hv
   ·cases hv
  ·cases hv
 ·-- index
  rename_i t x ix
  split at hv
  ·rename_i i s hi hx
   split at hv
   ·rename_i hu
    split at hv
    ·rename_i b hb
     cases hv
     obtain⟨k,hk⟩:=natO_rep h hi
     have hx':=h.eval x
     rw[hx]at hx'
     refine Does.sv (v := .int .u8 b.toNat) ?_ (.int _ _)
     simp only[execOp,rep_str hx',hk,Instr.index,asIntOf,Sem.run_bind,Sem.run_pure,Result.andThen_ok,run_underlying hu]
     rw[if_pos (by omega),Int.toNat_natCast,hb]
     rfl
    ·cases hv
   ·cases hv
  ·cases hv
 ·-- slice
  rename_i t x lo hi mx
  split at hv
  ·split at hv
   ·rename_i size bytes l hh m he hl hh' hm
    exact slice3Op_sound h he hl hh' hm hv dst ty pos af gd
   ·cases hv
  ·rename_i hmx
   have hmx:mx=none:=by cases mx with
    |none=>rfl
    |some m=>simp at hmx
   subst hmx
   split at hv
   ·rename_i l hh hl hh'
    unfold sliceV at hv
    split at hv
    ·rename_i s hx
     split at hv
     ·rename_i hb
      obtain⟨hu,h1,h2⟩:=hb
      cases hv
      have he:=h.eval x
      rw[hx]at he
      refine Does.sv (v := .string (s.extract l hh)) ?_ (.str _)
      have hH : ∀ (k:IntKind) (y:Nat) (code:BoundsCode),hh<=y->(Instr.sliceBound (.int k (hh:Int)) y code).run P w = .ok hh w:=fun k y code hy=>by
       simp[Instr.sliceBound,asIntOf,hy]
      have hL : ∀ (k:IntKind) (y:Nat) (code:BoundsCode),l<=y->(Instr.sliceBound (.int k (l:Int)) y code).run P w = .ok l w:=fun k y code hy=>by
       simp[Instr.sliceBound,asIntOf,hy]
      have hb:(Instr.sliceBounds false s.size s.size (lo.map a.eval) (hi.map a.eval) none).run P w = .ok (l,hh,s.size) w:=by
       cases hi with
       |none=>
        simp only[hiNat,hx,lenTV,Option.some.injEq]at hh'
        subst hh'
        cases lo with
        |none=>
         simp only[loNat,Option.some.injEq]at hl
         subst hl
         rfl
        |some o=>
         obtain⟨k,hk⟩:=natO_rep h hl
         simp only[Instr.sliceBounds,Option.map_some,Option.map_none,hk,Sem.run_bind,Sem.run_pure,Result.andThen_ok,hL k _ _ h1]
       |some o' =>
        obtain⟨k',hk'⟩:=natO_rep h hh'
        cases lo with
        |none=>
         simp only[loNat,Option.some.injEq]at hl
         subst hl
         simp only[Instr.sliceBounds,Option.map_some,Option.map_none,hk',Sem.run_bind,Sem.run_pure,Result.andThen_ok,hH k' _ _ h2]
        |some o=>
         obtain⟨k,hk⟩:=natO_rep h hl
         simp only[Instr.sliceBounds,Option.map_some,hk,hk',Sem.run_bind,Sem.run_pure,Result.andThen_ok,hH k' _ _ h2,hL k _ _ h1]
      simp only[execOp,rep_str he,Instr.sliceAt,Instr.slice,Sem.run_bind,run_underlying (isStr_under hu),Result.andThen_ok,Option.map_none,Option.isSome_none,Bool.false_eq_true,if_false,hb,Sem.run_pure]
     ·cases hv
    ·split at hv
     ·rename_i e size bytes he
      exact sliceOp_sound h he (by cases lo<;>exact hl) (by cases hi<;>exact hh') hv dst ty pos af gd
     ·cases hv
   ·cases hv
 ·-- makeFunc
  rename_i f first captured
  split at hv
  ·rename_i h0
   split at hv
   ·rename_i l hl
    cases hv
    obtain⟨h1,h2⟩:=allSV_rep h hl
    have hf:first = #[]:=Array.eq_empty_of_size_eq_zero h0
    subst hf
    refine Does.sv (v := .func (.func f) #[] (captured.map a.eval)) ?_ (.fn f _ l (by simpa using h1) fun i s hi => ?_)
    ·simp[execOp,Instr.makeFunc]
    ·obtain⟨v,hv,hr⟩:=h2 i s hi
     rw[Array.getD_eq_getD_getElem?,<- Array.getElem?_toList,Array.toList_map,hv]
     exact hr
   ·cases hv
  ·cases hv
 ·-- len
  rename_i args tys
  split at hv
  ·rename_i x t hx ht
   have hargs:args = #[x]:=by apply Array.ext';simpa using hx
   have htys:tys = #[t]:=by apply Array.ext';simpa using ht
   subst hargs htys
   have he:=h.eval x
   split at hv
   ·rename_i n s hn hs
    split at hv
    ·rename_i hu
     cases hv
     rw[hs]at he hn
     simp only[lenTV,Option.some.injEq]at hn
     subst hn
     refine Does.sv (v := .int .i64 s.size) ?_ (.int _ _)
     rw[call_builtin]
     simp[builtin,Builtin.len_,rep_str he,run_underlying hu,goInt]
    ·cases hv
   ·rename_i n hn hns
    split at hv
    ·rename_i e he'
     cases hv
     obtain⟨hu,inf,hinf,hsz,_⟩:=elm_parts (P:=P) (t:=t) (e:=e.1) (size:=e.2.1) (bytes:=e.2.2) he'
     have hvl : ∃A cap,a.eval x = .slice A n cap:=by
      revert hn he hns
      cases st.eval x with
      |sv s=>cases s with
       |sl m cs=>intro he hn _;obtain⟨A,cap,hA,_⟩:=slice_len he;simp only[lenTV,Option.some.injEq]at hn;subst hn;exact⟨A,cap,hA⟩
       |str s=>intro _ _ hns;exact absurd rfl (hns s)
       |con v=>
        intro he hn _
        rw[rep_con he]
        unfold lenTV at hn
        split at hn<;>first|(cases hn;done)|skip
        all_goals rename_i e;first|(cases e;cases hn;exact⟨_,_,rfl⟩)|cases e
       |_=>intro _ hn;simp[lenTV]at hn
      |nil=>intro he hn _;simp only[lenTV,Option.some.injEq]at hn;subst hn;exact⟨none,0,he⟩
      |ref d g size off m=>intro he hn _;obtain⟨cap,cs,cty,hA,_⟩:=he;simp only[lenTV,Option.some.injEq]at hn;subst hn;exact⟨_,cap,hA⟩
      |rfc d g size off m c=>intro he hn _;obtain⟨cs,cty,hA,_⟩:=he;simp only[lenTV,Option.some.injEq]at hn;subst hn;exact⟨_,c,hA⟩
      |ptr d g off=>intro _ hn;simp[lenTV]at hn
      |pst d g=>intro _ hn;simp[lenTV]at hn
      |undef=>intro _ hn;simp[lenTV]at hn
      |skip=>intro _ hn;simp[lenTV]at hn
      |emp=>intro _ hn;simp[lenTV]at hn
      |tp d g size off m r=>intro _ hn;simp[lenTV]at hn
     obtain⟨A,cap,hA⟩:=hvl
     refine Does.sv (v := .int .i64 n) ?_ (.int _ _)
     rw[call_builtin]
     simp[builtin,Builtin.len_,hA,run_underlying hu,goInt]
    ·cases hv
   ·cases hv
  ·cases hv
 ·-- cap
  rename_i args tys
  split at hv
  ·rename_i x t hx ht
   have hargs:args = #[x]:=by apply Array.ext';simpa using hx
   have htys:tys = #[t]:=by apply Array.ext';simpa using ht
   subst hargs htys
   have he:=h.eval x
   split at hv
   ·rename_i n e hn he'
    cases hv
    obtain⟨hu,inf,hinf,hsz,_⟩:=elm_parts (P:=P) (t:=t) (e:=e.1) (size:=e.2.1) (bytes:=e.2.2) he'
    obtain⟨A,m,hA⟩ : ∃A m,a.eval x = .slice A m n:=by
     revert hn he
     cases st.eval x with
     |rfc d g size off m c=>intro he hn;obtain⟨cs,cty,hA,_⟩:=he;simp only[capTV,Option.some.injEq]at hn;subst hn;exact⟨_,m,hA⟩
     |_=>intro _ hn;simp[capTV]at hn
    refine Does.sv (v := .int .i64 n) ?_ (.int _ _)
    rw[call_builtin]
    simp[builtin,Builtin.cap_,hA,run_underlying hu,goInt]
   ·cases hv
  ·cases hv
 ·-- min
  rename_i args tys
  split at hv
  ·rename_i l hl
   obtain⟨s,hs,rfl⟩:=map_some hv
   unfold minSV at hs
   split at hs
   ·rename_i k n k' m
    cases hs
    have hm:=minmax_rep h hl rfl
    refine Does.sv (v := .int k (if m<n then m else n)) ?_ (.int _ _)
    have hargs:(args.map a.eval) = #[.int k n,.int k' m]:=by apply Array.ext';rw[Array.toList_map,hm]
    rw[call_builtin,hargs]
    rfl
   ·cases hs
  ·cases hv
 ·-- max
  rename_i args tys
  split at hv
  ·rename_i l hl
   obtain⟨s,hs,rfl⟩:=map_some hv
   unfold maxSV at hs
   split at hs
   ·rename_i k n k' m
    cases hs
    have hm:=minmax_rep h hl rfl
    refine Does.sv (v := .int k (if m>n then m else n)) ?_ (.int _ _)
    have hargs:(args.map a.eval) = #[.int k n,.int k' m]:=by apply Array.ext';rw[Array.toList_map,hm]
    rw[call_builtin,hargs]
    rfl
   ·cases hs
  ·cases hv
 ·cases hv
end
end Go.Ev
