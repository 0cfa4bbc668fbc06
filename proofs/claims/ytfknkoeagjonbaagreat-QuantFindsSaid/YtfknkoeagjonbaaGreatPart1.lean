/- Part 1 of the proof: the evaluator, contracts of functions and their plain laws (joined by program). No condition. -/
import Derived.WalkKit
import Derived.Orders
import Derived.ChangeKeysEq
set_option linter.unusedVariables false
set_option linter.unusedSimpArgs false
set_option maxRecDepth 100000
namespace Go
set_option linter.defProp false
def xA := @Rat.mul_le_mul_of_nonneg_right
def xB := @Rat.mul_le_mul_of_nonneg_left
def xC := @Nat.mul_le_mul_right
def xD := @Nat.pow_le_pow_right
def xE := @Rat.le_trans
def xF := @Rat.mul_nonneg
def xG := @Rat.le_of_lt
def xH := @Nat.le_trans
def xI := @Nat.mul_le_mul_left
def xJ := @Int.natAbs_natCast
def xK := @Nat.pow_pos
def xL := @Bool.not_true
def xM := @Nat.pow_add
def xN := @Rat.le_refl
def xO := @Nat.mul_le_mul
def xP := @Nat.mul_assoc
def xQ := @Nat.le_refl
def xR := @Array.getD_eq_getD_getElem?
def xU := @Nat.pow_succ
def xV := @Nat.mul_comm
def xW := @List.getD_eq_getElem?_getD
def xX := @List.getElem?_eq_getElem
def xY := @Nat.mul_add
def xZ := @Nat.add_mul
def xc := @Rat.one_mul
def xd := @Rat.div_mul_cancel
def xe := @Nat.one_mul
def xf := @Nat.div_le_div_right
def xg := @Bool.not_false
def xh := @Bool.and_eq_true
def xi := @Nat.lt_or_ge
def xj := @Nat.le_of_ble_eq_true
def xk := @Rat.div_def
def xl := @List.getElem?_eq_none
def xo := @Nat.eq_zero_or_pos
def xq := @List.take_of_length_le
def xt := @Rat.mul_pos
def xv := @Nat.div_le_self
def xw := @Rat.zero_mul
def xz := @Nat.lt_of_lt_of_le
def yA := @Rat.mul_one
def yB := @Nat.mod_eq_of_lt
def yC := @Nat.div_lt_iff_lt_mul
def yD := @Nat.mul_one
def yE := @Nat.add_zero
def yF := @Int.natCast_mul
def yG := @List.length_append
def yI := @Nat.mod_lt
def yJ := @Int.natAbs_neg
def yK := @List.getElem?_cons_zero
def yL := @Nat.div_le_iff_le_mul
def yM := @Nat.lt_of_le_of_lt
def yN := @List.length_set
def yO := @List.length_take
def yP := @Nat.le_succ_of_le
def yQ := @List.getElem?_cons_succ
def yR := @List.length_replicate
def yS := @List.length_cons
def yU := @Bool.true_and
def yV := @Nat.zero_add
def yW := @List.mem_cons_self
def yX := @Nat.mul_zero
def yY := @Bool.false_and
def yZ := @Rat.not_lt
def ya := @Rat.mul_comm
def yb := @List.mem_cons_of_mem
def ye := @List.getElem?_drop
def yf := @List.getElem?_append_left
def yg := @Nat.le_succ
def yi := @Nat.le_mul_of_pos_right
def yj := @List.getElem?_append_right
def yk := @List.getElem?_take_of_lt
def yl := @Nat.div_add_mod
def ym := @Nat.mul_left_comm
def yn := @Nat.div_eq_of_lt
def yo := @Rat.pow_succ
def yp := @Option.map_some
def yq := @Nat.mul_lt_mul_of_pos_right
def yr := @Nat.pow_zero
def yu := @Nat.mul_pos
def yv := @Nat.le_of_mul_le_mul_right
def yw := @Rat.pow_zero
def yx := @Nat.min_eq_left
def zC := @Rat.le_total
def zD := @List.getElem?_map
def zE := @Array.getElem?_eq_getElem
def zF := @Nat.pow_mul
def zG := @Rat.mul_assoc
def zH := @List.drop_of_length_le
def zI := @Nat.le_mul_of_pos_left
def zJ := @List.all_eq_true
def zK := @Nat.div_one
def zL := @Rat.num_nonneg
def zM := @Rat.intCast_natCast
def zN := @Array.getElem?_setIfInBounds_self_of_lt
def zO := @Nat.mod_two_eq_zero_or_one
def zP := @Nat.pow_le_pow_left
def zQ := @List.drop_zero
def zR := @Nat.add_assoc
def zS := @Nat.pow_lt_pow_right
def zU := @Rat.inv_pos
def zV := @Array.getElem?_setIfInBounds_ne
def zW := @Array.getElem?_append_left
def zX := @List.mem_range
def zY := @Nat.zero_mul
def zZ := @List.length_map
def zf := @Nat.le_of_lt
def zg := @Rat.sub_self
def zj := @Nat.zero_le
def zk := @Nat.div_div_eq_div_mul
def zo := @Rat.intCast_le_intCast
def zt := @Nat.sub_le
def zu := @List.take_append_drop
def wB := @Rat.mkRat_self
def wC := @Rat.mul_zero
def wE := @Nat.mod_add_div
def wF := @Nat.add_sub_cancel
def wG := @Nat.exists_eq_add_of_le
def wH := @List.mem_append_left
def wI := @Nat.le_add_right
def wJ := @Int.natAbs_of_nonneg
def wK := @Int.natCast_ediv
def wL := @List.map_cons
def wM := @Nat.add_comm
def wN := @List.size_toArray
def wO := @Nat.div_mul_le_self
def wP := @Nat.two_pow_pos
def wQ := @List.getElem?_toArray
def wR := @List.eq_nil_of_length_eq_zero
def wU := @List.length_drop
def wV := @List.take_length
def wX := @Int.neg_mul
def wY := @Int.mul_neg
def wZ := @Nat.add_mul_div_left
def wa := @Nat.mul_add_div
def wb := @Rat.intCast_mul
def wc := @List.getElem?_range
def we := @Array.length_toList
def wg := @List.length_pos_iff
def wh := @Nat.lt_mul_div_succ
def wi := @Rat.add_zero
def wj := @Rat.add_mul
def wk := @Rat.mkRat_eq_div
def wl := @Nat.mul_right_comm
def wm := @Rat.sub_eq_add_neg
def wn := @List.drop_eq_getElem_cons
def wo := @Nat.sub_self
def wq := @Option.map_none
def wt := @Option.isSome_iff_exists
def wv := @Rat.not_le
def ww := @Nat.div_le_div_left
def wz := @Option.getD_some
end Go
namespace Go.Ev
inductive SV where
 |bool (b:Bool)
 |int (k:IntKind) (n:Int)
 |str (s:ByteArray)
 |sl (n:Nat) (cells:List SV)
 |agg (cells:List SV)
 |tup (vs:List SV)
 |mem (cells:List SV)
 |fn (f:FuncId) (cap:List SV)
 |con (v:Value)
 deriving Inhabited
inductive TV where
 |sv (s:SV)
 |nil
 |ptr (d g off:Nat)
 |ref (d g size off n:Nat)
 |undef
 |skip
 deriving Inhabited
structure St where
 tmp:Nat->TV
 obj:Nat->Nat->Option (List SV)
 gen:Nat->Nat
def SV.cells:SV->List SV
 | .agg cs=>cs
 |s=>[s]
def SV.one:SV->Bool
 | .agg _=>false
 | .tup _=>false
 |_=>true
def TV.toSV:TV->Option SV
 | .sv s=>some s
 | .nil=>some (.sl 0 [])
 |_=>none
def allSV:List TV->Option (List SV)
 | []=>some []
 |v::r=>match v.toSV,allSV r with
  |some s,some l=>some (s::l)
  |_,_=>none
def N0:Nat:=1000000
def cst:Value->TV
 | .bool b => .sv (.bool b)
 | .int k n => .sv (.int k n)
 | .string s => .sv (.str s)
 | .slice none 0 0 => .nil
 | .pointer none => .sv (.con (.pointer none))
 | .nilIface => .sv (.con .nilIface)
 |_ => .undef
def St.eval (st:St):Operand->TV
 | .tmp t=>st.tmp t
 | .const v=>cst v
 | .func f => .sv (.fn f [])
 | .global _ => .undef
def St.put (st:St) (d:Nat) (v:TV):St:={ st with tmp:=fun t=>if t=d then v else st.tmp t }
def St.putO (st:St) (d:Option Nat) (v:TV):St:=match d with|some d=>st.put d v|none=>st
def St.set (st:St) (d g:Nat) (cs:List SV):St:={ st with obj:=fun d' g'=>if d'=d/\g'=g then some cs else st.obj d' g' }
def St.new (st:St) (d:Nat) (cs:List SV) (v:TV):St:=
 {tmp:=fun t=>if t=d then v else st.tmp t
  obj:=fun d' g'=>if d'=d/\g'=st.gen d then some cs else st.obj d' g'
  gen:=fun d'=>if d'=d then st.gen d+1 else st.gen d' }
def TV.frz (d g:Nat) (cs:List SV):TV->TV
 | .ptr d' g' off=>if d'=d/\g'=g then .sv (.mem (cs.drop off)) else .ptr d' g' off
 | .ref d' g' size off n=>if d'=d/\g'=g then .sv (.sl n ((cs.drop off).take (n*size))) else .ref d' g' size off n
 |v=>v
def St.frzd (st:St) (d g:Nat) (cs:List SV):St:={ st with tmp:=fun t=>(st.tmp t).frz d g cs,obj:=fun d' g'=>if d'=d/\g'=g then none else st.obj d' g' }
def St.frz (st:St) (d g:Nat):Option St:=
 if N0<=d then none else
 match st.obj d g with
 |some cs=>some (st.frzd d g cs)
 |none=>none
def frzAll (st:St):List TV->Option St
 | []=>some st
 |v::r=>match v with
  | .ptr d g _ | .ref d g _ _ _=>match st.obj d g with
   |some _=>match st.frz d g with
    |some st'=>frzAll st' r
    |none=>none
   |none=>frzAll st r
  |_=>frzAll st r
def TV.kill (d g:Nat):TV->TV
 | .ptr d' g' off=>if d'=d/\g'=g then .undef else .ptr d' g' off
 | .ref d' g' size off n=>if d'=d/\g'=g then .undef else .ref d' g' size off n
 |v=>v
def shp (P:Program) (t:TypeId):Option (Bool×Nat):=
 match P.underlying t,P.info? t with
 |some (.struct _),some i=>some (true,i.size)
 |some (.array _ _),some i=>some (true,i.size)
 |some _,some i=>some (false,i.size)
 |_,_=>none
def elm (P:Program) (t:TypeId):Option (Nat×Nat×Nat):=
 match P.underlying t with
 |some (.slice e)=>match P.info? e with
  |some i=>some (e,i.size,i.bytes)
  |none=>none
 |_=>none
def fld (P:Program) (t:TypeId) (f:Nat):Option (Nat×Nat×Nat):=
 match P.underlying t with
 |some (.struct fs)=>match fs[f]? with
  |some x=>match P.info? x.type with
   |some i=>some (x.offset,x.type,i.size)
   |none=>none
  |none=>none
 |_=>none
def ofCell:Value->Option SV
 | .bool b=>some (.bool b)
 | .int k n=>some (.int k n)
 | .string s=>some (.str s)
 | .slice none 0 0=>some (.sl 0 [])
 | .pointer none=>some (.con (.pointer none))
 | .nilIface=>some (.con .nilIface)
 |_=>none
def ofCells:List Value->Option (List SV)
 | []=>some []
 |v::r=>match ofCell v,ofCells r with
  |some s,some l=>some (s::l)
  |_,_=>none
def isPtr (P:Program) (t:TypeId):Bool:=
 match P.underlying t with
 |some (.pointer _)=>true
 |_=>false
def isIface (P:Program) (t:TypeId):Bool:=
 match P.underlying t with
 |some (.interface ..)=>true
 |_=>false
def zer (P:Program) (t:TypeId):Option (List SV):=
 match P.info? t with
 |some i=>match i.zero with
  |some v=>ofCells v.cells.toList
  |none=>none
 |none=>none
def zok (P:Program) (t:TypeId):Bool:=
 match P.info? t with
 |some i=>match i.zero with
  |some z=>z.cells.size==i.size
  |none=>false
 |none=>false
def isInt (P:Program) (t:TypeId):Option IntKind:=
 match P.underlying t with
 |some (.int k)=>some k
 |_=>none
def isBool (P:Program) (t:TypeId):Bool:=
 match P.underlying t with
 |some .bool=>true
 |_=>false
def loadC (sh:Bool×Nat) (cs:List SV):Option SV:=
 if sh.1 then (if sh.2<=cs.length then some (.agg (cs.take sh.2)) else none) else cs.head?
def splice (cs:List SV) (off:Nat) (new:List SV):List SV:=cs.take off++new++cs.drop (off+new.length)
def cmpSV (op:BinOp) (a b:Int):Option SV:=
 match op with
 | .eql=>some (.bool (a==b))
 | .neq=>some (.bool (a != b))
 | .lss=>some (.bool (decide (a<b)))
 | .leq=>some (.bool (decide (a<=b)))
 | .gtr=>some (.bool (decide (a>b)))
 | .geq=>some (.bool (decide (a>=b)))
 |_=>none
def bitsSV (op:BinOp) (k:IntKind) (x y:Int):Option SV:=
 match op with
 | .and=>some (.int k (k.wrap (BitVec.ofInt k.bits x &&& BitVec.ofInt k.bits y).toNat))
 | .or=>some (.int k (k.wrap (BitVec.ofInt k.bits x |||BitVec.ofInt k.bits y).toNat))
 | .xor=>some (.int k (k.wrap (BitVec.ofInt k.bits x ^^^ BitVec.ofInt k.bits y).toNat))
 | .andNot=>some (.int k (k.wrap (BitVec.ofInt k.bits x &&& ~~~ BitVec.ofInt k.bits y).toNat))
 |_=>none
def intSV (op:BinOp) (k:IntKind) (a b:Int):Option SV:=
 match op with
 | .add=>some (.int k (k.wrap (a+b)))
 | .sub=>some (.int k (k.wrap (a-b)))
 | .mul=>some (.int k (k.wrap (a*b)))
 | .quo=>if b=0 then none else some (.int k (k.wrap (a.tdiv b)))
 | .rem=>if b=0 then none else some (.int k (a.tmod b))
 | .and=>bitsSV .and k a b
 | .or=>bitsSV .or k a b
 | .xor=>bitsSV .xor k a b
 | .andNot=>bitsSV .andNot k a b
 |op=>cmpSV op a b
def strSV (op:BinOp) (x y:ByteArray):Option SV:=
 match op with
 | .add=>if x.size+y.size<=9223372036854775807 then some (.str (x++y)) else none
 | .eql=>some (.bool (x.toList==y.toList))
 | .neq=>some (.bool (!(x.toList==y.toList)))
 | .lss=>some (.bool (Op.bytesLess x.toList y.toList))
 | .leq=>some (.bool (Op.bytesLess x.toList y.toList||x.toList==y.toList))
 | .gtr=>some (.bool (!(Op.bytesLess x.toList y.toList||x.toList==y.toList)))
 | .geq=>some (.bool (!Op.bytesLess x.toList y.toList))
 |_=>none
def nilSV (op:BinOp) (b:Bool):Option SV:=
 match op with
 | .eql=>some (.bool b)
 | .neq=>some (.bool (!b))
 |_=>none
def isCst:Operand->Bool
 | .const _=>true
 |_=>false
def binSV (P:Program) (k:Bool) (op:BinOp) (t:TypeId):SV->SV->Option SV
 | .int k a,.int k' b=>match op with
  | .shl=>if 0<=b then some (.int k (k.wrap (a*2^(min b.toNat k.bits)))) else none
  | .shr=>if 0<=b then some (.int k (a.fdiv (2^(min b.toNat k.bits)))) else none
  |op=>if k=k' then intSV op k a b else none
 | .bool a,.bool b=>match op with
  | .eql=>if isBool P t then some (.bool (a==b)) else none
  | .neq=>if isBool P t then some (.bool (!(a==b))) else none
  |_=>none
 | .str a,.str b=>strSV op a b
 | .con (.pointer none),.con (.pointer none)=>if isPtr P t then nilSV op true else none
 | .mem _,.con (.pointer none)=>if isPtr P t then nilSV op false else none
 | .con .nilIface,.con .nilIface=>if k&&isIface P t then nilSV op true else none
 |_,_=>none
def ptrSV (P:Program) (op:BinOp) (t:TypeId):TV->TV->Option SV
 | .ptr _ _ _,.sv (.con (.pointer none))=>if isPtr P t then nilSV op false else none
 |_,_=>none
def unSV (op:UnOp):SV->Option SV
 | .int k n=>match op with
  | .neg=>some (.int k (k.wrap (0-n)))
  | .xor=>bitsSV .xor k (if k.signed then -1 else k.max) n
  |_=>none
 | .bool b=>match op with
  | .not=>some (.bool (!b))
  |_=>none
 |_=>none
def bytesOf:List SV->Option (List UInt8)
 | []=>some []
 | .int .u8 n::r=>match bytesOf r with
  |some l=>some (UInt8.ofNat n.toNat::l)
  |none=>none
 |_=>none
def partC (sh:Bool×Nat) (cs:List SV) (off:Nat):Option SV:=
 if sh.1 then (if off+sh.2<=cs.length then some (.agg ((cs.drop off).take sh.2)) else none) else cs[off]?
def plcs (P:Program):List Field->Option (List (Nat×Nat))
 | []=>some []
 |f::r=>match P.info? f.type,plcs P r with
  |some i,some l=>some ((f.offset,i.size)::l)
  |_,_=>none
def plc (P:Program) (t:TypeId):Option (List (Nat×Nat)):=
 match P.underlying t with
 |some (.struct fs)=>plcs P fs.toList
 |_=>none
def fillC (ps:List (Nat×Nat)) (cs:List SV):List (Nat×SV)->Option (List SV)
 | []=>some cs
 |(f,s)::r=>match ps[f]? with
  |some (off,size)=>if s.cells.length=size/\off+size<=cs.length then fillC ps (splice cs off s.cells) r else none
  |none=>none
def elemsC (size:Nat):Nat->List (Nat×SV)->Option (List SV)
 |_,[]=>some []
 |i,(j,s)::r=>if i=j/\s.cells.length=size then match elemsC size (i+1) r with
   |some l=>some (s.cells++l)
   |none=>none
  else none
def partsSV (st:St):List (Nat×Operand)->Option (List (Nat×SV))
 | []=>some []
 |(i,x)::r=>match (st.eval x).toSV,partsSV st r with
  |some s,some l=>some ((i,s)::l)
  |_,_=>none
def oneAll (cs:List SV):Bool:=cs.all SV.one
def litC (P:Program) (st:St) (t:TypeId) (n:Nat) (parts:Array (Nat×Operand)):Option (Nat×List SV):=
 match elm P t,partsSV st parts.toList with
 |some (e,size,_),some ps=>if ps.length=n/\n*size<=65536/\zok P e then match elemsC size 0 ps with
   |some cs=>if oneAll cs then some (size,cs) else none
   |none=>none
  else none
 |_,_=>none
def minSV:List SV->Option SV
 | [.int k a,.int _ b]=>some (.int k (if b<a then b else a))
 |_=>none
def maxSV:List SV->Option SV
 | [.int k a,.int _ b]=>some (.int k (if b>a then b else a))
 |_=>none
def sliceTV (size:Nat) (lo hi:Nat):TV->Option TV
 | .sv (.sl n cs)=>if lo<=hi/\hi<=n then some (.sv (.sl (hi-lo) ((cs.drop (lo*size)).take ((hi-lo)*size)))) else none
 | .nil=>if lo=0/\hi=0 then some .nil else none
 | .ref d g sz off n=>if sz=size/\lo<=hi/\hi<=n/\(lo=0\/lo<hi) then some (.ref d g sz (off+lo*size) (hi-lo)) else none
 |_=>none
def lenTV:TV->Option Nat
 | .sv (.sl n _)=>some n
 | .sv (.str s)=>some s.size
 | .nil=>some 0
 | .ref _ _ _ _ n=>some n
 |_=>none
def natTV:TV->Option Nat
 | .sv (.int _ i)=>if 0<=i then some i.toNat else none
 |_=>none
def loNat (st:St):Option Operand->Option Nat
 |some o=>natTV (st.eval o)
 |none=>some 0
def hiNat (st:St) (x:Operand):Option Operand->Option Nat
 |some o=>natTV (st.eval o)
 |none=>lenTV (st.eval x)
def isStr (P:Program) (t:TypeId):Bool:=
 match P.underlying t with
 |some .string=>true
 |_=>false
def hasTy (P:Program) (t:TypeId):Bool:=(P.underlying t).isSome
def sliceV (P:Program) (t:TypeId) (l h:Nat) (v:TV):Option TV:=
 match v with
 | .sv (.str s)=>if isStr P t/\l<=h/\h<=s.size then some (.sv (.str (s.extract l h))) else none
 |v=>match elm P t with
  |some (_,size,_)=>sliceTV size l h v
  |none=>none
def val (P:Program) (st:St) (op:Op):Option TV:=
 match op with
 | .move x | .assign x=>some (st.eval x)
 | .pick c a b=>match st.eval c with
  | .sv (.bool t)=>some (if t then st.eval a else st.eval b)
  |_=>none
 | .build t parts=>match plc P t,zer P t,partsSV st parts.toList with
  |some pl,some cs,some ps=>match fillC pl cs ps with
   |some cs'=>some (.sv (.agg cs'))
   |none=>none
  |_,_,_=>none
 | .load t x=>match shp P t with
  |some sh=>match st.eval x with
   | .ptr d g off=>match st.obj d g with
    |some cs=>(loadC sh (cs.drop off)).map TV.sv
    |none=>none
   | .sv (.mem cs)=>(loadC sh cs).map TV.sv
   |_=>none
  |none=>none
 | .binOp op t x y _=>match (st.eval x).toSV,(st.eval y).toSV with
  |some a,some b=>(binSV P (isCst y) op t a b).map TV.sv
  |_,_=>(ptrSV P op t (st.eval x) (st.eval y)).map TV.sv
 | .nilCheck x=>match st.eval x with
  | .ptr d g off=>some (.ptr d g off)
  | .sv (.mem cs)=>some (.sv (.mem cs))
  |_=>none
 | .unOp op _ x=>match (st.eval x).toSV with
  |some a=>(unSV op a).map TV.sv
  |none=>none
 | .convert src dst x=>match st.eval x with
  | .sv (.int _ n)=>match isInt P dst with
   |some k=>if hasTy P src then some (.sv (.int k (k.wrap n))) else none
   |none=>none
  | .sv (.str s)=>if hasTy P src/\isStr P dst then some (.sv (.str s)) else none
  | .sv (.sl n cs)=>match P.underlying src,P.underlying dst with
   |some (.slice e),some .string=>match isInt P e,bytesOf cs with
    |some .u8,some l=>if cs.length=n then some (.sv (.str ⟨l.toArray⟩)) else none
    |_,_=>none
   |_,_=>none
  |_=>none
 | .extract x i=>match st.eval x with
  | .sv (.tup vs)=>(vs[i]?).map TV.sv
  |_=>none
 | .field t x f=>match st.eval x with
  | .sv (.agg cs)=>match fld P t f with
   |some (off,ty,_)=>match shp P ty with
    |some sh=>(partC sh cs off).map TV.sv
    |none=>none
   |none=>none
  |_=>none
 | .fieldAddr t x f=>match fld P t f with
  |some (off,_,size)=>if size=0 then none else match st.eval x with
   | .ptr d g o=>some (.ptr d g (o+off))
   | .sv (.mem cs)=>some (.sv (.mem (cs.drop off)))
   |_=>none
  |none=>none
 | .indexAddr t x ix=>match elm P t,natTV (st.eval ix) with
  |some (_,size,_),some i=>match st.eval x with
   | .sv (.sl n cs)=>if i<n/\0<cs.length then some (.sv (.mem (cs.drop (i*size)))) else none
   | .ref d g sz off n=>if sz=size/\i<n then some (.ptr d g (off+i*size)) else none
   |_=>none
  |_,_=>none
 | .index t x ix=>match natTV (st.eval ix),st.eval x with
  |some i,.sv (.str s)=>match P.underlying t with
   |some .string=>match s[i]? with
    |some b=>some (.sv (.int .u8 b.toNat))
    |none=>none
   |_=>none
  |_,_=>none
 | .slice t x lo hi mx=>if mx.isSome then none else match loNat st lo,hiNat st x hi with
  |some l,some h=>sliceV P t l h (st.eval x)
  |_,_=>none
 | .makeFunc (.func f) first captured=>if first.size=0 then
   match allSV (captured.toList.map st.eval) with
   |some l=>some (.sv (.fn f l))
   |none=>none
  else none
 | .call { callee := .builtin .len,args,argTypes }=>match args.toList,argTypes.toList with
  | [x],[t]=>match lenTV (st.eval x),st.eval x with
   |some n,.sv (.str _)=>match P.underlying t with
    |some .string=>some (.sv (.int .i64 n))
    |_=>none
   |some n,_=>match elm P t with
    |some _=>some (.sv (.int .i64 n))
    |none=>none
   |none,_=>none
  |_,_=>none
 | .call { callee := .builtin .min,args,.. }=>match allSV (args.toList.map st.eval) with
  |some l=>(minSV l).map TV.sv
  |none=>none
 | .call { callee := .builtin .max,args,.. }=>match allSV (args.toList.map st.eval) with
  |some l=>(maxSV l).map TV.sv
  |none=>none
 |_=>none
inductive Arg where
 |sv (s:SV)
 |imp (cs:List SV)
 |impref (cs:List SV) (size off n:Nat)
inductive Ret where
 |sv (s:SV)
 |obj (cs:List SV)
 |row (cs:List SV) (size off n:Nat)
abbrev Callf:=FuncId->List Arg->Option (Ret×List (Option (List SV)))
def impArgs (st:St):List TV->Option (List Arg)
 | []=>some []
 |v::r=>match impArgs st r with
  |none=>none
  |some l=>match v with
   | .ptr d g 0=>match st.obj d g with
    |some cs=>some (.imp cs::l)
    |none=>none
   | .ref d g size off n=>match st.obj d g with
    |some cs=>some (.impref cs size off n::l)
    |none=>none
   |v=>match v.toSV with
    |some s=>some (.sv s::l)
    |none=>none
def impIds:List TV->List (Nat×Nat)
 | []=>[]
 | .ptr d g _::r=>(d,g)::impIds r
 | .ref d g _ _ _::r=>(d,g)::impIds r
 |_::r=>impIds r
def distinct:List (Nat×Nat)->Bool
 | []=>true
 |x::r => !r.contains x&&distinct r
def expAll (st:St):List TV->List (Option (List SV))->Option St
 | [],[]=>some st
 | .ptr d g _::r,some cs::l=>expAll (st.set d g cs) r l
 | .ref d g _ _ _::r,some cs::l=>expAll (st.set d g cs) r l
 | .ptr _ _ _::_,none::_=>none
 | .ref _ _ _ _ _::_,none::_=>none
 |_::r,none::l=>expAll st r l
 |_,_=>none
def afterCall (soft:Bool) (dst:Option Nat) (st:St):Option (Ret×List (Option (List SV)))->Option St
 |some (.sv r,_)=>some (st.putO dst (.sv r))
 |some (.obj cs,_)=>if soft then none else match dst with
  |some d=>some (st.new d cs (.ptr d (st.gen d) 0))
  |none=>none
 |some (.row cs size off n,_)=>if soft then some (st.putO dst (.sv (.sl n ((cs.drop off).take (n*size))))) else match dst with
  |some d=>some (st.new d cs (.ref d (st.gen d) size off n))
  |none=>none
 |none=>none
mutual
def sameSV:SV->SV->Bool
 | .bool a,.bool b=>decide (a=b)
 | .int k a,.int l b=>decide (k=l)&&decide (a=b)
 | .str a,.str b=>decide (a.data.toList=b.data.toList)
 | .sl n a,.sl m b=>decide (n=m)&&sameL a b
 | .agg a,.agg b=>sameL a b
 |_,_=>false
def sameL:List SV->List SV->Bool
 | [],[]=>true
 |a::r,b::s=>sameSV a b&&sameL r s
 |_,_=>false
end
def roCall (call:Callf) (mu:FuncId->Bool) (dst:Option Nat) (g:FuncId) (caps:List SV) (vs:List TV) (st:St):Option St:=
 match vs with
 | .ptr d g' 0::r=>match st.obj d g',allSV r with
  |some cs,some ss=>if mu g then match call g (.imp cs::(ss++caps).map Arg.sv) with
    |some (.sv s,exps)=>match exps.take (r.length+1) with
     |some cs'::e=>if sameL cs' cs&&(e.all Option.isNone&&decide (e.length=r.length)) then some (st.putO dst (.sv s)) else none
     |_=>none
    |_=>none
   else none
  |_,_=>none
 |_=>none
def acall (call:Callf) (mu:FuncId->Bool) (soft:Bool) (dst:Option Nat) (f:Operand) (args:List Operand) (st:St):Option St:=
 match st.eval f with
 | .sv (.fn g caps)=>
  match allSV (args.map st.eval) with
  |some ss=>afterCall soft dst st (call g ((ss++caps).map Arg.sv))
  |none=>if soft then roCall call mu dst g caps (args.map st.eval) st else
   if mu g then
    if distinct (impIds (args.map st.eval)) then
     match impArgs st (args.map st.eval) with
     |some ars=>match call g (ars++caps.map Arg.sv) with
      |some (r,exps)=>match expAll st (args.map st.eval) (exps.take args.length) with
       |some st'=>match r with
        | .sv s=>some (st'.putO dst (.sv s))
        |_=>none
       |none=>none
      |none=>none
     |none=>none
    else none
   else match frzAll st (args.map st.eval) with
    |some st'=>match allSV (args.map st'.eval) with
     |some ss=>afterCall soft dst st' (call g ((ss++caps).map Arg.sv))
     |none=>none
    |none=>none
 |_=>none
def hard (P:Program) (dst:Option Nat) (st:St) (op:Op):Option St:=
 match op,dst with
 | .alloc t,some d=>match zer P t with
  |some cs=>some (st.new d cs (.ptr d (st.gen d) 0))
  |none=>none
 | .box _ x,some d=>match (st.eval x).toSV with
  |some s=>if oneAll s.cells then some (st.new d s.cells (.ptr d (st.gen d) 0)) else none
  |none=>none
 | .buildSlice t n parts,some d=>match litC P st t n parts with
  |some (size,cs)=>some (st.new d cs (.ref d (st.gen d) size 0 n))
  |none=>match frzAll st (parts.toList.map fun p=>st.eval p.2) with
   |some st'=>match litC P st' t n parts with
    |some (size,cs)=>some (st'.new d cs (.ref d (st'.gen d) size 0 n))
    |none=>none
   |none=>none
 | .makeSlice t l c,some d=>match elm P t with
  |some (e,size,bytes)=>match natTV (st.eval l),natTV (st.eval c),zer P e with
   |some n,some m,some z=>if n=m/\n<=1099511627776/\bytes<=128/\z.length=size/\0<size then
     some (st.new d ((List.replicate n z).flatten) (.ref d (st.gen d) size 0 n)) else none
   |_,_,_=>none
  |none=>none
 |_,_=>none
def store (P:Program) (soft:Bool) (st:St) (t:TypeId) (a x:Operand):Option St:=
 match shp P t,st.eval a with
 |some (_,size),.ptr d g off=>
  match (st.eval x).toSV with
  |some s=>match st.obj d g with
   |some cs=>if s.cells.length=size/\oneAll s.cells/\off+size<=cs.length then some (st.set d g (splice cs off s.cells)) else none
   |none=>none
  |none=>if soft then none else match st.eval x with
   | .ref d' g' _ _ _=>if d'=d/\g'=g then none else match st.frz d' g' with
    |some st'=>match (st'.eval x).toSV,st'.obj d g with
     |some s,some cs=>if s.cells.length=size/\oneAll s.cells/\off+size<=cs.length then some (st'.set d g (splice cs off s.cells)) else none
     |_,_=>none
    |none=>none
   |_=>none
 |_,_=>none
def moreOf (st:St) (size:Nat):TV->Option (Nat×List SV)
 | .sv (.sl m cs)=>some (m,cs)
 | .nil=>some (0,[])
 | .ref d g sz off m=>if sz=size then match st.obj d g with
   |some cs=>some (m,(cs.drop off).take (m*size))
   |none=>none
  else none
 |_=>none
def St.grow (st:St) (d d' g' size n m:Nat) (cs:List SV):St:=
 {tmp:=fun t=>if t=d then .ref d' g' size 0 (n+m) else (st.tmp t).kill d' g'
  obj:=fun d1 g1=>if d1=d'/\g1=g' then some cs else st.obj d1 g1
  gen:=st.gen }
def appendTo (st:St) (d size m:Nat) (new:List SV):TV->Option St
 | .nil=>if m=0 then some (st.put d .nil) else
   if m<=274877906944 then some (st.new d new (.ref d (st.gen d) size 0 m)) else none
 | .ref d' g' sz off n=>if m=0 then some (st.put d (.ref d' g' sz off n)) else
   if sz=size/\off=0/\d'<N0/\n+m<=274877906944 then match st.obj d' g' with
    |some cs=>if cs.length=n*size then some (st.grow d d' g' size n m (cs++new)) else none
    |none=>none
   else none
 |_=>none
def append (P:Program) (dst:Option Nat) (st:St) (t:TypeId) (s x:Operand):Option St:=
 match elm P t,dst with
 |some (e,size,bytes),some d=>match moreOf st size (st.eval x) with
  |some (m,new)=>if new.length=m*size/\bytes<=128/\0<size/\zok P e/\oneAll new then appendTo st d size m new (st.eval s) else none
  |none=>none
 |_,_=>none
def copy (P:Program) (dst:Option Nat) (st:St) (t:TypeId) (s x:Operand):Option St:=
 match elm P t,st.eval s with
 |some (_,size,_),.ref d g sz off n=>match moreOf st size (st.eval x),st.obj d g with
  |some (m,new),some cs=>if sz=size/\new.length=m*size/\m<=n/\off+m*size<=cs.length/\oneAll new then
    some ((st.set d g (splice cs off new)).putO dst (.sv (.int .i64 m)))
   else none
  |_,_=>none
 |_,_=>none
def frzV (P:Program) (dst:Option Nat) (st:St) (op:Op):Option St:=
 match op with
 | .build t parts=>match frzAll st (parts.toList.map fun p=>st.eval p.2) with
  |some st'=>match val P st' (.build t parts) with
   |some v=>some (st'.putO dst v)
   |none=>none
  |none=>none
 | .makeFunc f first captured=>match frzAll st (captured.toList.map st.eval) with
  |some st'=>match val P st' (.makeFunc f first captured) with
   |some v=>some (st'.putO dst v)
   |none=>none
  |none=>none
 | .convert s t x=>match frzAll st [st.eval x]with
  |some st'=>match val P st' (.convert s t x) with
   |some v=>some (st'.putO dst v)
   |none=>none
  |none=>none
 |_=>none
def step (P:Program) (call:Callf) (mu:FuncId->Bool) (soft:Bool) (dst:Option Nat) (op:Op) (st:St):Option St:=
 match op with
 | .call { callee := .value f,args,.. }=>acall call mu soft dst f args.toList st
 | .call { callee := .builtin .append,args,argTypes }=>match args.toList,argTypes.toList with
  | [s,x],[t,t']=>if t=t' then append P dst st t s x else none
  |_,_=>none
 | .call { callee := .builtin .copy,args,argTypes }=>match args.toList,argTypes.toList with
  | [s,x],t::_=>copy P dst st t s x
  |_,_=>none
 | .store t a x=>if dst.isSome then none else store P soft st t a x
 | .alloc t=>hard P dst st (.alloc t)
 | .box t x=>hard P dst st (.box t x)
 | .buildSlice t n parts=>if soft then match litC P st t n parts with
   |some (_,cs)=>some (st.putO dst (.sv (.sl n cs)))
   |none=>none
  else hard P dst st (.buildSlice t n parts)
 | .makeSlice t l c=>hard P dst st (.makeSlice t l c)
 |op=>match val P st op with
  |some v=>some (st.putO dst v)
  |none=>if soft then none else frzV P dst st op
def isStore:Op->Bool
 | .store .. => true
 |_=>false
def isLoad:Op->Bool
 | .load .. => true
 |_=>false
def isAlloc:Op->Bool
 | .alloc _=>true
 | .makeSlice .. => true
 |_=>false
def isHard:Op->Bool
 | .box .. => true
 | .call { callee := .builtin .append,.. }=>true
 | .call { callee := .builtin .copy,.. }=>true
 |_=>false
def isMem (o:Op):Bool:=isStore o||isLoad o||isAlloc o
def isW (o:Op):Bool:=isStore o||isAlloc o
def calm (x y:Op):Bool := !(isW x&&isMem y) && !(isMem x&&isW y)
def lkT (ops:Array Oper):List Nat:=ops.toList.filterMap fun o=>match o.op,o.dst with
 | .store _ (.tmp s) _,_=>some s
 | .alloc _,some d=>some d
 | .makeSlice ..,some d=>some d
 |_,_=>none
def force {α:Type} (n:Nat) (f:Nat->α):α:=match n with
 |0=>f 0
 |m+1=>f (m+1)
def rowOf (rows:List Nat):List Edge->Nat
 | []=>0
 |e::r=>if Region.binds .any e&&decide (e.on<rows.length) then 2^e.on |||(rows.getD (rows.length-1-e.on) 0 |||rowOf rows r) else rowOf rows r
def rowsOf:List Oper->List Nat->List Nat
 | [],rows=>rows
 |o::r,rows=>force (rowOf rows o.after.toList) fun m=>rowsOf r (m::rows)
def okRowP (ind:Oper->Oper->Bool) (ops:Array Oper) (j m:Nat):Bool:=match ops[j]? with
 |some y=>(y.after.all fun e => !Region.binds .any e||decide (e.on<j))&&(List.range j).all fun i=>m.testBit i||match ops[i]? with
  |some x=>ind x y
  |none=>false
 |none=>false
def okRowsP (ind:Oper->Oper->Bool) (ops:Array Oper):List Nat->Bool
 | []=>true
 |m::r=>okRowP ind ops r.length m&&okRowsP ind ops r
def calmAll (ops:Array Oper):Bool:=(ops.toList.all fun x=>isHard x.op || !isW x.op||ops.toList.all fun y=>isHard y.op || !isMem y.op) ||
 okRowsP (fun x y=>isHard x.op||isHard y.op||calm x.op y.op) ops (rowsOf ops.toList [])
def TV.adr:TV->Option Nat
 | .ptr d _ _=>some d
 |_=>none
def lkv (ops:Array Oper) (op:Op) (a:Option Nat):Bool:=
 calmAll ops||match op,a with
 | .load _ x,some d=>(lkT ops).all fun s=>s != d||(match x with | .tmp t=>t==s|_=>false)
 | .store _ x _,some d=>match x with | .tmp t=>t==d|_=>false
 | .store ..,none=>false
 |_,_=>true
def adrOp (st:St):Op->Option Nat
 | .load _ x=>(st.eval x).adr
 | .store _ x _=>(st.eval x).adr
 | .call { callee := .value _,args,.. }=>match args.toList with
  |x::_=>(st.eval x).adr
  | []=>none
 |_=>none
def noW (ops:Array Oper):Bool:=ops.toList.all fun o => !isW o.op
def muS (mu:FuncId->Bool) (soft:Bool) (ops:Array Oper):FuncId->Bool:=match soft with
 |true=>fun f=>mu f&&noW ops
 |false=>mu
def stepS (P:Program) (call:Callf) (mu:FuncId->Bool) (soft:Bool) (ops:Array Oper) (dst:Option Nat) (op:Op) (st:St):Option St:=
 if soft&&isMem op && !lkv ops op (adrOp st op) then none else step P call (muS mu soft ops) soft dst op st
def stepO (P:Program) (call:Callf) (mu:FuncId->Bool) (soft:Bool) (ops:Array Oper) (o:Oper) (st:St):Option St:=
 match o.guard with
 |none=>stepS P call mu soft ops o.dst o.op st
 |some (j,want)=>match (ops[j]?).bind (·.dst) with
  |some t=>match st.tmp t with
   | .sv (.bool b)=>if b=want then stepS P call mu soft ops o.dst o.op st else some (st.putO o.dst .skip)
   | .skip=>some (st.putO o.dst .skip)
   |_=>none
  |none=>none
def execOps (P:Program) (call:Callf) (mu:FuncId->Bool) (soft:Bool) (ops:Array Oper):List Oper->St->Option St
 | [],st=>some st
 |o::r,st=>match stepO P call mu soft ops o st with
  |some st'=>execOps P call mu soft ops r st'
  |none=>none
inductive Ex where
 |normal
 |exit (id:Nat)
 |ret
 |goto (l:Nat)
def argSt (args:List Arg):St:=
 {tmp:=fun t=>match args[t]? with
   |some (.sv s) => .sv s
   |some (.imp _) => .ptr (N0+t) 0 0
   |some (.impref _ size off n) => .ref (N0+t) 0 size off n
   |none => .undef
  obj:=fun d g=>if N0<=d/\g=0 then (match args[d-N0]? with
   |some (.imp cs)=>some cs
   |some (.impref cs _ _ _)=>some cs
   |_=>none) else none
  gen:=fun d=>if N0<=d then 1 else 0 }
def outSV (st:St):TV->Option SV
 | .sv s=>some s
 | .nil=>some (.sl 0 [])
 | .ref d g size off n=>if d<N0 then match st.obj d g with
   |some cs=>some (.sl n ((cs.drop off).take (n*size)))
   |none=>none
  else none
 |_=>none
def resTV (P:Program) (st:St):ResultVar->Option TV
 | .tmp t=>some (st.tmp t)
 | .cell a t=>match shp P t,st.tmp a with
  |some sh,.ptr d g off=>match st.obj d g with
   |some cs=>(loadC sh (cs.drop off)).map TV.sv
   |none=>none
  |_,_=>none
def resSVs (P:Program) (st:St):List ResultVar->Option (List SV)
 | []=>some []
 |r::rs=>match resTV P st r,resSVs P st rs with
  |some v,some l=>match outSV st v with
   |some s=>some (s::l)
   |none=>none
  |_,_=>none
def retOf (P:Program) (st:St) (rs:List ResultVar):Option Ret:=
 match rs with
 | [r]=>match resTV P st r with
  |some (.ptr d g 0)=>if d<N0 then (st.obj d g).map Ret.obj else none
  |some v=>(outSV st v).map Ret.sv
  |none=>none
 |rs=>(resSVs P st rs).map fun l=>Ret.sv (.tup l)
def retRow (P:Program) (st:St) (rs:List ResultVar):Option Ret:=
 match rs with
 | [r]=>match resTV P st r with
  |some (.ref d g size off n)=>if d<N0 then (st.obj d g).map fun cs=>Ret.row cs size off n else none
  |_=>none
 |_=>none
def expOf (st:St) (args:List Arg):List (Option (List SV)):=
 (List.range args.length).map fun (i:Nat)=>match (args[i]?:Option Arg) with
  |some (.imp _)=>st.obj (N0+i) 0
  |some (.impref _ _ _ _)=>st.obj (N0+i) 0
  |_=>none
def rootT:Nat->List Oper->Nat->Nat
 |0,_,t=>t
 |n+1,ops,t=>match ops.find? (fun o=>match o.dst with|some d=>Nat.beq d t|none=>false) with
  |some { op := .move (.tmp s),.. }=>rootT n ops s
  |some { op := .slice _ (.tmp s) _ _ _,.. }=>rootT n ops s
  |_=>t
def rootB (ops:List Oper) (t:Nat):Option Nat:=
 if ops.any (fun o=>match o.dst with|some d=>Nat.beq d (rootT 4 ops t)|none=>false) then none else some (rootT 4 ops t)
def rootsOf (P:Program) (ops:Array Oper):List Nat:=ops.toList.flatMap fun o=>match o.op with
 | .call { callee := .value _,args,argTypes }=>(args.toList.zip argTypes.toList).filterMap fun x=>match x.1 with
  | .tmp t=>if (elm P x.2).isSome then some (rootT 4 ops.toList t) else none
  |_=>none
 | .build _ parts=>parts.toList.filterMap fun x=>match x.2 with
  | .tmp t=>rootB ops.toList t
  |_=>none
 |_=>[]
def ownRef:TV->Bool
 | .ref d _ _ _ _=>decide (d<N0)
 |_=>false
def preFrz (P:Program) (draw:Bool) (ops:Array Oper) (st:St):Option St:=
 if draw then frzAll st (((rootsOf P ops).map st.tmp).filter ownRef) else some st
def jumps (run:Code->St->Option (Ex×St)) (c:Code):Nat->Option (Ex×St)->Option (Ex×St)
 |0,_=>none
 |n+1,r=>match r with
  |some (.goto l,st)=>match findLabel c l with
   |some rest=>jumps run c n (run rest st)
   |none=>some (.goto l,st)
  |r=>r
def exec (P:Program) (call:Callf) (mu:FuncId->Bool):Nat->Code->St->Option (Ex×St)
 |0,_,_=>none
 |n+1,c,st=>match c with
  | .skip=>some (.normal,st)
  | .region _ ops draw=>match preFrz P draw ops st with
   |some st0=>match execOps P call mu draw ops ops.toList st0 with
    |some st'=>some (.normal,st')
    |none=>none
   |none=>none
  | .seq a b=>match exec P call mu n a st with
   |some (.normal,st')=>exec P call mu n b st'
   |r=>r
  | .cond x t e=>match st.eval x with
   | .sv (.bool b)=>exec P call mu n (if b then t else e) st
   |_=>none
  | .block id c=>match exec P call mu n c st with
   |some (.exit i,st')=>if i=id then some (.normal,st') else some (.exit i,st')
   |r=>r
  | .loop c=>match exec P call mu n c st with
   |some (.normal,st')=>exec P call mu n (.loop c) st'
   |r=>r
  | .exit id=>some (.exit id,st)
  | .scope c=>jumps (exec P call mu n) c n (exec P call mu n c st)
  | .label _=>some (.normal,st)
  | .goto l=>some (.goto l,st)
  | .ret=>some (.ret,st)
  |_=>none
def readsOf (ops:Array Oper) (o:Oper):List Nat:=
 (o.op.operands.toList.filterMap fun | .tmp t=>some t|_=>none) ++
 (match o.guard with
  |some (g,_)=>((ops[g]?).bind (·.dst)).toList
  |none=>[])
def memOp:Op->Option Operand
 | .load _ a=>some a
 | .store _ a _=>some a
 |_=>none
def apartX (a b:Option Operand):Bool:=
 match a,b with
 |some (.tmp s),some (.tmp t)=>s != t
 |some _,some _=>false
 |_,_=>true
def apart (x y:Op):Bool := !(isStore x||isStore y)||apartX (memOp x) (memOp y)
def indep (ops:Array Oper) (x y:Oper):Bool:=
 !isHard x.op && !isHard y.op &&
 ((match x.dst with
  |some d => !(readsOf ops y).contains d&&y.dst != some d
  |none=>true) &&
 ((match y.dst with
  |some d => !(readsOf ops x).contains d
  |none=>true) &&
 (calm x.op y.op || !calmAll ops&&apart x.op y.op)))
def okRow (ops:Array Oper) (j m:Nat):Bool:=okRowP (indep ops) ops j m
def okRows (ops:Array Oper) (rows:List Nat):Bool:=okRowsP (indep ops) ops rows
def okDraw (ops:Array Oper):Bool:=okRows ops (rowsOf ops.toList [])
def okCode (n:Nat):Code->Bool
 | .region _ ops draw=>ops.all (fun o=>match o.dst with|some d=>decide (d<n)|none=>true)&&(!draw||okDraw ops)
 | .seq a b=>okCode n a&&okCode n b
 | .cond _ a b=>okCode n a&&okCode n b
 | .block _ c=>okCode n c
 | .loop c=>okCode n c
 | .scope c=>okCode n c
 |_=>true
def okFn (P : Program) (fn : Func) : Bool := P.follows .mixedOrders && fn.name != "runtime.NumGoroutine" && decide (fn.ntmps <= N0) && (match fn.body with | some c => okCode fn.ntmps c | none => false)
def callN (P:Program) (X:Callf) (mu good:FuncId->Bool):Nat->Callf
 |0=>fun _ _=>none
 |n+1=>fun f args=>match X f args with
  |some r=>some r
  |none=>match P.funcs[f]? with
   |some fn=>if good f then match fn.body with
     |some c=>if args.length<=fn.ntmps then match exec P (callN P X mu good n) mu n c (argSt args) with
       |some (.normal,st)=>(retOf P st fn.results.toList).map fun r=>(r,expOf st args)
       |some (.ret,st)=>(retOf P st fn.results.toList).map fun r=>(r,expOf st args)
       |_=>none
      else none
     |none=>none
    else none
   |none=>none
def rowN (P:Program) (X:Callf) (mu good:FuncId->Bool) (n:Nat) (f:FuncId) (args:List Arg):Option (Ret×List (Option (List SV))):=
 match P.funcs[f]? with
 |some fn=>if good f then match fn.body with
   |some c=>if args.length<=fn.ntmps then match exec P (callN P X mu good n) mu n c (argSt args) with
     |some (.normal,st)=>(retRow P st fn.results.toList).map fun r=>(r,expOf st args)
     |some (.ret,st)=>(retRow P st fn.results.toList).map fun r=>(r,expOf st args)
     |_=>none
    else none
   |none=>none
  else none
 |none=>none
end Go.Ev
attribute [go_sem_proc] Nat.reduceEqDiff Nat.reduceAdd Nat.reduceSub Nat.reduceMul Nat.reduceLeDiff Nat.reduceLT reduceIte reduceCtorEq Int.reduceToNat Nat.reducePow Int.reducePow
attribute [go_sem] Nat.succ_ne_zero Go.Ev.elemsC
namespace Go.Ev
inductive Rep (w:World) (M:Nat->Prop):Value->SV->Prop
 |bool (b:Bool):Rep w M (.bool b) (.bool b)
 |int (k:IntKind) (n:Int):Rep w M (.int k n) (.int k n)
 |str (s:ByteArray):Rep w M (.string s) (.str s)
 |sl0 (A:Option Addr) (n cap:Nat) (h:n<=cap):Rep w M (.slice A n cap) (.sl n [])
 |sl (a:Addr) (n cap:Nat) (h:n<=cap) (cells:List SV) (c:Nat->Value) (hb : ¬M a.block)
   (hc : ∀i s,cells[i]?=some s->w.cell? (a.add i)=some (c i)) (hr : ∀i s,cells[i]?=some s->Rep w M (c i) s):Rep w M (.slice (some a) n cap) (.sl n cells)
 |agg (vs:Array Value) (cells:List SV) (hl:vs.size=cells.length) (hr : ∀i s,cells[i]?=some s->Rep w M (vs.getD i undef) s):Rep w M (.agg vs) (.agg cells)
 |tup (vs:Array Value) (cells:List SV) (hl:vs.size=cells.length) (hr : ∀i s,cells[i]?=some s->Rep w M (vs.getD i undef) s):Rep w M (.tuple vs) (.tup cells)
 |mem0 (a:Addr):Rep w M (.pointer (some a)) (.mem [])
 |mem (a:Addr) (cells:List SV) (c:Nat->Value) (hb : ¬M a.block)
   (hc : ∀i s,cells[i]?=some s->w.cell? (a.add i)=some (c i)) (hr : ∀i s,cells[i]?=some s->Rep w M (c i) s):Rep w M (.pointer (some a)) (.mem cells)
 |fn (f:FuncId) (vs:Array Value) (caps:List SV) (hl:vs.size=caps.length) (hr : ∀i s,caps[i]?=some s->Rep w M (vs.getD i undef) s):Rep w M (.func (.func f) #[] vs) (.fn f caps)
 |con (v:Value) (h:v.oneCell'=true):Rep w M v (.con v)
theorem block_add (a:Addr) (n:Nat):(a.add n).block=a.block:=by unfold Addr.add;split<;>rfl
theorem add_add (a:Addr) (i j:Nat):(a.add i).add j=a.add (i+j):=by
 unfold Addr.add;by_cases hi:i=0<;>by_cases hj:j=0<;>simp[hi,hj,zR]
theorem add_mk (b o n:Nat):(⟨b,o,none⟩:Addr).add n=⟨b,o+n,none⟩:=by
 unfold Addr.add;split
 ·rename_i h;subst h;rfl
 ·rfl
theorem add_zero (a:Addr):a.add 0=a:=rfl
section
variable {w w':World} {M M':Nat->Prop}
theorem Rep.mono (hc : ∀p:Addr,p.block<w.heap.size -> ¬M p.block->w'.cell? p=w.cell? p) (hM : ∀b,b<w.heap.size->M' b->M b) :
  ∀ {v:Value} {s:SV},Rep w M v s->Rep w' M' v s:=by
 intro v s h;induction h with
 |bool b=>exact .bool b
 |int k n=>exact .int k n
 |str s=>exact .str s
 |sl0 A n cap h=>exact .sl0 A n cap h
 |sl a n cap h cells c hb hcell _ ih=>
  cases cells with
  |nil=>exact .sl0 _ n cap h
  |cons x l=>
   have hlt:a.block<w.heap.size:=World.block_lt_of_cell? w a (hcell 0 x rfl);exact .sl a n cap h _ c (fun hm=>hb (hM _ hlt hm)) (fun i s hi=>(hc _ (by rw[block_add];exact hlt) (by rw[block_add];exact hb)).trans (hcell i s hi)) ih
 |agg vs cells hl _ ih=>exact .agg vs cells hl ih
 |tup vs cells hl _ ih=>exact .tup vs cells hl ih
 |mem0 a=>exact .mem0 a
 |mem a cells c hb hcell _ ih=>
  cases cells with
  |nil=>exact .mem0 a
  |cons x l=>
   have hlt:a.block<w.heap.size:=World.block_lt_of_cell? w a (hcell 0 x rfl);exact .mem a _ c (fun hm=>hb (hM _ hlt hm)) (fun i s hi=>(hc _ (by rw[block_add];exact hlt) (by rw[block_add];exact hb)).trans (hcell i s hi)) ih
 |fn f vs caps hl _ ih=>exact .fn f vs caps hl ih
 |con v h=>exact .con v h
theorem Rep.cells_size {v:Value} {s:SV} (h:Rep w M v s):v.cells.size=s.cells.length:=by
 cases h with
 |con v h=>cases v<;>first|rfl|cases h
 |_=>first|rfl|assumption
theorem Rep.cells {v:Value} {s:SV} (h:Rep w M v s) : ∀i x,s.cells[i]?=some x->Rep w M (v.cells.getD i undef) x:=by
 intro i x hx;cases h with
 |con _ h=>
  have hc:v.cells = #[v]:=by cases v<;>first|rfl|cases h
  simp only[SV.cells]at hx;rw[hc];cases i with
  |zero=>
   simp only[yK,Option.some.injEq]at hx;subst hx;exact .con v h
  |succ i=>simp at hx
 |agg vs cells hl hr=>exact hr i x hx
 |_=>
  simp only[SV.cells]at hx;cases i with
  |zero=>
   simp only[yK,Option.some.injEq]at hx;subst hx;simp only[Value.cells,xR];simp;constructor<;>assumption
  |succ i=>simp at hx
theorem Rep.one {v:Value} {s:SV} (h:Rep w M v s) (hs:s.one=true):v.oneCell'=true:=by
 cases h<;>first|rfl|assumption|(simp[SV.one]at hs)
theorem Rep.mem_drop {a:Addr} {cells:List SV} (h:Rep w M (.pointer (some a)) (.mem cells)) (k:Nat):Rep w M (.pointer (some (a.add k))) (.mem (cells.drop k)):=by
 cases h with
 |mem0=>rw[List.drop_nil];exact .mem0 _
 |mem _ _ c hb hc hr=>
  exact .mem _ _ (fun i=>c (k+i)) (by rw[block_add];exact hb)
   (fun i s hi=>by rw[add_add];exact hc _ s (by rw[<- hi,ye]))
   (fun i s hi=>hr _ s (by rw[<- hi,ye]))
end
def RepT (β:Nat->Nat->Nat) (w:World) (M:Nat->Prop) (v:Value):TV->Prop
 | .sv s=>Rep w M v s
 | .nil=>v = .slice none 0 0
 | .ptr d g off=>v = .pointer (some ⟨β d g,off,none⟩)
 | .ref d g size off n => ∃cap cs ty,v = .slice (some ⟨β d g,off,none⟩) n cap/\n<=cap/\w.heap[β d g]?=some (.cells cs ty (0,0))/\off+cap*size<=cs.size
 | .undef=>True
 | .skip=>v=undef
def TV.id:TV->Option (Nat×Nat)
 | .ptr d g _=>some (d,g)
 | .ref d g _ _ _=>some (d,g)
 |_=>none
def Mut (F:Nat->Prop) (β:Nat->Nat->Nat) (st:St) (b:Nat):Prop:=F b \/ ∃d g,(st.obj d g).isSome=true/\β d g=b
structure Ext (I:Nat->Prop) (w0 w:World):Prop where
 os:w.os=w0.os
 tape:w.tape=w0.tape
 output:w.output=w0.output
 size:w0.heap.size<=w.heap.size
 block : ∀b,b<w0.heap.size -> ¬I b->w.heap[b]?=w0.heap[b]?
 imp : ∀b cs ty,b<w0.heap.size->I b->w0.heap[b]?=some (.cells cs ty (0,0)) -> ∃cs',w.heap[b]?=some (.cells cs' ty (0,0))/\cs'.size=cs.size
theorem Ext.refl (I:Nat->Prop) (w:World):Ext I w w:=⟨rfl,rfl,rfl,xQ _,fun _ _ _=>rfl,fun _ cs _ _ _ h=>⟨cs,h,rfl⟩⟩
theorem Ext.trans {I:Nat->Prop} {a b c:World} (h:Ext I a b) (k:Ext I b c):Ext I a c:=
 ⟨k.os.trans h.os,k.tape.trans h.tape,k.output.trans h.output,xH h.size k.size,
  fun i hi hn=>(k.block i (xz hi h.size) hn).trans (h.block i hi hn),
  fun i cs ty hi hI hc=>by
   obtain⟨cs1,h1,e1⟩:=h.imp i cs ty hi hI hc;obtain⟨cs2,h2,e2⟩:=k.imp i cs1 ty (xz hi h.size) hI h1;exact⟨cs2,h2,e2.trans e1⟩⟩
theorem Ext.below {w0 w:World} (h:Ext (fun _=>False) w0 w):Go.RowKit.Below w0.heap.size w0 w:=
 ⟨h.os,h.tape,h.output,h.size,fun b hb=>h.block b hb (fun x=>x)⟩
structure Rel (w0:World) (F I:Nat->Prop) (Z:Nat->Nat) (N:Nat) (β:Nat->Nat->Nat) (st:St) (a:Act) (w:World):Prop where
 defers:a.defers=[]
 size:a.tmps.size=N
 tmps : ∀t,RepT β w (Mut F β st) (a.tmps.getD t undef) (st.tmp t)
 ids : ∀t d g,(st.tmp t).id=some (d,g)->g<st.gen d
 objs : ∀d g cells,st.obj d g=some cells -> ∃ (cs:Array Value) (ty:TypeId),w.heap[β d g]?=some (.cells cs ty (0,0)) /\
  ∀ (i:Nat) (s:SV),cells[i]?=some s->s.one=true /\ ∃v:Value,cs[i]?=some v/\Rep w (Mut F β st) v s
 own : ∀d g,(st.obj d g).isSome=true->(d<N0->w0.heap.size<=β d g)/\(N0<=d->I (β d g))
 room:N<=N0
 inj : ∀d g d' g',(st.obj d g).isSome=true->(st.obj d' g').isSome=true->β d g=β d' g'->d=d'/\g=g'
 gens : ∀d g,(st.obj d g).isSome=true->g<st.gen d
 ext:Ext I w0 w
 old : ∀b,F b->b<w0.heap.size
 imps : ∀b,I b->F b
 pin : ∀d g,N0<=d->β d g=Z (d-N0)
section
variable {w0 w:World} {F I:Nat->Prop} {Z:Nat->Nat} {N:Nat} {β:Nat->Nat->Nat} {st:St} {a:Act}
theorem cst_rep (M:Nat->Prop) (v:Value):RepT β w M v (cst v):=by
 unfold cst;split<;>first|exact .bool _|exact .int _ _|exact .str _|exact .con _ rfl|rfl|trivial
theorem Rel.eval (h:Rel w0 F I Z N β st a w) (x:Operand):RepT β w (Mut F β st) (a.eval x) (st.eval x):=by
 cases x with
 |tmp t=>exact h.tmps t
 |const v=>exact cst_rep _ v
 |global g=>trivial
 |func f=>exact .fn f #[] [] rfl (fun i s hi=>by simp at hi)
theorem cst_id (v:Value):(cst v).id=none:=by
 unfold cst;split<;>rfl
theorem Rel.evalId (h:Rel w0 F I Z N β st a w) {x:Operand} {d g:Nat} (hx:(st.eval x).id=some (d,g)):g<st.gen d:=by
 cases x with
 |tmp t=>exact h.ids t d g hx
 |const v=>rw[St.eval,cst_id]at hx;cases hx
 |global g=>simp[St.eval,TV.id]at hx
 |func f=>simp[St.eval,TV.id]at hx
theorem toSV_rep {M:Nat->Prop} {v:Value} {t:TV} {s:SV} (h:RepT β w M v t) (hs:t.toSV=some s):Rep w M v s:=by
 cases t with
 |sv x=>simp only[TV.toSV,Option.some.injEq]at hs;subst hs;exact h
 |nil=>simp only[TV.toSV,Option.some.injEq]at hs;subst hs;rw[show v = .slice none 0 0 from h];exact .sl0 _ _ _ (xQ _)
 |_=>simp[TV.toSV]at hs
theorem Rel.put (h:Rel w0 F I Z N β st a w) {d:Nat} {v:Value} {t:TV} (hd:d<N) (ht:RepT β w (Mut F β st) v t) (hi : ∀d g,t.id=some (d,g)->g<st.gen d) :
  Rel w0 F I Z N β (st.put d t) (a.put (some d) v) w where
 defers:=h.defers
 size:=by simp[Act.put,h.size]
 tmps:=fun u=>by
  by_cases hu:u=d
  ·subst hu;simp only[St.put,if_true,Act.put,xR];rw[zN (by rw[h.size];exact hd)];exact ht
  ·simp only[St.put,if_neg hu,Act.put,xR];rw[zV (fun e=>hu e.symm)];have:=h.tmps u;rw[xR]at this;exact this
 ids:=fun u d' g' hx=>by
  simp only[St.put]at hx;split at hx
  ·exact hi _ _ hx
  ·exact h.ids u _ _ hx
 objs:=h.objs
 own:=h.own
 room:=h.room
 inj:=h.inj
 gens:=h.gens
 ext:=h.ext
 old:=h.old
 imps:=h.imps
 pin:=h.pin
theorem Rel.putO (h:Rel w0 F I Z N β st a w) {dst:Option Nat} {v:Value} {t:TV} (hd : ∀d,dst=some d->d<N) (ht:RepT β w (Mut F β st) v t) (hi : ∀d g,t.id=some (d,g)->g<st.gen d) :
  Rel w0 F I Z N β (st.putO dst t) (a.put dst v) w:=by
 cases dst with
 |none=>exact h
 |some d=>exact h.put (hd d rfl) ht hi
theorem RepT.mono {w':World} {M M':Nat->Prop} {v:Value} {t:TV} (hc : ∀p:Addr,p.block<w.heap.size -> ¬M p.block->w'.cell? p=w.cell? p) (hM : ∀b,b<w.heap.size->M' b->M b)
  (hs : ∀ (b:Nat) cs ty,M b->w.heap[b]?=some (.cells cs ty (0,0)) -> ∃cs',w'.heap[b]?=some (.cells cs' ty (0,0))/\cs'.size=cs.size)
  (hn : ∀ (b:Nat),¬M b->b<w.heap.size->w'.heap[b]?=w.heap[b]?)
  (h:RepT β w M v t):RepT β w' M' v t:=by
 cases t with
 |sv s=>exact Rep.mono hc hM h
 |nil=>exact h
 |ptr d g off=>exact h
 |ref d g size off n=>
  obtain⟨cap,cs,ty,hv,hn',hb,hsz⟩:=h;by_cases hm:M (β d g)
  ·obtain⟨cs',h',e⟩:=hs _ cs ty hm hb;exact⟨cap,cs',ty,hv,hn',h',by rw[e];exact hsz⟩
  ·have hlt:β d g<w.heap.size:=by
    rcases xi (β d g) w.heap.size with hh|hh
    ·exact hh
    ·rw[Array.getElem?_eq_none hh]at hb;cases hb
   exact⟨cap,cs,ty,hv,hn',(hn _ hm hlt).trans hb,hsz⟩
 |undef=>trivial
 |skip=>exact h
end
end Go.Ev
namespace Go.Ev
open Go.RowKit
section
variable {P:Program} {w:World} {M:Nat->Prop}
theorem run_info {t:TypeId} {i:TypeInfo} (h:P.info? t=some i) (w:World):(typeInfo t).run P w = .ok i w:=by
 simp[typeInfo,h]
theorem run_size {t:TypeId} {i:TypeInfo} (h:P.info? t=some i) (w:World):(sizeOf t).run P w = .ok i.size w:=by
 simp[sizeOf,run_info h]
theorem shp_parts {t:TypeId} {sh:Bool×Nat} (h:shp P t=some sh) : ∃i,P.info? t=some i/\i.size=sh.2 /\ ∀w,(isAgg t).run P w = .ok sh.1 w:=by
 unfold shp at h;split at h
 ·rename_i fs i hu hi;cases h;exact⟨i,hi,rfl,fun w=>by simp[isAgg,run_underlying hu]⟩
 ·rename_i n e i hu hi;cases h;exact⟨i,hi,rfl,fun w=>by simp[isAgg,run_underlying hu]⟩
 ·rename_i d i hn1 hn2 hu hi;cases h;refine⟨i,hi,rfl,fun w => ?_⟩;unfold isAgg;simp only[Sem.run_bind,run_underlying hu,Result.andThen_ok];cases d<;>first|rfl|exact(hn1 _ rfl).elim|exact(hn2 _ _ rfl).elim
 ·cases h
theorem load_sound {t:TypeId} {a:Addr} {sh:Bool×Nat} {cells:List SV} {s:SV} (hsh:shp P t=some sh)
  (hc : ∀i x,cells[i]?=some x -> ∃v,w.cell? (a.add i)=some v/\Rep w M v x) (hl:loadC sh cells=some s) :
  ∃v,(loadVar t a).run P w = .ok v w/\Rep w M v s:=by
 obtain⟨i,hi,hsz,hagg⟩:=shp_parts hsh;unfold loadC at hl;unfold loadVar;simp only[Sem.run_bind,hagg,Result.andThen_ok];cases hb:sh.1 with
 |true=>
  rw[hb]at hl;simp only[if_true]at hl;split at hl
  ·rename_i hle;cases hl;have hcell : ∀j,j<sh.2->w.cell? (a.add j)=some ((w.cell? (a.add j)).getD undef):=by
    intro j hj;obtain⟨v,hv,_⟩:=hc j cells[j] (xX (by omega));rw[hv];rfl
   refine⟨.agg ((List.range sh.2).map fun j=>(w.cell? (a.add j)).getD undef).toArray,?_,?_⟩
   ·simp only[if_true,Sem.run_bind,run_size hi,hsz,Result.andThen_ok,run_loadCells w a sh.2 _ hcell,Sem.run_pure]
   ·refine .agg _ _ (by simp;omega) fun j x hx => ?_
    have hj:j<sh.2:=by
     rcases xi j sh.2 with h|h
     ·exact h
     ·rw[xl (by simp;omega)]at hx;cases hx
    rw[yk hj]at hx;obtain⟨v,hv,hr⟩:=hc j x hx;simp only[xR,wQ,zD,wc hj,yp,wz,hv];exact hr
  ·cases hl
 |false=>
  rw[hb]at hl;simp only[Bool.false_eq_true,if_false]at hl;cases cells with
  |nil=>cases hl
  |cons x l=>
   cases hl;obtain⟨v,hv,hr⟩:=hc 0 s rfl;rw[add_zero]at hv;exact⟨v,by simp[hv],hr⟩
theorem part_sound {t:TypeId} {sh:Bool×Nat} {cells:List SV} {vs:Array Value} {off:Nat} {s:SV} (hsh:shp P t=some sh) (hlen:vs.size=cells.length)
  (hc : ∀ (i:Nat) (x:SV),cells[i]?=some x->Rep w M (vs.getD i undef) x) (hl:partC sh cells off=some s) : ∃v,(part t vs off).run P w = .ok v w/\Rep w M v s:=by
 obtain⟨i,hi,hsz,hagg⟩:=shp_parts hsh;unfold partC at hl;unfold part;simp only[Sem.run_bind,hagg,Result.andThen_ok];cases hb:sh.1 with
 |true=>
  rw[hb]at hl;simp only[if_true]at hl;split at hl
  ·rename_i hle;cases hl;refine⟨.agg (vs.extract off (off+sh.2)),?_,?_⟩
   ·simp[run_size hi,hsz]
   ·refine .agg _ _ (by simp;omega) fun j x hx => ?_
    have hj:j<sh.2:=by
     rcases xi j sh.2 with h|h
     ·exact h
     ·rw[xl (by simp;omega)]at hx;cases hx
    rw[yk hj,ye]at hx;have:=hc _ x hx;rw[xR]at this ⊢;rw[Array.getElem?_extract,if_pos (by omega)];exact this
  ·cases hl
 |false=>
  rw[hb]at hl;simp only[Bool.false_eq_true,if_false]at hl;have hlt:off<vs.size:=by
   rcases xi off vs.size with h|h
   ·exact h
   ·rw[xl (by omega)]at hl;cases hl
  have hr:=hc off s hl;refine⟨vs[off],by simp[hlt],?_⟩;simpa[xR,zE hlt]using hr
theorem elm_parts {t e size bytes:Nat} (h:elm P t=some (e,size,bytes)):P.underlying t=some (.slice e) /\ ∃i,P.info? e=some i/\i.size=size/\i.bytes=bytes:=by
 unfold elm at h;split at h
 ·rename_i e' hu;split at h
  ·rename_i i hi;cases h;exact⟨hu,i,hi,rfl,rfl⟩
  ·cases h
 ·cases h
theorem fld_parts {t f off ty size:Nat} (h:fld P t f=some (off,ty,size)) :
  ∃fs x i,P.underlying t=some (.struct fs)/\fs[f]?=some x/\x.offset=off/\x.type=ty/\P.info? ty=some i/\i.size=size:=by
 unfold fld at h;split at h
 ·rename_i fs hu;split at h
  ·rename_i x hx;split at h
   ·rename_i i hi;cases h;exact⟨fs,x,i,hu,hx,rfl,rfl,hi,rfl⟩
   ·cases h
  ·cases h
 ·cases h
theorem ofCell_rep {v:Value} {s:SV} (h:ofCell v=some s):Rep w M v s:=by
 unfold ofCell at h;split at h<;>cases h
 ·exact .bool _
 ·exact .int _ _
 ·exact .str _
 ·exact .sl0 _ _ _ (xQ _)
 ·exact .con _ rfl
 ·exact .con _ rfl
theorem ofCell_one {v:Value} {s:SV} (h:ofCell v=some s):s.one=true:=by
 unfold ofCell at h;split at h<;>cases h<;>rfl
theorem ofCells_get : ∀ {l:List Value} {cs:List SV},ofCells l=some cs->l.length=cs.length /\ ∀ (i:Nat) (x:SV),cs[i]?=some x -> ∃v:Value,l[i]?=some v/\ofCell v=some x
 | [],cs,h=>by cases h;exact⟨rfl,fun i x hx=>by simp at hx⟩
 |v::r,cs,h=>by
  unfold ofCells at h;split at h
  ·rename_i s l hs hl;cases h;obtain⟨h1,h2⟩:=ofCells_get hl;refine⟨by simp[h1],fun i x hx => ?_⟩;cases i with
   |zero=>simp only[yK,Option.some.injEq]at hx;subst hx;exact⟨v,rfl,hs⟩
   |succ i=>simp only[yQ]at hx ⊢;exact h2 i x hx
  ·cases h
theorem zer_parts {t:TypeId} {cs:List SV} (h:zer P t=some cs) : ∃i z,P.info? t=some i/\i.zero=some z/\z.cells.size=cs.length /\
  ∀ (j:Nat) (x:SV),cs[j]?=some x -> ∃v:Value,z.cells[j]?=some v/\ofCell v=some x:=by
 unfold zer at h;split at h
 ·rename_i i hi;split at h
  ·rename_i z hz;obtain⟨h1,h2⟩:=ofCells_get h;refine⟨i,z,hi,hz,by simpa using h1,fun j x hx => ?_⟩;obtain⟨v,hv,hx⟩:=h2 j x hx;exact⟨v,by simpa using hv,hx⟩
  ·cases h
 ·cases h
theorem run_zero {t:TypeId} {i:TypeInfo} {z:Value} (h:P.info? t=some i) (hz:i.zero=some z) (w:World):(zeroValue t).run P w = .ok z w:=by
 simp[zeroValue,run_info h,hz]
theorem fold_set (off:Nat) : ∀ (l:List Value) (s:Nat) (cs:Array Value),
  ((l.zipIdx s).foldl (fun cs (p:Value×Nat)=>cs.setIfInBounds (off+p.2) p.1) cs).size=cs.size /\
  ∀k,((l.zipIdx s).foldl (fun cs (p:Value×Nat)=>cs.setIfInBounds (off+p.2) p.1) cs)[k]? =
   if off+s<=k/\k<off+s+l.length/\k<cs.size then l[k-(off+s)]? else cs[k]?
 | [],s,cs=>⟨rfl,fun k=>by rw[if_neg (by simp;omega)];rfl⟩
 |v::r,s,cs=>by
  obtain⟨h1,h2⟩:=fold_set off r (s+1) (cs.setIfInBounds (off+s) v);refine⟨by simpa using h1,fun k => ?_⟩;simp only[List.zipIdx_cons,List.foldl_cons,h2,Array.size_setIfInBounds,yS];by_cases hk:k=off+s
  ·subst hk;rw[if_neg (by omega)];by_cases hs:off+s<cs.size
   ·rw[zN hs,if_pos ⟨by omega,by omega,hs⟩,wo];rfl
   ·rw[if_neg (by omega)];rw[Array.getElem?_eq_none (by simp;omega),Array.getElem?_eq_none (by omega)]
  ·rw[zV (fun e=>hk e.symm)];by_cases hs:off+s<=k/\k<off+s+(r.length+1)/\k<cs.size
   ·rw[if_pos (by omega),if_pos hs,show k-(off+s)=(k-(off+(s+1)))+1 from by omega,yQ]
   ·rw[if_neg (by omega),if_neg hs]
def RepC (w:World) (M:Nat->Prop) (vs:Array Value) (cs:List SV):Prop:=vs.size=cs.length /\ ∀ (i:Nat) (x:SV),cs[i]?=some x->Rep w M (vs.getD i undef) x
theorem splice_len {cs new:List SV} {off:Nat} (h:off+new.length<=cs.length:=by omega):(splice cs off new).length=cs.length:=by
 unfold splice;simp only[yG,yO,wU];omega
theorem splice_get {cs new:List SV} {off:Nat} (h:off+new.length<=cs.length) (k:Nat) :
  (splice cs off new)[k]?=if off<=k/\k<off+new.length then new[k-off]? else cs[k]?:=by
 unfold splice;by_cases h1:k<off
 ·rw[if_neg (by omega),List.append_assoc,yf (by simp;omega),yk h1]
 ·by_cases h2:k<off+new.length
  ·rw[if_pos ⟨by omega,h2⟩,List.append_assoc,yj (by simp;omega)];simp only[yO];rw[yf (by omega)];congr 1;omega
  ·rw[if_neg (by omega),yj (by simp;omega)];simp only[yG,yO,ye];congr 1;omega
theorem fill_sound {ps:List (Nat×Nat)} {place:Nat->Option (Nat×Nat)} (hp : ∀i,place i=ps[i]?) : ∀ {parts:List (Nat×Value)} {qs:List (Nat×SV)} {vs:Array Value} {cs cs':List SV},
  parts.length=qs.length->(∀ (i:Nat) (x:Nat×SV),qs[i]?=some x -> ∃v:Value,parts[i]?=some (x.1,v)/\Rep w M v x.2)->RepC w M vs cs->fillC ps cs qs=some cs' ->
  ∃vs',Instr.fill place vs parts=some vs'/\RepC w M vs' cs'
 | [],[],vs,cs,cs',_,_,hv,h=>by cases h;exact⟨vs,rfl,hv⟩
 |(i,v)::r,(j,s)::q,vs,cs,cs',hl,hr,hv,h=>by
  obtain⟨v',hv',hrep⟩:=hr 0 (j,s) rfl;simp only[yK,Option.some.injEq,Prod.mk.injEq]at hv';obtain⟨rfl,rfl⟩:=hv';unfold fillC at h;split at h
  ·rename_i off size hps;split at h
   ·rename_i hcond;obtain⟨hs1,hs2⟩:=hcond;have hsz:v.cells.size=size:=hrep.cells_size.trans hs1;obtain⟨hf1,hf2⟩:=fold_set off v.cells.toList 0 vs;unfold Instr.fill;simp only[hp,hps];rw[if_neg (by simp[hsz,hv.1];omega)];have hfold:v.cells.zipIdx.foldl (fun cs (x:Value×Nat)=>match x with|(c,j)=>cs.setIfInBounds (off+j) c) vs =
      (v.cells.toList.zipIdx 0).foldl (fun cs (p:Value×Nat)=>cs.setIfInBounds (off+p.2) p.1) vs:=by
     rw[<- Array.foldl_toList];simp[Array.toList_zipIdx]
    rw[hfold];refine fill_sound hp (by simpa using hl) (fun k x hx=>by simpa using hr (k+1) x (by simpa using hx)) ⟨by rw[hf1,hv.1,splice_len],fun k x hx => ?_⟩ h;rw[xR,hf2];rw[splice_get (by omega)]at hx;simp only[yE,we];by_cases hk:off<=k/\k<off+s.cells.length
    ·rw[if_pos hk]at hx;rw[if_pos (by rw[hsz,hv.1];omega)];have:=hrep.cells _ x hx;rw[xR]at this;simpa using this
    ·rw[if_neg hk]at hx;rw[if_neg (by rw[hsz];omega)];have:=hv.2 k x hx;rw[xR]at this;exact this
   ·cases h
  ·cases h
 | [],_::_,_,_,_,hl,_,_,_=>by simp at hl
 |_::_,[],_,_,_,hl,_,_,_=>by simp at hl
theorem run_places : ∀ {fs:List Field} {ps:List (Nat×Nat)},plcs P fs=some ps -> ∀w,
  (fs.mapM fun f=>(do pure (f.offset,<- sizeOf f.type):Sem (Nat×Nat))).run P w = .ok ps w
 | [],ps,h,w=>by cases h;rfl
 |f::r,ps,h,w=>by
  unfold plcs at h;split at h
  ·rename_i i l hi hl;cases h;simp only[List.mapM_cons,Sem.run_bind,run_size hi,Result.andThen_ok,Sem.run_pure,run_places hl]
  ·cases h
end
end Go.Ev
namespace Go.Ev
open Go.RowKit
section
variable {P:Program} {w0 w:World} {F I:Nat->Prop} {Z:Nat->Nat} {N:Nat} {β:Nat->Nat->Nat} {st:St} {a:Act}
def Gives (P:Program) (F:Nat->Prop) (β:Nat->Nat->Nat) (st:St) (w:World) (m:Sem Value) (t:TV):Prop:=
 ∃v,m.run P w = .ok v w/\RepT β w (Mut F β st) v t /\ ∀d g,t.id=some (d,g)->g<st.gen d
theorem Gives.sv {m:Sem Value} {v:Value} {s:SV} (hr:m.run P w = .ok v w) (h:Rep w (Mut F β st) v s):Gives P F β st w m (.sv s):=
 ⟨v,hr,h,fun d g hi=>by simp[TV.id]at hi⟩
theorem rep_int {M:Nat->Prop} {v:Value} {k:IntKind} {n:Int} (h:Rep w M v (.int k n)):v = .int k n:=by cases h;rfl
theorem rep_bool {M:Nat->Prop} {v:Value} {b:Bool} (h:Rep w M v (.bool b)):v = .bool b:=by cases h;rfl
theorem rep_str {M:Nat->Prop} {v:Value} {s:ByteArray} (h:Rep w M v (.str s)):v = .string s:=by cases h;rfl
theorem cmp_sound {op:BinOp} {x y:Int} {s:SV} (h:cmpSV op x y=some s) : ∃v,(Op.intCmp op x y).run P w = .ok v w /\ ∀M,Rep w M v s:=by
 unfold cmpSV at h;split at h<;>first|(cases h;exact⟨_,rfl,fun M => .bool _⟩)|cases h
theorem bits_sound {op:BinOp} {k:IntKind} {x y:Int} {s:SV} (h:bitsSV op k x y=some s) : ∃v,(Op.intBits op k x y).run P w = .ok v w /\ ∀M,Rep w M v s:=by
 unfold bitsSV at h;split at h<;>first|(cases h;exact⟨_,rfl,fun M => .int _ _⟩)|cases h
theorem str_sound {op:BinOp} {x y:ByteArray} {s:SV} (h:strSV op x y=some s) : ∃v,(Op.stringOp op x y).run P w = .ok v w /\ ∀M,Rep w M v s:=by
 unfold strSV at h;split at h
 ·split at h
  ·rename_i hle;cases h;refine⟨.string (x++y),?_,fun M => .str _⟩;unfold Op.stringOp;simp only[IntKind.max,IntKind.signed,IntKind.bits];rw[if_neg (by simp;omega)];rfl
  ·cases h
 all_goals first|(cases h;exact⟨_,rfl,fun M => .bool _⟩)|cases h
theorem int_sound {op:BinOp} {k:IntKind} {x y:Int} {s:SV} (h:intSV op k x y=some s) (h1:op ≠ .shl) (h2:op ≠ .shr) {t:TypeId} :
  ∃v,(binOp op t (.int k x) (.int k y)).run P w = .ok v w /\ ∀M,Rep w M v s:=by
 unfold intSV at h;cases op<;>simp only[binOp,ne_eq,not_true_eq_false,if_false]<;>dsimp only at h
 case add=>cases h;exact⟨_,rfl,fun M => .int _ _⟩
 case sub=>cases h;exact⟨_,rfl,fun M => .int _ _⟩
 case mul=>cases h;exact⟨_,rfl,fun M => .int _ _⟩
 case quo=>
  split at h
  ·cases h
  ·rename_i hy;cases h;refine⟨_,?_,fun M => .int _ _⟩;simp only[Op.intDiv,if_neg hy];rfl
 case rem=>
  split at h
  ·cases h
  ·rename_i hy;cases h;refine⟨_,?_,fun M => .int _ _⟩;simp only[Op.intDiv,if_neg hy];rfl
 case and=>exact bits_sound h
 case or=>exact bits_sound h
 case xor=>exact bits_sound h
 case andNot=>exact bits_sound h
 case shl=>exact absurd rfl h1
 case shr=>exact absurd rfl h2
 all_goals exact cmp_sound h
theorem isBool_under {t:TypeId} (h:isBool P t=true):P.underlying t=some .bool:=by
 unfold isBool at h;split at h
 ·assumption
 ·cases h
theorem isInt_under {t:TypeId} {k:IntKind} (h:isInt P t=some k):P.underlying t=some (.int k):=by
 unfold isInt at h;split at h
 ·cases h;assumption
 ·cases h
theorem isPtr_under {t:TypeId} (h:isPtr P t=true) : ∃e,P.underlying t=some (.pointer e):=by
 unfold isPtr at h;split at h
 ·rename_i e he;exact⟨e,he⟩
 ·cases h
theorem isIface_under {t:TypeId} (h:isIface P t=true) : ∃e,P.underlying t=some (.interface e):=by
 unfold isIface at h;split at h
 ·rename_i e he;exact⟨e,he⟩
 ·cases h
theorem bool_eq {t:TypeId} (h:isBool P t=true) (x y:Bool) (w:World):(Op.equal t (.bool x) (.bool y)).run P w = .ok (x==y) w:=by
 have hd : ∀d:Nat,(Op.equalIn (d+1) t (.bool x) (.bool y)).run P w = .ok (x==y) w:=fun d=>by
  simp[Op.equalIn,run_underlying (isBool_under h)]
 exact hd 9999
theorem ptr_eq {t:TypeId} (h:isPtr P t=true) (x y:Option Addr) (hn:y=none) (w:World):(Op.equal t (.pointer x) (.pointer y)).run P w = .ok x.isNone w:=by
 subst hn;obtain⟨e,he⟩:=isPtr_under h;have hd : ∀d:Nat,(Op.equalIn (d+1) t (.pointer x) (.pointer none)).run P w = .ok x.isNone w:=fun d=>by
  cases x<;>simp[Op.equalIn,run_underlying he]
 exact hd 9999
theorem iface_eq {t:TypeId} (h:isIface P t=true) (w:World):(Op.equal t .nilIface .nilIface).run P w = .ok true w:=by
 obtain⟨e,he⟩:=isIface_under h;have hd : ∀d:Nat,(Op.equalIn (d+1) t .nilIface .nilIface).run P w = .ok true w:=fun d=>by
  simp[Op.equalIn,run_underlying he]
 exact hd 9999
theorem ptr_nil_sound {op:BinOp} {t:TypeId} {A:Option Addr} {s:SV} (hp:isPtr P t=true) (h:nilSV op A.isNone=some s) (p q:Operand) :
  ∃v,(do eqGuard op t p q (.pointer A) (.pointer none);binOp op t (.pointer A) (.pointer none):Sem Value).run P w = .ok v w /\ ∀M,Rep w M v s:=by
 have hg:(eqGuard op t p q (.pointer A) (.pointer none)).run P w = .ok () w:=by
  unfold eqGuard;split<;>rfl
 simp only[Sem.run_bind,hg,Result.andThen_ok];unfold nilSV at h;split at h
 ·cases h;exact⟨.bool A.isNone,by simp only[binOp,Sem.run_bind,ptr_eq hp A none rfl w,Result.andThen_ok,Sem.run_pure],fun M => .bool _⟩
 ·cases h;exact⟨.bool (!A.isNone),by simp only[binOp,Sem.run_bind,ptr_eq hp A none rfl w,Result.andThen_ok,Sem.run_pure],fun M => .bool _⟩
 ·cases h
theorem bin_sound {op:BinOp} {t:TypeId} {M:Nat->Prop} {x y:Value} {a b s:SV} (ha:Rep w M x a) (hb:Rep w M y b) (p q:Operand) (h:binSV P (isCst q) op t a b=some s) :
  ∃v,(do eqGuard op t p q x y;binOp op t x y:Sem Value).run P w = .ok v w /\ ∀M,Rep w M v s:=by
 unfold binSV at h;split at h
 ·rename_i k n k' m;cases rep_int ha;cases rep_int hb;have hg:(eqGuard op t p q (.int k n) (.int k' m)).run P w = .ok () w:=by
   unfold eqGuard;split<;>rfl
  simp only[Sem.run_bind,hg,Result.andThen_ok];split at h
  ·split at h
   ·rename_i hm;cases h;refine⟨_,?_,fun M => .int _ _⟩;simp only[binOp,Op.shift,if_neg (show ¬m<0 by omega)];rfl
   ·cases h
  ·split at h
   ·rename_i hm;cases h;refine⟨_,?_,fun M => .int _ _⟩;simp only[binOp,Op.shift,if_neg (show ¬m<0 by omega)];rfl
   ·cases h
  ·rename_i h1 h2;split at h
   ·rename_i hk;subst hk;exact int_sound h (fun e=>h1 e) (fun e=>h2 e)
   ·cases h
 ·rename_i n m;cases rep_bool ha;cases rep_bool hb;have hg:(eqGuard op t p q (.bool n) (.bool m)).run P w = .ok () w:=by
   unfold eqGuard;split<;>rfl
  simp only[Sem.run_bind,hg,Result.andThen_ok];split at h
  ·split at h
   ·rename_i hb;cases h;exact⟨.bool (n==m),by simp only[binOp,Sem.run_bind,bool_eq hb,Result.andThen_ok,Sem.run_pure],fun M => .bool _⟩
   ·cases h
  ·split at h
   ·rename_i hb;cases h;exact⟨.bool (!(n==m)),by simp only[binOp,Sem.run_bind,bool_eq hb,Result.andThen_ok,Sem.run_pure],fun M => .bool _⟩
   ·cases h
  ·cases h
 ·rename_i n m;cases rep_str ha;cases rep_str hb;have hg:(eqGuard op t p q (.string n) (.string m)).run P w = .ok () w:=by
   unfold eqGuard;split<;>rfl
  simp only[Sem.run_bind,hg,Result.andThen_ok];have:binOp op t (.string n) (.string m)=Op.stringOp op n m:=by cases op<;>rfl
  rw[this];exact str_sound h
 ·cases ha;cases hb;split at h
  ·rename_i hp;exact ptr_nil_sound (A:=none) hp h p q
  ·cases h
 ·rename_i cs;cases hb;split at h
  ·rename_i hp;cases ha with
   |mem0 A=>exact ptr_nil_sound (A:=some A) hp h p q
   |mem A _ _ _ _ _=>exact ptr_nil_sound (A:=some A) hp h p q
  ·cases h
 ·cases ha;cases hb;split at h
  ·rename_i hk;simp only[xh]at hk;obtain⟨hq,hi⟩:=hk;have hg:(eqGuard op t p q .nilIface .nilIface).run P w = .ok () w:=by
    cases q with
    |const v=>
     cases op<;>cases p<;>rfl
    |_=>cases hq
   simp only[Sem.run_bind,hg,Result.andThen_ok];unfold nilSV at h;split at h
   ·cases h;exact⟨.bool true,by simp only[binOp,Sem.run_bind,iface_eq hi w,Result.andThen_ok,Sem.run_pure],fun M => .bool _⟩
   ·cases h;exact⟨.bool (!true),by simp only[binOp,Sem.run_bind,iface_eq hi w,Result.andThen_ok,Sem.run_pure],fun M => .bool _⟩
   ·cases h
  ·cases h
 ·cases h
theorem un_sound {op:UnOp} {M:Nat->Prop} {x:Value} {a s:SV} (ha:Rep w M x a) (h:unSV op a=some s) : ∃v,(Op.unary op x).run P w = .ok v w /\ ∀M,Rep w M v s:=by
 unfold unSV at h;split at h
 ·cases rep_int ha;split at h
  ·cases h;exact⟨_,rfl,fun M => .int _ _⟩
  ·exact bits_sound h
  ·cases h
 ·cases rep_bool ha;split at h
  ·cases h;exact⟨_,rfl,fun M => .bool _⟩
  ·cases h
 ·cases h
theorem extract_sound {x:Value} {M:Nat->Prop} {vs:List SV} {i:Nat} {s:SV} (h:Rep w M x (.tup vs)) (hi:vs[i]?=some s) : ∃v,(Instr.extract x i).run P w = .ok v w/\Rep w M v s:=by
 cases h with
 |tup us _ hl hr=>
  have hlt:i<us.size:=by
   rcases xi i us.size with h|h
   ·exact h
   ·rw[xl (by omega)]at hi;cases hi
  have:=hr i s hi;refine⟨us[i],by simp[Instr.extract,hlt],?_⟩;simpa[xR,hlt]using this
theorem natTV_rep {M:Nat->Prop} {v:Value} {t:TV} {n:Nat} (h:RepT β w M v t) (ht:natTV t=some n) : ∃k,v = .int k (n:Int):=by
 unfold natTV at ht;split at ht
 ·rename_i k i;split at ht
  ·rename_i hi;cases ht;refine⟨k,(rep_int h).trans ?_⟩;rw[Int.toNat_of_nonneg hi]
  ·cases ht
 ·cases ht
theorem bytes_get : ∀ {cs:List SV} {l:List UInt8},bytesOf cs=some l->l.length=cs.length /\ ∀ (i:Nat) (s:SV),cs[i]?=some s -> ∃n:Int,s = .int .u8 n/\l[i]?=some (UInt8.ofNat n.toNat)
 | [],l,h=>by cases h;exact⟨rfl,fun i s hi=>by simp at hi⟩
 |c::r,l,h=>by
  unfold bytesOf at h;split at h
  ·rename_i heq;cases heq
  ·rename_i n r' heq;injection heq with e1 e2
   subst e1 e2;split at h
   ·rename_i l' hl;cases h;obtain⟨h1,h2⟩:=bytes_get hl;refine⟨by simp[h1],fun i s hi => ?_⟩;cases i with
    |zero=>simp only[yK,Option.some.injEq]at hi;subst hi;exact⟨n,rfl,rfl⟩
    |succ i=>simp only[yQ]at hi ⊢;exact h2 i s hi
   ·cases h
  ·cases h
end
end Go.Ev
namespace Go.Ev
open Go.RowKit
section
variable {P:Program} {w0 w:World} {F I:Nat->Prop} {Z:Nat->Nat} {N:Nat} {β:Nat->Nat->Nat} {st:St} {a:Act}
theorem parts_rep (h:Rel w0 F I Z N β st a w) : ∀ {ps:List (Nat×Operand)} {qs:List (Nat×SV)},partsSV st ps=some qs ->
  ps.length=qs.length /\ ∀ (i:Nat) (x:Nat×SV),qs[i]?=some x -> ∃v:Value,(ps.map fun p=>(p.1,a.eval p.2))[i]?=some (x.1,v)/\Rep w (Mut F β st) v x.2
 | [],qs,e=>by cases e;exact⟨rfl,fun i x hx=>by simp at hx⟩
 |(i,x)::r,qs,e=>by
  unfold partsSV at e;split at e
  ·rename_i s l hs hl;cases e;obtain⟨h1,h2⟩:=parts_rep h hl;refine⟨by simp[h1],fun j y hy => ?_⟩;cases j with
   |zero=>
    simp only[yK,Option.some.injEq]at hy;subst hy;exact⟨a.eval x,rfl,toSV_rep (h.eval x) hs⟩
   |succ j=>simp only[yQ,wL]at hy ⊢;exact h2 j y hy
  ·cases e
theorem allSV_rep (h:Rel w0 F I Z N β st a w) : ∀ {xs:List Operand} {ss:List SV},allSV (xs.map st.eval)=some ss ->
  xs.length=ss.length /\ ∀ (i:Nat) (s:SV),ss[i]?=some s -> ∃v:Value,(xs.map a.eval)[i]?=some v/\Rep w (Mut F β st) v s
 | [],ss,e=>by cases e;exact⟨rfl,fun i s hs=>by simp at hs⟩
 |x::r,ss,e=>by
  simp only[wL]at e;unfold allSV at e;split at e
  ·rename_i s l hs hl;cases e;obtain⟨h1,h2⟩:=allSV_rep h hl;refine⟨by simp[h1],fun j y hy => ?_⟩;cases j with
   |zero=>
    simp only[yK,Option.some.injEq]at hy;subst hy;exact⟨a.eval x,rfl,toSV_rep (h.eval x) hs⟩
   |succ j=>simp only[yQ,wL]at hy ⊢;exact h2 j y hy
  ·cases e
theorem Rel.obj_cells (h:Rel w0 F I Z N β st a w) {d g:Nat} {cs:List SV} (hc:st.obj d g=some cs) (off:Nat) :
  ∀ (i:Nat) (x:SV),(cs.drop off)[i]?=some x -> ∃v,w.cell? ((⟨β d g,off,none⟩:Addr).add i)=some v/\Rep w (Mut F β st) v x:=by
 intro i x hx;obtain⟨vs,ty,hb,hall⟩:=h.objs d g cs hc;rw[ye]at hx;obtain⟨_,v,hv,hr⟩:=hall _ x hx;exact⟨v,by rw[add_mk,cell_of_row w _ _ vs ty (0,0) hb];exact hv,hr⟩
theorem mem_cells {M:Nat->Prop} {v:Value} {cs:List SV} (h:Rep w M v (.mem cs)) :
  ∃a:Addr,v = .pointer (some a) /\ ∀ (i:Nat) (x:SV),cs[i]?=some x -> ∃u,w.cell? (a.add i)=some u/\Rep w M u x:=by
 cases h with
 |mem0 a=>exact⟨a,rfl,fun i x hx=>by simp at hx⟩
 |mem a _ c _ hc hr=>exact⟨a,rfl,fun i x hx=>⟨_,hc i x hx,hr i x hx⟩⟩
theorem place_sound {x:Field} {i:TypeInfo} (hi:P.info? x.type=some i) (hs:i.size≠0) (p:Addr) (w:World):(fieldPlace p x).run P w = .ok (p.add x.offset) w:=by
 simp[fieldPlace,run_size hi,hs]
theorem slice_len {M:Nat->Prop} {v:Value} {n:Nat} {cs:List SV} (h:Rep w M v (.sl n cs)) : ∃A cap,v = .slice A n cap/\n<=cap:=by
 cases h with
 |sl0 A n cap hn=>exact⟨A,cap,rfl,hn⟩
 |sl a n cap hn=>exact⟨_,cap,rfl,hn⟩
theorem bytes_str {M:Nat->Prop} {v:Value} {n:Nat} {cs:List SV} {l:List UInt8} (h:Rep w M v (.sl n cs)) (hl:bytesOf cs=some l) (hn:cs.length=n) :
  (Conv.bytesToString v).run P w = .ok (.string ⟨l.toArray⟩) w:=by
 obtain⟨e1,e2⟩:=bytes_get hl;have key : ∀ (f:Value->ByteArray->Sem (ForInStep ByteArray)),(∀n s,f (.int .u8 n) s=pure (ForInStep.yield (s.push (UInt8.ofNat n.toNat)))) ->
   ∀ (us:List Value) (l:List UInt8) (s:ByteArray),us.length=l.length->(∀ (i:Nat) (b:UInt8),l[i]?=some b -> ∃n:Int,us[i]?=some (.int .u8 n)/\b=UInt8.ofNat n.toNat) ->
   (forIn us.toArray s f).run P w = .ok ⟨s.data++l.toArray⟩ w:=by
  intro f hf us;induction us with
  |nil=>intro l s hl _;cases l with
   |nil=>simp
   |cons=>simp at hl
  |cons u r ih=>
   intro l s hl hg;cases l with
   |nil=>simp at hl
   |cons b l=>
    obtain⟨n,hu,hb⟩:=hg 0 b rfl;simp only[yK,Option.some.injEq]at hu;subst hu;have:=ih l (s.push b) (by simpa using hl) (fun i c hc=>by simpa using hg (i+1) c (by simpa using hc));simp only[List.forIn_toArray]at this ⊢;simp only[List.forIn_cons,hf,Sem.run_bind,Sem.run_pure,Result.andThen_ok,<- hb];rw[this];congr 2;simp[ByteArray.push]
 cases h with
 |sl0 A n' cap hn' =>
  subst hn;cases l with
  |cons=>simp at e1
  |nil=>
   cases A with
   |none=>simp[Conv.bytesToString];rfl
   |some a=>simp[Conv.bytesToString,loadCells,loadCellsFrom];rfl
 |sl p n' cap hn' _ c hb hc hr=>
  subst hn;have hload:=run_loadCells (P:=P) w p cs.length c (fun j hj=>hc j cs[j] (xX hj));unfold Conv.bytesToString;simp only[Sem.run_bind,hload,Result.andThen_ok];rw[key _ (fun n s=>rfl) ((List.range cs.length).map c) l ByteArray.empty (by simp[e1]) (fun i b hb=>by
   have hi:i<cs.length:=by
    rcases xi i cs.length with h|h
    ·exact h
    ·rw[xl (by omega)]at hb;cases hb
   obtain⟨n,hn,hl'⟩:=e2 i cs[i] (xX hi);have hr':=hr i cs[i] (xX hi);rw[hn]at hr';refine⟨n,by rw[zD,wc hi,yp,rep_int hr'],?_⟩;rw[hl']at hb;exact(Option.some.inj hb).symm)]
  simp[Result.andThen]
end
end Go.Ev
namespace Go.Ev
open Go.RowKit
section
variable {P:Program} {w0 w:World} {F I:Nat->Prop} {Z:Nat->Nat} {N:Nat} {β:Nat->Nat->Nat} {st:St} {a:Act}
def Does (P:Program) (F:Nat->Prop) (β:Nat->Nat->Nat) (st:St) (w:World) (m:Sem Next) (t:TV):Prop:=
 ∃v,m.run P w = .ok (.value v) w/\RepT β w (Mut F β st) v t /\ ∀d g,t.id=some (d,g)->g<st.gen d
theorem Does.sv {m:Sem Next} {v:Value} {s:SV} (hr:m.run P w = .ok (.value v) w) (h:Rep w (Mut F β st) v s):Does P F β st w m (.sv s):=
 ⟨v,hr,h,fun d g hi=>by simp[TV.id]at hi⟩
theorem map_some {α γ:Type} {o:Option α} {f:α->γ} {y:γ} (h:o.map f=some y) : ∃x,o=some x/\f x=y:=by
 cases o with
 |none=>cases h
 |some x=>exact⟨x,rfl,by simpa using h⟩
theorem build_sound (h:Rel w0 F I Z N β st a w) {t:TypeId} {parts:Array (Nat×Operand)} {pl:List (Nat×Nat)} {cs cs':List SV} {ps:List (Nat×SV)}
  (hp:plc P t=some pl) (hz:zer P t=some cs) (hq:partsSV st parts.toList=some ps) (hf:fillC pl cs ps=some cs') (dst:Option Nat) (ty:TypeId) (pos:String) (af:Array Edge) (gd:Option (Nat×Bool)) :
  Does P F β st w (execOp a.eval ⟨dst,.build t parts,ty,pos,af,gd⟩) (.sv (.agg cs')):=by
 unfold plc at hp;split at hp
 ·rename_i fs hu;obtain⟨i,z,hi,hzz,hsz,hcell⟩:=zer_parts hz;obtain⟨hl,hpr⟩:=parts_rep h hq;obtain⟨vs',hfill,hsz',hrep⟩:=fill_sound (w:=w) (M:=Mut F β st) (place:=fun i=>(pl.toArray)[i]?) (fun i=>by simp) (parts:=parts.toList.map fun p=>(p.1,a.eval p.2)) (vs:=z.cells)
   (by simp[hl]) hpr ⟨hsz,fun j x hx=>by
    obtain⟨v,hv,ho⟩:=hcell j x hx;rw[xR,hv];exact ofCell_rep ho⟩ hf
  refine Does.sv (v := .agg vs') ?_ (.agg _ _ hsz' hrep);have hpl:(fs.mapM fun f=>(do pure (f.offset,<- sizeOf f.type):Sem (Nat×Nat))).run P w = .ok pl.toArray w:=by
   rw[Array.mapM_eq_mapM_toList,Sem.run_map,run_places hp];rfl
  have hparts:(parts.map fun (x:Nat×Operand)=>(x.1,a.eval x.2)).toList=parts.toList.map fun p=>(p.1,a.eval p.2):=by simp
  simp only[execOp,Instr.build,Sem.run_bind,run_zero hi hzz,Result.andThen_ok,run_underlying hu];erw [hpl]
  simp only[Result.andThen_ok];have:(parts.map fun (x:Nat×Operand)=>match x with|(i,x)=>(i,a.eval x)).toList=parts.toList.map fun p=>(p.1,a.eval p.2):=by simp
  rw[this,hfill];rfl
 ·cases hp
theorem loadOp_sound {t:TypeId} {x:Operand} {sh:Bool×Nat} (hsh:shp P t=some sh) {p:Addr} (hx:a.eval x = .pointer (some p)) {cells:List SV} {s:SV}
  (hc : ∀ (i:Nat) (y:SV),cells[i]?=some y -> ∃v,w.cell? (p.add i)=some v/\Rep w (Mut F β st) v y) (hl:loadC sh cells=some s)
  (dst:Option Nat) (ty:TypeId) (pos:String) (af:Array Edge) (gd:Option (Nat×Bool)):Does P F β st w (execOp a.eval ⟨dst,.load t x,ty,pos,af,gd⟩) (.sv s):=by
 obtain⟨v,hv,hr⟩:=load_sound (P:=P) hsh hc hl;refine Does.sv (v:=v) ?_ hr;simp[execOp,hx,Instr.loadAt,Instr.sureAddr,hv]
theorem slice_run {t e:TypeId} {i:TypeInfo} (hu:P.underlying t=some (.slice e)) (hi:P.info? e=some i) {A:Option Addr} {n cap l hh:Nat} (hn:n<=cap) (h1:l<=hh) (h2:hh<=n)
  {lo hi':Option Value} (hlo:(lo=none/\l=0) \/ ∃k,lo=some (.int k (l:Int))) (hhi:(hi'=none/\hh=n) \/ ∃k,hi'=some (.int k (hh:Int))) :
  (Instr.sliceAt t (.slice A n cap) lo hi' none).run P w = .ok (.slice (if cap=l then A else A.map (·.add (l*i.size))) (hh-l) (cap-l)) w:=by
 have hb:(Instr.sliceBounds true n cap lo hi' none).run P w = .ok (l,hh,cap) w:=by
  have hH : ∀ (k:IntKind) (y:Nat) (code:BoundsCode),hh<=y->(Instr.sliceBound (.int k (hh:Int)) y code).run P w = .ok hh w:=fun k y code hy=>by
   simp[Instr.sliceBound,asIntOf,hy]
  have hL : ∀ (k:IntKind) (y:Nat) (code:BoundsCode),l<=y->(Instr.sliceBound (.int k (l:Int)) y code).run P w = .ok l w:=fun k y code hy=>by
   simp[Instr.sliceBound,asIntOf,hy]
  rcases hhi with⟨rfl,rfl⟩|⟨kh,rfl⟩<;>rcases hlo with⟨rfl,rfl⟩|⟨kl,rfl⟩
  ·rfl
  ·simp only[Instr.sliceBounds,Sem.run_bind,Sem.run_pure,Result.andThen_ok,hL kl _ _ h1]
  ·simp only[Instr.sliceBounds,Sem.run_bind,Sem.run_pure,Result.andThen_ok,hH kh _ _ (xH h2 hn)]
  ·simp only[Instr.sliceBounds,Sem.run_bind,Sem.run_pure,Result.andThen_ok,hH kh _ _ (xH h2 hn),hL kl _ _ h1]
 simp only[Instr.sliceAt,Instr.slice,Sem.run_bind,run_underlying hu,Result.andThen_ok,hb,run_size hi,Sem.run_pure]
theorem natO_rep (h:Rel w0 F I Z N β st a w) {o:Operand} {n:Nat} (ho:natTV (st.eval o)=some n) : ∃k,a.eval o = .int k (n:Int):=natTV_rep (h.eval o) ho
theorem sliceOp_sound (h:Rel w0 F I Z N β st a w) {t:TypeId} {x:Operand} {lo hi:Option Operand} {e size bytes l hh:Nat} {tv:TV} (he:elm P t=some (e,size,bytes))
  (hl:(match lo with|some o=>natTV (st.eval o)|none=>some 0)=some l) (hh':(match hi with|some o=>natTV (st.eval o)|none=>lenTV (st.eval x))=some hh)
  (hs:sliceTV size l hh (st.eval x)=some tv) (dst:Option Nat) (ty:TypeId) (pos:String) (af:Array Edge) (gd:Option (Nat×Bool)) :
  Does P F β st w (execOp a.eval ⟨dst,.slice t x lo hi none,ty,pos,af,gd⟩) tv:=by
 obtain⟨hu,i,hi',hsz,_⟩:=elm_parts he;have hlo:(lo.map a.eval=none/\l=0) \/ ∃k,lo.map a.eval=some (.int k (l:Int)):=by
  cases lo with
  |none=>left;exact⟨rfl,by simpa using hl.symm⟩
  |some o=>right;obtain⟨k,hk⟩:=natO_rep h hl;exact⟨k,by rw[yp,hk]⟩
 have hrep:=h.eval x;unfold sliceTV at hs;split at hs
 ·rename_i n cs hx;rw[hx]at hrep hh';obtain⟨A,cap,hv,hcap⟩:=slice_len hrep;have hhi:(hi.map a.eval=none/\hh=n) \/ ∃k,hi.map a.eval=some (.int k (hh:Int)):=by
   cases hi with
   |none=>left;exact⟨rfl,by simpa[lenTV]using hh'.symm⟩
   |some o=>right;obtain⟨k,hk⟩:=natO_rep h hh';exact⟨k,by rw[yp,hk]⟩
  split at hs
  ·rename_i hb;cases hs;refine Does.sv (v := .slice (if cap=l then A else A.map (·.add (l*i.size))) (hh-l) (cap-l)) ?_ ?_
   ·simp only[execOp,hv,wq,Sem.run_bind,slice_run hu hi' hcap hb.1 hb.2 hlo hhi,Result.andThen_ok,Sem.run_pure]
   ·rw[hv]at hrep;cases hrep with
    |sl0=>rw[List.drop_nil,List.take_nil];exact .sl0 _ _ _ (by omega)
    |sl p _ _ _ _ c hbl hc hr=>
     by_cases hcl:cap=l
     ·have:hh-l=0:=by omega
      rw[this,zY,List.take_zero];exact .sl0 _ _ _ (by omega)
     ·rw[if_neg hcl,yp,hsz];refine .sl _ _ _ (by omega) _ (fun j=>c (l*size+j)) (by rw[block_add];exact hbl) (fun j s hj => ?_) (fun j s hj => ?_)
      ·rw[add_add];refine hc _ s ?_;rcases xi j ((hh-l)*size) with hjl|hjl
       ·rw[yk hjl,ye]at hj;exact hj
       ·rw[xl (by simp;omega)]at hj;cases hj
      ·refine hr _ s ?_;rcases xi j ((hh-l)*size) with hjl|hjl
       ·rw[yk hjl,ye]at hj;exact hj
       ·rw[xl (by simp;omega)]at hj;cases hj
  ·cases hs
 ·rename_i hx;rw[hx]at hrep hh';have hv:a.eval x = .slice none 0 0:=hrep;split at hs
  ·rename_i hb;obtain⟨rfl,rfl⟩:=hb;cases hs;have hhi:(hi.map a.eval=none/\0=0) \/ ∃k,hi.map a.eval=some (.int k ((0:Nat):Int)):=by
    cases hi with
    |none=>left;exact⟨rfl,rfl⟩
    |some o=>right;obtain⟨k,hk⟩:=natO_rep h hh';exact⟨k,by rw[yp,hk]⟩
   refine⟨.slice none 0 0,?_,rfl,fun d g hi=>by simp[TV.id]at hi⟩;simp only[execOp,hv,wq,Sem.run_bind,slice_run hu hi' (xQ 0) (xQ 0) (xQ 0) hlo hhi,Result.andThen_ok,Sem.run_pure];rfl
  ·cases hs
 ·rename_i d g sz off n hx;rw[hx]at hrep hh';obtain⟨cap,cs,cty,hv,hcap,hblk,hroom⟩:=hrep;have hhi:(hi.map a.eval=none/\hh=n) \/ ∃k,hi.map a.eval=some (.int k (hh:Int)):=by
   cases hi with
   |none=>left;exact⟨rfl,by simpa[lenTV]using hh'.symm⟩
   |some o=>right;obtain⟨k,hk⟩:=natO_rep h hh';exact⟨k,by rw[yp,hk]⟩
  split at hs
  ·rename_i hb;obtain⟨hb0,hb1,hb2,hb3⟩:=hb;cases hs;refine⟨.slice (some ⟨β d g,off+l*i.size,none⟩) (hh-l) (cap-l),?_,?_,?_⟩
   ·simp only[execOp,hv,wq,Sem.run_bind,slice_run hu hi' hcap hb1 hb2 hlo hhi,Result.andThen_ok,Sem.run_pure,yp,add_mk];split
    ·rename_i hcl;have hl0:l=0:=by omega
     subst hl0;rw[zY,yE]
    ·rfl
   ·refine⟨cap-l,cs,cty,by rw[hsz],by omega,hblk,?_⟩;have:cap*sz=l*sz+(cap-l)*sz:=by rw[<- xZ];congr 1;omega
    rw[<- hb0];omega
   ·intro d' g' hid;simp only[TV.id,Option.some.injEq,Prod.mk.injEq]at hid;obtain⟨rfl,rfl⟩:=hid;exact h.evalId (by rw[hx];rfl)
  ·cases hs
 ·cases hs
end
end Go.Ev
namespace Go.Ev
open Go.RowKit
section
variable {P:Program} {w0 w:World} {F I:Nat->Prop} {Z:Nat->Nat} {N:Nat} {β:Nat->Nat->Nat} {st:St} {a:Act}
theorem isStr_under {t:TypeId} (h:isStr P t=true):P.underlying t=some .string:=by
 unfold isStr at h;split at h
 ·assumption
 ·cases h
theorem minmax_rep (h:Rel w0 F I Z N β st a w) {xs:List Operand} {ss:List SV} (hs:allSV (xs.map st.eval)=some ss) {k k':IntKind} {n m:Int} (e:ss=[.int k n,.int k' m]) :
  xs.map a.eval=[.int k n,.int k' m]:=by
 subst e;obtain⟨hl,hr⟩:=allSV_rep h hs;match xs,hl with
 | [x,y],_=>
  obtain⟨v,hv,h1⟩:=hr 0 _ rfl;obtain⟨u,hu,h2⟩:=hr 1 _ rfl;simp only[wL,List.map_nil,yK,yQ,Option.some.injEq]at hv hu;simp only[wL,List.map_nil,hv,hu,rep_int h1,rep_int h2]
theorem call_builtin (o:Builtin) (args:Array Operand) (tys:Array TypeId) (dst:Option Nat) (ty:TypeId) (pos:String) (af:Array Edge) (gd:Option (Nat×Bool)) :
  execOp a.eval ⟨dst,.call { callee := .builtin o,args:=args,argTypes:=tys },ty,pos,af,gd⟩ =
   builtin o tys ty (args.map fun | .const _=>true|_=>false) (args.map a.eval):=by
 simp only[execOp,resolve,invoke];rfl
theorem rep_con {w:World} {M:Nat->Prop} {v u:Value} (h:Rep w M v (.con u)):v=u:=by
 cases h;rfl
set_option maxHeartbeats 1000000 in
theorem val_sound (h:Rel w0 F I Z N β st a w) {op:Op} {t:TV} (hv:val P st op=some t) (dst:Option Nat) (ty:TypeId) (pos:String) (af:Array Edge) (gd:Option (Nat×Bool)) :
  Does P F β st w (execOp a.eval ⟨dst,op,ty,pos,af,gd⟩) t:=by
 unfold val at hv;split at hv
 ·-- move
  cases hv;exact⟨_,rfl,h.eval _,fun d g hi=>h.evalId hi⟩
 ·cases hv;exact⟨_,rfl,h.eval _,fun d g hi=>h.evalId hi⟩
 ·-- pick
  rename_i c x y;split at hv
  ·rename_i b hb;cases hv;have hc:=h.eval c;rw[hb]at hc;cases b with
   |true=>exact⟨a.eval x,by simp[execOp,rep_bool hc,asBool],h.eval x,fun d g hi=>h.evalId hi⟩
   |false=>exact⟨a.eval y,by simp[execOp,rep_bool hc,asBool],h.eval y,fun d g hi=>h.evalId hi⟩
  ·cases hv
 ·-- build
  split at hv
  ·rename_i pl cs ps h1 h2 h3;split at hv
   ·rename_i cs' h4;cases hv;exact build_sound h h1 h2 h3 h4 dst ty pos af gd
   ·cases hv
  ·cases hv
 ·-- load
  rename_i t x;split at hv
  ·rename_i sh hsh;split at hv
   ·rename_i d g off hx;split at hv
    ·rename_i cs hcs;obtain⟨s,hs,rfl⟩:=map_some hv;have he:=h.eval x;rw[hx]at he;exact loadOp_sound hsh he (h.obj_cells hcs off) hs dst ty pos af gd
    ·cases hv
   ·rename_i cs hx;obtain⟨s,hs,rfl⟩:=map_some hv;have he:=h.eval x;rw[hx]at he;obtain⟨p,hp,hc⟩:=mem_cells he;exact loadOp_sound hsh hp hc hs dst ty pos af gd
   ·cases hv
  ·cases hv
 ·-- binOp
  rename_i op t x y yt;split at hv
  ·rename_i u v hu hv';obtain⟨s,hs,rfl⟩:=map_some hv;obtain⟨r,hr,hrep⟩:=bin_sound (P:=P) (toSV_rep (h.eval x) hu) (toSV_rep (h.eval y) hv') x y hs;refine Does.sv (v:=r) ?_ (hrep _);simp only[execOp];rw[Sem.run_bind,hr];rfl
  ·obtain⟨s,hs,rfl⟩:=map_some hv;unfold ptrSV at hs;split at hs
   ·rename_i d g off hx hy;split at hs
    ·rename_i hp;have hx':=h.eval x;rw[hx]at hx';have hy':=h.eval y;rw[hy]at hy';have hx':a.eval x = .pointer (some ⟨β d g,off,none⟩):=hx';have hy':a.eval y = .pointer none:=rep_con hy';obtain⟨r,hr,hrep⟩:=ptr_nil_sound (P:=P) (w:=w) (op:=op) (A:=some ⟨β d g,off,none⟩) hp hs x y;refine Does.sv (v:=r) ?_ (hrep _);simp only[execOp,hx',hy'];rw[Sem.run_bind,hr];rfl
    ·cases hs
   ·cases hs
 ·-- nilCheck
  rename_i x;have he:=h.eval x;split at hv
  ·rename_i d g off hx;cases hv;rw[hx]at he;have he':a.eval x = .pointer (some ⟨β d g,off,none⟩):=he;refine⟨_,?_,he,fun d' g' hi => ?_⟩
   ·simp only[execOp,he'];rfl
   ·rw[<- hx]at hi;exact h.evalId hi
  ·rename_i cs hx;cases hv;rw[hx]at he;obtain⟨p,hp,hc⟩:=mem_cells he;refine Does.sv (v:=a.eval x) ?_ he;simp only[execOp,hp];rfl
  ·cases hv
 ·-- unOp
  rename_i op t x;split at hv
  ·rename_i u hu;obtain⟨s,hs,rfl⟩:=map_some hv;obtain⟨r,hr,hrep⟩:=un_sound (P:=P) (toSV_rep (h.eval x) hu) hs;refine Does.sv (v:=r) ?_ (hrep _);simp only[execOp,Sem.run_bind,hr,Result.andThen_ok,Sem.run_pure]
  ·cases hv
 ·-- convert
  rename_i src dst' x;have he:=h.eval x;split at hv
  ·rename_i k n hx;rw[hx]at he;split at hv
   ·rename_i k' hk;split at hv
    ·rename_i hsrc;cases hv;obtain⟨d,hd⟩:=wt.1 hsrc;refine Does.sv (v := .int k' (k'.wrap n)) ?_ (.int _ _);simp only[execOp,rep_int he,convert,Sem.run_bind,run_underlying hd,run_underlying (isInt_under hk),Result.andThen_ok];cases d<;>rfl
    ·cases hv
   ·cases hv
  ·rename_i s hx;rw[hx]at he;split at hv
   ·rename_i hd;cases hv;obtain⟨hsrc,hdst⟩:=hd;obtain⟨d,hd⟩:=wt.1 hsrc;refine Does.sv (v := .string s) ?_ (.str _);simp only[execOp,rep_str he,convert,Sem.run_bind,run_underlying hd,run_underlying (isStr_under hdst),Result.andThen_ok];cases d<;>rfl
   ·cases hv
  ·rename_i n cs hx;rw[hx]at he;split at hv
   ·rename_i e hsrc hdst;split at hv
    ·rename_i l hint hl;split at hv
     ·rename_i hn;cases hv;refine Does.sv (v := .string ⟨l.toArray⟩) ?_ (.str _);simp only[execOp];obtain⟨A,cap,hA,_⟩:=slice_len he;have hb:=bytes_str (P:=P) he hl hn;rw[hA]at hb ⊢;simp only[convert,Sem.run_bind,run_underlying hsrc,run_underlying hdst,run_underlying (isInt_under hint),Result.andThen_ok,hb,Sem.run_pure]
     ·cases hv
    ·cases hv
   ·cases hv
  ·cases hv
 ·-- extract
  rename_i x i;split at hv
  ·rename_i vs hx;obtain⟨s,hs,rfl⟩:=map_some hv;have he:=h.eval x;rw[hx]at he;obtain⟨r,hr,hrep⟩:=extract_sound (P:=P) he hs;refine Does.sv (v:=r) ?_ hrep;simp only[execOp,Sem.run_bind,hr,Result.andThen_ok,Sem.run_pure]
  ·cases hv
 ·-- field
  rename_i t x f;split at hv
  ·rename_i cs hx;split at hv
   ·rename_i off fty fsz hf;split at hv
    ·rename_i sh hsh;obtain⟨s,hs,rfl⟩:=map_some hv;have he:=h.eval x;rw[hx]at he;obtain⟨fs,fx,i,hu,hfx,rfl,rfl,hi,_⟩:=fld_parts hf;generalize hvx:a.eval x=vx at he;cases he with
     |agg us _ hl hr=>
      obtain⟨r,hr',hrep⟩:=part_sound (P:=P) hsh hl hr hs;refine Does.sv (v:=r) ?_ hrep;simp only[execOp,hvx,Instr.field,Sem.run_bind,run_underlying hu,Result.andThen_ok,hfx,asAgg,Sem.run_pure,hr']
    ·cases hv
   ·cases hv
  ·cases hv
 ·-- fieldAddr
  rename_i t x f;split at hv
  ·rename_i off fty fsz hf;split at hv
   ·cases hv
   ·rename_i hsz;obtain⟨fs,fx,i,hu,hfx,rfl,rfl,hi,his⟩:=fld_parts hf;have he:=h.eval x;split at hv
    ·rename_i d g o hx;cases hv;rw[hx]at he;have he:a.eval x = .pointer (some ⟨β d g,o,none⟩):=he;refine⟨.pointer (some ⟨β d g,o+fx.offset,none⟩),?_,rfl,fun d' g' hid => ?_⟩
     ·simp only[execOp,he,Instr.fieldAt,Sem.run_bind,run_underlying hu,Result.andThen_ok,hfx,Instr.sureAddr,Sem.run_pure,place_sound hi (by rw[his];exact hsz),add_mk]
     ·simp only[TV.id,Option.some.injEq,Prod.mk.injEq]at hid;obtain⟨rfl,rfl⟩:=hid;exact h.evalId (by rw[hx];rfl)
    ·rename_i cs hx;cases hv;rw[hx]at he;obtain⟨p,hp,_⟩:=mem_cells he;rw[hp]at he;refine Does.sv (v := .pointer (some (p.add fx.offset))) ?_ (he.mem_drop _);simp only[execOp,hp,Instr.fieldAt,Sem.run_bind,run_underlying hu,Result.andThen_ok,hfx,Instr.sureAddr,Sem.run_pure,place_sound hi (by rw[his];exact hsz)]
    ·cases hv
  ·cases hv
 ·-- indexAddr
  rename_i t x ix;split at hv
  ·rename_i e size bytes i he hi;obtain⟨hu,inf,hinf,hsz,_⟩:=elm_parts he;obtain⟨k,hk⟩:=natO_rep h hi;have hx':=h.eval x;split at hv
   ·rename_i n cs hx;split at hv
    ·rename_i hlt;cases hv;rw[hx]at hx';generalize hvx:a.eval x=vx at hx';cases hx' with
     |sl0 A _ cap hn=>simp at hlt
     |sl p _ cap hn _ c hb hc hr=>
      have hm:Rep w (Mut F β st) (.pointer (some p)) (.mem cs) := .mem p cs c hb hc hr;refine Does.sv (v := .pointer (some (p.add (i*inf.size)))) ?_ (by rw[hsz];exact hm.mem_drop _);simp only[execOp,hvx,hk,Instr.indexAt,asIntOf,Sem.run_bind,Sem.run_pure,Result.andThen_ok,run_underlying hu];rw[if_pos (by omega)];simp[run_size hinf]
    ·cases hv
   ·rename_i d g sz off n hx;split at hv
    ·rename_i hlt;cases hv;rw[hx]at hx';obtain⟨cap,cs,cty,hvx,hcap,hblk,hroom⟩:=hx';refine⟨.pointer (some ⟨β d g,off+i*size,none⟩),?_,rfl,fun d' g' hid => ?_⟩
     ·simp only[execOp,hvx,hk,Instr.indexAt,asIntOf,Sem.run_bind,Sem.run_pure,Result.andThen_ok,run_underlying hu];rw[if_pos (by omega)];simp[run_size hinf,hsz,add_mk]
     ·simp only[TV.id,Option.some.injEq,Prod.mk.injEq]at hid;obtain⟨rfl,rfl⟩:=hid;exact h.evalId (by rw[hx];rfl)
    ·cases hv
   ·cases hv
  ·cases hv
 ·-- index
  rename_i t x ix;split at hv
  ·rename_i i s hi hx;split at hv
   ·rename_i hu;split at hv
    ·rename_i b hb;cases hv;obtain⟨k,hk⟩:=natO_rep h hi;have hx':=h.eval x;rw[hx]at hx';refine Does.sv (v := .int .u8 b.toNat) ?_ (.int _ _);simp only[execOp,rep_str hx',hk,Instr.index,asIntOf,Sem.run_bind,Sem.run_pure,Result.andThen_ok,run_underlying hu];rw[if_pos (by omega),Int.toNat_natCast,hb];rfl
    ·cases hv
   ·cases hv
  ·cases hv
 ·-- slice
  rename_i t x lo hi mx;split at hv
  ·cases hv
  ·rename_i hmx;have hmx:mx=none:=by cases mx with
    |none=>rfl
    |some m=>simp at hmx
   subst hmx;split at hv
   ·rename_i l hh hl hh';unfold sliceV at hv;split at hv
    ·rename_i s hx;split at hv
     ·rename_i hb;obtain⟨hu,h1,h2⟩:=hb;cases hv;have he:=h.eval x;rw[hx]at he;refine Does.sv (v := .string (s.extract l hh)) ?_ (.str _);have hH : ∀ (k:IntKind) (y:Nat) (code:BoundsCode),hh<=y->(Instr.sliceBound (.int k (hh:Int)) y code).run P w = .ok hh w:=fun k y code hy=>by
       simp[Instr.sliceBound,asIntOf,hy]
      have hL : ∀ (k:IntKind) (y:Nat) (code:BoundsCode),l<=y->(Instr.sliceBound (.int k (l:Int)) y code).run P w = .ok l w:=fun k y code hy=>by
       simp[Instr.sliceBound,asIntOf,hy]
      have hb:(Instr.sliceBounds false s.size s.size (lo.map a.eval) (hi.map a.eval) none).run P w = .ok (l,hh,s.size) w:=by
       cases hi with
       |none=>
        simp only[hiNat,hx,lenTV,Option.some.injEq]at hh';subst hh';cases lo with
        |none=>
         simp only[loNat,Option.some.injEq]at hl;subst hl;rfl
        |some o=>
         obtain⟨k,hk⟩:=natO_rep h hl;simp only[Instr.sliceBounds,yp,wq,hk,Sem.run_bind,Sem.run_pure,Result.andThen_ok,hL k _ _ h1]
       |some o' =>
        obtain⟨k',hk'⟩:=natO_rep h hh';cases lo with
        |none=>
         simp only[loNat,Option.some.injEq]at hl;subst hl;simp only[Instr.sliceBounds,yp,wq,hk',Sem.run_bind,Sem.run_pure,Result.andThen_ok,hH k' _ _ h2]
        |some o=>
         obtain⟨k,hk⟩:=natO_rep h hl;simp only[Instr.sliceBounds,yp,hk,hk',Sem.run_bind,Sem.run_pure,Result.andThen_ok,hH k' _ _ h2,hL k _ _ h1]
      simp only[execOp,rep_str he,Instr.sliceAt,Instr.slice,Sem.run_bind,run_underlying (isStr_under hu),Result.andThen_ok,wq,Option.isSome_none,Bool.false_eq_true,if_false,hb,Sem.run_pure]
     ·cases hv
    ·split at hv
     ·rename_i e size bytes he;exact sliceOp_sound h he (by cases lo<;>exact hl) (by cases hi<;>exact hh') hv dst ty pos af gd
     ·cases hv
   ·cases hv
 ·-- makeFunc
  rename_i f first captured
  split at hv
  ·rename_i h0;split at hv
   ·rename_i l hl;cases hv;obtain⟨h1,h2⟩:=allSV_rep h hl;have hf:first = #[]:=Array.eq_empty_of_size_eq_zero h0
    subst hf;refine Does.sv (v := .func (.func f) #[] (captured.map a.eval)) ?_ (.fn f _ l (by simpa using h1) fun i s hi => ?_)
    ·simp[execOp,Instr.makeFunc]
    ·obtain⟨v,hv,hr⟩:=h2 i s hi;rw[xR,<- Array.getElem?_toList,Array.toList_map,hv];exact hr
   ·cases hv
  ·cases hv
 ·-- len
  rename_i args tys;split at hv
  ·rename_i x t hx ht;have hargs:args = #[x]:=by apply Array.ext';simpa using hx
   have htys:tys = #[t]:=by apply Array.ext';simpa using ht
   subst hargs htys;have he:=h.eval x;split at hv
   ·rename_i n s hn hs;split at hv
    ·rename_i hu;cases hv;rw[hs]at he hn;simp only[lenTV,Option.some.injEq]at hn;subst hn;refine Does.sv (v := .int .i64 s.size) ?_ (.int _ _);rw[call_builtin];simp[builtin,Builtin.len_,rep_str he,run_underlying hu,goInt]
    ·cases hv
   ·rename_i n hn hns;split at hv
    ·rename_i e he';cases hv;obtain⟨hu,inf,hinf,hsz,_⟩:=elm_parts (P:=P) (t:=t) (e:=e.1) (size:=e.2.1) (bytes:=e.2.2) he';have hvl : ∃A cap,a.eval x = .slice A n cap:=by
      revert hn he hns
      cases st.eval x with
      |sv s=>cases s with
       |sl m cs=>intro he hn _;obtain⟨A,cap,hA,_⟩:=slice_len he;simp only[lenTV,Option.some.injEq]at hn;subst hn;exact⟨A,cap,hA⟩
       |str s=>intro _ _ hns;exact absurd rfl (hns s)
       |_=>intro _ hn;simp[lenTV]at hn
      |nil=>intro he hn _;simp only[lenTV,Option.some.injEq]at hn;subst hn;exact⟨none,0,he⟩
      |ref d g size off m=>intro he hn _;obtain⟨cap,cs,cty,hA,_⟩:=he;simp only[lenTV,Option.some.injEq]at hn;subst hn;exact⟨_,cap,hA⟩
      |ptr d g off=>intro _ hn;simp[lenTV]at hn
      |undef=>intro _ hn;simp[lenTV]at hn
      |skip=>intro _ hn;simp[lenTV]at hn
     obtain⟨A,cap,hA⟩:=hvl;refine Does.sv (v := .int .i64 n) ?_ (.int _ _);rw[call_builtin];simp[builtin,Builtin.len_,hA,run_underlying hu,goInt]
    ·cases hv
   ·cases hv
  ·cases hv
 ·-- min
  rename_i args tys;split at hv
  ·rename_i l hl;obtain⟨s,hs,rfl⟩:=map_some hv;unfold minSV at hs;split at hs
   ·rename_i k n k' m;cases hs;have hm:=minmax_rep h hl rfl;refine Does.sv (v := .int k (if m<n then m else n)) ?_ (.int _ _);have hargs:(args.map a.eval) = #[.int k n,.int k' m]:=by apply Array.ext';rw[Array.toList_map,hm]
    rw[call_builtin,hargs];rfl
   ·cases hs
  ·cases hv
 ·-- max
  rename_i args tys;split at hv
  ·rename_i l hl;obtain⟨s,hs,rfl⟩:=map_some hv;unfold maxSV at hs;split at hs
   ·rename_i k n k' m;cases hs;have hm:=minmax_rep h hl rfl;refine Does.sv (v := .int k (if m>n then m else n)) ?_ (.int _ _);have hargs:(args.map a.eval) = #[.int k n,.int k' m]:=by apply Array.ext';rw[Array.toList_map,hm]
    rw[call_builtin,hargs];rfl
   ·cases hs
  ·cases hv
 ·cases hv
end
end Go.Ev
namespace Go.Ev
open Go.RowKit
def Holds (w:World) (M:Nat->Prop) (b:Nat) (cs:List SV):Prop:=
 ∃ (us:Array Value) (ty:TypeId),w.heap[b]?=some (.cells us ty (0,0)) /\ ∀ (i:Nat) (s:SV),cs[i]?=some s->s.one=true /\ ∃v:Value,us[i]?=some v/\Rep w M v s
def upd (β:Nat->Nat->Nat) (d g b:Nat):Nat->Nat->Nat:=fun d' g'=>if d'=d/\g'=g then b else β d' g'
section
variable {P:Program} {w0 w:World} {F I:Nat->Prop} {Z:Nat->Nat} {N:Nat} {β:Nat->Nat->Nat} {st:St} {a:Act}
theorem lt_of_heap {w:World} {b:Nat} {o:Obj} (h:w.heap[b]?=some o):b<w.heap.size:=by
 rcases xi b w.heap.size with hh|hh
 ·exact hh
 ·rw[Array.getElem?_eq_none hh]at h;cases h
theorem Rel.lt (h:Rel w0 F I Z N β st a w) {d g:Nat} (ho:(st.obj d g).isSome=true):β d g<w.heap.size:=by
 obtain⟨cs,hcs⟩:=wt.1 ho;obtain⟨us,ty,hb,_⟩:=h.objs d g cs hcs;exact lt_of_heap hb
theorem Rel.mut_lt (h:Rel w0 F I Z N β st a w) {b:Nat} (hb:Mut F β st b):b<w.heap.size:=by
 rcases hb with hf|⟨d,g,ho,rfl⟩
 ·exact xz (h.old b hf) h.ext.size
 ·exact h.lt ho
theorem Ext.alloc {I:Nat->Prop} (h:Ext I w0 w) (o:Obj):Ext I w0 (w.alloc o):=
 h.trans ⟨rfl,rfl,rfl,by simp,fun b hb _=>Below.heap_alloc w o b hb,fun b cs ty hb _ hc=>⟨cs,(Below.heap_alloc w o b hb).trans hc,rfl⟩⟩
theorem Rel.new (h:Rel w0 F I Z N β st a w) {d:Nat} (hd:d<N) {cs:List SV} {us:Array Value} {ty:TypeId} {t:TV} {v:Value}
  (hc : ∀ (i:Nat) (s:SV),cs[i]?=some s->s.one=true /\ ∃u:Value,us[i]?=some u/\Rep w (Mut F β st) u s)
  (ht:RepT (upd β d (st.gen d) w.heap.size) (w.alloc (.cells us ty)) (Mut F (upd β d (st.gen d) w.heap.size) (st.new d cs t)) v t) (hi : ∀d' g',t.id=some (d',g')->d'=d/\g'=st.gen d) :
  Rel w0 F I Z N (upd β d (st.gen d) w.heap.size) (st.new d cs t) (a.put (some d) v) (w.alloc (.cells us ty)):=by
 have hnone:st.obj d (st.gen d)=none:=by
  cases ho:st.obj d (st.gen d) with
  |none=>rfl
  |some x=>exact absurd (h.gens d (st.gen d) (by rw[ho];rfl)) (Nat.lt_irrefl _)
 have hobj : ∀d' g',((st.new d cs t).obj d' g').isSome=true->(d'=d/\g'=st.gen d)\/((st.obj d' g').isSome=true /\ ¬(d'=d/\g'=st.gen d)):=by
  intro d' g' ho;by_cases he:d'=d/\g'=st.gen d
  ·exact .inl he
  ·simp only[St.new,if_neg he]at ho;exact .inr ⟨ho,he⟩
 have hupd : ∀d' g',¬(d'=d/\g'=st.gen d)->upd β d (st.gen d) w.heap.size d' g'=β d' g':=fun d' g' he=>if_neg he
 have hnew:upd β d (st.gen d) w.heap.size d (st.gen d)=w.heap.size:=if_pos ⟨rfl,rfl⟩;have hM : ∀b,b<w.heap.size->Mut F (upd β d (st.gen d) w.heap.size) (st.new d cs t) b->Mut F β st b:=by
  rintro b hb (hf|⟨d',g',ho,e⟩)
  ·exact .inl hf
  ·rcases hobj d' g' ho with⟨rfl,rfl⟩|⟨ho',he⟩
   ·rw[hnew]at e;omega
   ·rw[hupd _ _ he]at e;exact .inr ⟨d',g',ho',e⟩
 have hcell : ∀p:Addr,p.block<w.heap.size -> ¬Mut F β st p.block->(w.alloc (.cells us ty)).cell? p=w.cell? p:=fun p hp _=>World.cell?_alloc_lt w _ p hp
 have hrep : ∀ {v:Value} {s:SV},Rep w (Mut F β st) v s->Rep (w.alloc (.cells us ty)) (Mut F (upd β d (st.gen d) w.heap.size) (st.new d cs t)) v s:=fun hr=>Rep.mono hcell hM hr
 exact {
  defers:=h.defers
  size:=by simp[Act.put,h.size]
  tmps:=fun u=>by
   by_cases hu:u=d
   ·subst hu;simp only[Act.put,xR];rw[zN (by rw[h.size];exact hd)];have:(st.new u cs t).tmp u=t:=if_pos rfl;rw[this];exact ht
   ·have h1:(st.new d cs t).tmp u=st.tmp u:=if_neg hu;rw[h1];simp only[Act.put,xR];rw[zV (fun e=>hu e.symm)];have hold:=h.tmps u;rw[xR]at hold;have hids:=h.ids u
    revert hold hids
    cases st.tmp u with
    |sv s=>intro hold _;exact hrep hold
    |nil=>intro hold _;exact hold
    |undef=>intro _ _;trivial
    |skip=>intro hold _;exact hold
    |ptr d' g' off=>
     intro hold hids;have hlt:=hids d' g' rfl;show _=_;rw[hupd d' g' (fun e=>by obtain⟨rfl,rfl⟩:=e;omega)];exact hold
    |ref d' g' size off n=>
     intro hold hids;have hlt:=hids d' g' rfl;obtain⟨cap,cs',ty',h1,h2,h3,h4⟩:=hold;refine⟨cap,cs',ty',?_,h2,?_,h4⟩
     ·rw[hupd d' g' (fun e=>by obtain⟨rfl,rfl⟩:=e;omega)];exact h1
     ·rw[hupd d' g' (fun e=>by obtain⟨rfl,rfl⟩:=e;omega),Below.heap_alloc _ _ _ (lt_of_heap h3)];exact h3
  ids:=fun u d' g' hx=>by
   simp only[St.new]at hx ⊢;split at hx
   ·obtain⟨rfl,rfl⟩:=hi d' g' hx;rw[if_pos rfl];omega
   ·have:=h.ids u d' g' hx;split
    ·rename_i e;subst e;omega
    ·exact this
  objs:=fun d' g' cells ho=>by
   by_cases he:d'=d/\g'=st.gen d
   ·obtain⟨rfl,rfl⟩:=he;simp only[St.new,and_self,if_true,Option.some.injEq]at ho;subst ho;refine⟨us,ty,by rw[hnew];exact heap_alloc_new w _,fun i s hs => ?_⟩;obtain⟨h1,u,hu,hr⟩:=hc i s hs;exact⟨h1,u,hu,hrep hr⟩
   ·simp only[St.new,if_neg he]at ho;obtain⟨us',ty',hb,hall⟩:=h.objs d' g' cells ho;refine⟨us',ty',by rw[hupd _ _ he,Below.heap_alloc _ _ _ (lt_of_heap hb)];exact hb,fun i s hs => ?_⟩;obtain⟨h1,u,hu,hr⟩:=hall i s hs;exact⟨h1,u,hu,hrep hr⟩
  own:=fun d' g' ho=>by
   rcases hobj d' g' ho with⟨rfl,rfl⟩|⟨ho',he⟩
   ·rw[hnew];exact⟨fun _=>h.ext.size,fun hn=>absurd (xz hd h.room) (by omega)⟩
   ·rw[hupd _ _ he];exact h.own d' g' ho'
  room:=h.room
  inj:=fun d1 g1 d2 g2 h1 h2 e=>by
   rcases hobj d1 g1 h1 with⟨rfl,rfl⟩|⟨h1',he1⟩<;>rcases hobj d2 g2 h2 with⟨rfl,rfl⟩|⟨h2',he2⟩
   ·exact⟨rfl,rfl⟩
   ·rw[hnew,hupd _ _ he2]at e;have:=h.lt h2';omega
   ·rw[hnew,hupd _ _ he1]at e;have:=h.lt h1';omega
   ·rw[hupd _ _ he1,hupd _ _ he2]at e;exact h.inj d1 g1 d2 g2 h1' h2' e
  gens:=fun d' g' ho=>by
   simp only[St.new];rcases hobj d' g' ho with⟨rfl,rfl⟩|⟨ho',he⟩
   ·rw[if_pos rfl];omega
   ·have:=h.gens d' g' ho';split
    ·rename_i e;subst e;omega
    ·exact this
  ext:=h.ext.alloc _
  old:=h.old
  imps:=h.imps
  pin:=fun d' g' hd'=>(hupd d' g' (fun e=>by have:=h.room;omega)).trans (h.pin d' g' hd') }
theorem Rel.set (h:Rel w0 F I Z N β st a w) {d g:Nat} {cs0 cs:List SV} (ho:st.obj d g=some cs0) {us us':Array Value} {ty:TypeId} {w':World}
  (hb:w.heap[β d g]?=some (.cells us ty (0,0))) (hb':w'.heap[β d g]?=some (.cells us' ty (0,0))) (hsz:us'.size=us.size) (hsame : ∀b,b≠β d g->w'.heap[b]?=w.heap[b]?)
  (hhs:w'.heap.size=w.heap.size) (hos:w'.os=w.os) (htape:w'.tape=w.tape) (hout:w'.output=w.output)
  (hc : ∀ (i:Nat) (s:SV),cs[i]?=some s->s.one=true /\ ∃u:Value,us'[i]?=some u/\Rep w (Mut F β st) u s):Rel w0 F I Z N β (st.set d g cs) a w':=by
 have hos':(st.obj d g).isSome=true:=by rw[ho];rfl
 have hobj : ∀d' g',((st.set d g cs).obj d' g').isSome=(st.obj d' g').isSome:=by
  intro d' g';simp only[St.set];split
  ·rename_i e;obtain⟨rfl,rfl⟩:=e;rw[ho];rfl
  ·rfl
 have hmut : ∀b,Mut F β (st.set d g cs) b↔Mut F β st b:=by
  intro b;constructor
  ·rintro(hf|⟨d',g',h1,h2⟩)
   ·exact .inl hf
   ·exact .inr ⟨d',g',by rw[hobj]at h1;exact h1,h2⟩
  ·rintro(hf|⟨d',g',h1,h2⟩)
   ·exact .inl hf
   ·exact .inr ⟨d',g',by rw[hobj];exact h1,h2⟩
 have hmb:Mut F β st (β d g) := .inr ⟨d,g,hos',rfl⟩;have hcell : ∀p:Addr,p.block<w.heap.size -> ¬Mut F β st p.block->w'.cell? p=w.cell? p:=by
  intro p _ hp;exact World.cell?_of_block (w:=w) (w':=w') (hsame _ (fun e=>hp (by rw[e];exact hmb)))
 have hrep : ∀ {v:Value} {s:SV},Rep w (Mut F β st) v s->Rep w' (Mut F β (st.set d g cs)) v s:=fun hr=>Rep.mono hcell (fun b _ hm=>(hmut b).1 hm) hr
 have hlt:=h.lt hos';exact {
  defers:=h.defers
  size:=h.size
  tmps:=fun u=>by
   refine RepT.mono (w:=w) hcell (fun b _ hm=>(hmut b).1 hm) (fun b cs1 ty1 _ hcs => ?_) (fun b hm _=>hsame b (fun e=>hm (by rw[e];exact hmb))) (h.tmps u);by_cases e:b=β d g
   ·subst e;rw[hb]at hcs;cases hcs;exact⟨us',hb',hsz⟩
   ·exact⟨cs1,(hsame b e).trans hcs,rfl⟩
  ids:=h.ids
  objs:=fun d' g' cells hcs=>by
   by_cases he:d'=d/\g'=g
   ·obtain⟨rfl,rfl⟩:=he;simp only[St.set,and_self,if_true,Option.some.injEq]at hcs;subst hcs;refine⟨us',ty,hb',fun i s hs => ?_⟩;obtain⟨h1,u,hu,hr⟩:=hc i s hs;exact⟨h1,u,hu,hrep hr⟩
   ·simp only[St.set,if_neg he]at hcs;obtain⟨us1,ty1,hb1,hall⟩:=h.objs d' g' cells hcs;have hne:β d' g'≠β d g:=fun e=>he (h.inj d' g' d g (by rw[hcs];rfl) hos' e)
    refine⟨us1,ty1,(hsame _ hne).trans hb1,fun i s hs => ?_⟩;obtain⟨h1,u,hu,hr⟩:=hall i s hs;exact⟨h1,u,hu,hrep hr⟩
  own:=fun d' g' h1=>h.own d' g' (by rw[hobj]at h1;exact h1)
  room:=h.room
  inj:=fun d1 g1 d2 g2 h1 h2 e=>h.inj d1 g1 d2 g2 (by rw[hobj]at h1;exact h1) (by rw[hobj]at h2;exact h2) e
  gens:=fun d' g' h1=>h.gens d' g' (by rw[hobj]at h1;exact h1)
  ext:=by
   refine⟨hos.trans h.ext.os,htape.trans h.ext.tape,hout.trans h.ext.output,by rw[hhs];exact h.ext.size,fun b hb1 hI => ?_,fun b cs1 ty1 hb1 hI hcs => ?_⟩
   ·have hne:b≠β d g:=by
     rintro rfl
     obtain⟨h1,h2⟩:=h.own d g hos';rcases xi d N0 with hd|hd
     ·have:=h1 hd;omega
     ·exact hI (h2 hd)
    exact(hsame b hne).trans (h.ext.block b hb1 hI)
   ·obtain⟨cs2,h2,e2⟩:=h.ext.imp b cs1 ty1 hb1 hI hcs;by_cases e:b=β d g
    ·subst e;rw[hb]at h2;cases h2;exact⟨us',hb',hsz.trans e2⟩
    ·exact⟨cs2,(hsame b e).trans h2,e2⟩
  old:=h.old
  imps:=h.imps
  pin:=h.pin }
theorem Rel.frz (h:Rel w0 F I Z N β st a w) {d g:Nat} {st':St} (hf:st.frz d g=some st'):Rel w0 F I Z N β st' a w:=by
 unfold St.frz at hf;split at hf
 ·cases hf
 ·rename_i hd;split at hf
  ·rename_i cs ho;cases hf;have hos':(st.obj d g).isSome=true:=by rw[ho];rfl
   have hobj : ∀d' g',((if d'=d/\g'=g then none else st.obj d' g'):Option (List SV)).isSome=true->(st.obj d' g').isSome=true /\ ¬(d'=d/\g'=g):=by
    intro d' g' h1;split at h1
    ·cases h1
    ·rename_i he;exact⟨h1,he⟩
   let s':St:={ st with tmp:=fun t=>(st.tmp t).frz d g cs,obj:=fun d' g'=>if d'=d/\g'=g then none else st.obj d' g' }
   have hmut : ∀b,Mut F β s' b->Mut F β st b:=by
    rintro b (hf|⟨d',g',h1,h2⟩)
    ·exact .inl hf
    ·exact .inr ⟨d',g',(hobj d' g' h1).1,h2⟩
   have hnot : ¬Mut F β s' (β d g):=by
    rintro(hf|⟨d',g',h1,h2⟩)
    ·have:=h.old _ hf;have:=(h.own d g hos').1 (by omega);omega
    ·obtain⟨h1,hne⟩:=hobj d' g' h1;exact hne (h.inj d' g' d g h1 hos' h2)
   have hrep : ∀ {v:Value} {s:SV},Rep w (Mut F β st) v s->Rep w (Mut F β s') v s:=fun hr=>Rep.mono (fun _ _ _=>rfl) (fun b _ hm=>hmut b hm) hr
   obtain⟨us,ty,hb,hall⟩:=h.objs d g cs ho;have hcellv : ∀ (off i:Nat) (s:SV),(cs.drop off)[i]?=some s->w.cell? ((⟨β d g,off,none⟩:Addr).add i)=some (us.getD (off+i) undef)/\Rep w (Mut F β s') (us.getD (off+i) undef) s:=by
    intro off i s hs;rw[ye]at hs;obtain⟨_,v,hv,hr⟩:=hall _ s hs;rw[add_mk,cell_of_row w _ _ us ty (0,0) hb,xR,hv];exact⟨rfl,hrep hr⟩
   exact {
    defers:=h.defers
    size:=h.size
    tmps:=fun t=>by
     have hold:=h.tmps t;show RepT β w (Mut F β s') (a.tmps.getD t undef) ((st.tmp t).frz d g cs)
     revert hold
     cases st.tmp t with
     |sv s=>intro hold;exact hrep hold
     |nil=>intro hold;exact hold
     |undef=>intro _;trivial
     |skip=>intro hold;exact hold
     |ptr d' g' off=>
      intro hold;show RepT β w (Mut F β s') (a.tmps.getD t undef) (if d'=d/\g'=g then .sv (.mem (cs.drop off)) else .ptr d' g' off);by_cases e:d'=d/\g'=g
      ·rw[if_pos e];obtain⟨rfl,rfl⟩:=e;rw[show a.tmps.getD t undef = .pointer (some ⟨β d' g',off,none⟩) from hold];exact Rep.mem _ _ (fun i=>us.getD (off+i) undef) hnot (fun i s hs=>(hcellv off i s hs).1) (fun i s hs=>(hcellv off i s hs).2)
      ·rw[if_neg e];exact hold
     |ref d' g' size off n=>
      intro hold;show RepT β w (Mut F β s') (a.tmps.getD t undef) (if d'=d/\g'=g then .sv (.sl n ((cs.drop off).take (n*size))) else .ref d' g' size off n);by_cases e:d'=d/\g'=g
      ·rw[if_pos e];obtain⟨rfl,rfl⟩:=e;obtain⟨cap,cs',ty',hv,hn,_⟩:=hold;rw[hv];have hget : ∀ (i:Nat) (s:SV),((cs.drop off).take (n*size))[i]?=some s->(cs.drop off)[i]?=some s:=by
        intro i s hs;rcases xi i (n*size) with hi|hi
        ·rw[yk hi]at hs;exact hs
        ·rw[xl (by simp;omega)]at hs;cases hs
       exact Rep.sl _ _ _ hn _ (fun i=>us.getD (off+i) undef) hnot (fun i s hs=>(hcellv off i s (hget i s hs)).1) (fun i s hs=>(hcellv off i s (hget i s hs)).2)
      ·rw[if_neg e];exact hold
    ids:=fun t d' g' hx=>by
     refine h.ids t d' g' ?_
     revert hx
     show ((st.tmp t).frz d g cs).id=some (d',g')->_;cases st.tmp t<;>intro hx<;>simp only[TV.frz]at hx<;>first|exact hx|(split at hx<;>first|exact hx|(simp[TV.id]at hx))
    objs:=fun d' g' cells hcs=>by
     have h1:=hobj d' g' (by rw[show ((if d'=d/\g'=g then none else st.obj d' g'):Option (List SV))=some cells from hcs];rfl);have hcs':st.obj d' g'=some cells:=by
      have h2:((if d'=d/\g'=g then none else st.obj d' g'):Option (List SV))=some cells:=hcs;rw[if_neg h1.2]at h2;exact h2
     obtain⟨us1,ty1,hb1,hall1⟩:=h.objs d' g' cells hcs';refine⟨us1,ty1,hb1,fun i s hs => ?_⟩;obtain⟨e1,u,hu,hr⟩:=hall1 i s hs;exact⟨e1,u,hu,hrep hr⟩
    own:=fun d' g' h1=>h.own d' g' (hobj d' g' h1).1
    room:=h.room
    inj:=fun d1 g1 d2 g2 h1 h2 e=>h.inj d1 g1 d2 g2 (hobj d1 g1 h1).1 (hobj d2 g2 h2).1 e
    gens:=fun d' g' h1=>h.gens d' g' (hobj d' g' h1).1
    ext:=h.ext
    old:=h.old
    imps:=h.imps
    pin:=h.pin }
  ·cases hf
theorem Rel.frzAll (h:Rel w0 F I Z N β st a w) : ∀ {vs:List TV} {st':St},frzAll st vs=some st'->Rel w0 F I Z N β st' a w:=by
 intro vs;induction vs generalizing st with
 |nil=>intro st' hf;cases hf;exact h
 |cons v r ih=>
  intro st' hf;unfold Ev.frzAll at hf;split at hf
  ·split at hf
   ·split at hf
    ·rename_i s hs;exact ih (h.frz hs) hf
    ·cases hf
   ·exact ih h hf
  ·split at hf
   ·split at hf
    ·rename_i s hs;exact ih (h.frz hs) hf
    ·cases hf
   ·exact ih h hf
  ·exact ih h hf
end
end Go.Ev
namespace Go.Ev
open Go.RowKit
section
variable {P:Program} {w0 w:World} {F I:Nat->Prop} {Z:Nat->Nat} {N:Nat} {β:Nat->Nat->Nat} {st:St} {a:Act}
def Runs (P:Program) (a:Act) (o:Oper) (w:World) (K:Act->World->Prop):Prop:=
 ∃w',(∃v,(execOp a.eval o).run P w = .ok (.value v) w'/\K (a.put o.dst v) w')\/((execOp a.eval o).run P w = .ok .skip w'/\K (a.put o.dst undef) w')
theorem Runs.wp {o:Oper} {K:Act->World->Prop} {Q:Exit->Act->World->Prop} (h:Runs P a o w K):o.wp P a w K Q:=by
 obtain⟨w',⟨v,hr,hk⟩|⟨hr,hk⟩⟩:=h
 ·unfold Oper.wp;rw[hr];exact hk
 ·unfold Oper.wp;rw[hr];exact hk
def To (w0:World) (F I:Nat->Prop) (Z:Nat->Nat) (N:Nat) (st':St) (a':Act) (w':World):Prop := ∃β',Rel w0 F I Z N β' st' a' w'
theorem val_runs (h:Rel w0 F I Z N β st a w) {o:Oper} {t:TV} (hd : ∀d,o.dst=some d->d<N) (hv:val P st o.op=some t):Runs P a o w (To w0 F I Z N (st.putO o.dst t)):=by
 obtain⟨v,hr,hrep,hi⟩:=val_sound h hv o.dst o.type o.pos o.after o.guard;exact⟨w,.inl ⟨v,hr,β,h.putO hd hrep hi⟩⟩
theorem oneAll_get {cs:List SV} (h:oneAll cs=true) {i:Nat} {s:SV} (hs:cs[i]?=some s):s.one=true:=
 zJ.1 h s (List.mem_of_getElem? hs)
theorem upd_self (β:Nat->Nat->Nat) (d g b:Nat):upd β d g b d g=b:=if_pos ⟨rfl,rfl⟩
theorem alloc_runs (h:Rel w0 F I Z N β st a w) {d:Nat} {t:TypeId} {cs:List SV} (hd:d<N) (hz:zer P t=some cs) (ty:TypeId) (pos:String) (af:Array Edge) (gd:Option (Nat×Bool)) :
  Runs P a ⟨some d,.alloc t,ty,pos,af,gd⟩ w (To w0 F I Z N (st.new d cs (.ptr d (st.gen d) 0))):=by
 obtain⟨i,z,hi,hzz,hsz,hcell⟩:=zer_parts hz;refine⟨w.alloc (.cells z.cells t),.inl ⟨.pointer (some ⟨w.heap.size,0,none⟩),?_,_,h.new hd (us:=z.cells) (ty:=t) (fun j s hs => ?_) ?_ ?_⟩⟩
 ·simp[execOp,Instr.alloc,run_zero hi hzz,newVar,newRow]
 ·obtain⟨v,hv,ho⟩:=hcell j s hs;exact⟨ofCell_one ho,v,hv,ofCell_rep ho⟩
 ·show _=_;rw[upd_self]
 ·intro d' g' e;simp only[TV.id,Option.some.injEq,Prod.mk.injEq]at e;exact⟨e.1.symm,e.2.symm⟩
theorem box_runs (h:Rel w0 F I Z N β st a w) {d:Nat} {t:TypeId} {x:Operand} {s:SV} (hd:d<N) (hs:(st.eval x).toSV=some s) (h1:oneAll s.cells=true) (ty:TypeId) (pos:String) (af:Array Edge) (gd:Option (Nat×Bool)) :
  Runs P a ⟨some d,.box t x,ty,pos,af,gd⟩ w (To w0 F I Z N (st.new d s.cells (.ptr d (st.gen d) 0))):=by
 have hr:=toSV_rep (h.eval x) hs;refine⟨w.alloc (.cells (a.eval x).cells t),.inl ⟨.pointer (some ⟨w.heap.size,0,none⟩),?_,_,h.new hd (us:=(a.eval x).cells) (ty:=t) (fun j y hy => ?_) ?_ ?_⟩⟩
 ·simp[execOp,Instr.box,newVar,newRow]
 ·refine⟨oneAll_get h1 hy,?_⟩;have hlt:j<(a.eval x).cells.size:=by
   rw[hr.cells_size];rcases xi j s.cells.length with h|h
   ·exact h
   ·rw[xl h]at hy;cases hy
  have:=hr.cells j y hy;rw[xR,zE hlt]at this;exact⟨_,zE hlt,this⟩
 ·show _=_;rw[upd_self]
 ·intro d' g' e;simp only[TV.id,Option.some.injEq,Prod.mk.injEq]at e;exact⟨e.1.symm,e.2.symm⟩
theorem zok_parts {t:TypeId} (h:zok P t=true) : ∃i z,P.info? t=some i/\i.zero=some z/\z.cells.size=i.size:=by
 unfold zok at h;split at h
 ·rename_i i hi;split at h
  ·rename_i z hz;exact⟨i,z,hi,hz,by simpa using h⟩
  ·cases h
 ·cases h
theorem fill_elems {M:Nat->Prop} {size:Nat} : ∀ {parts:List (Nat×Value)} {qs:List (Nat×SV)} {i:Nat} {vs:Array Value} {cs:List SV},parts.length=qs.length ->
  (∀ (j:Nat) (x:Nat×SV),qs[j]?=some x -> ∃v:Value,parts[j]?=some (x.1,v)/\Rep w M v x.2)->elemsC size i qs=some cs->i*size+cs.length<=vs.size ->
  ∃vs',Instr.fill (fun i=>some (i*size,size)) vs parts=some vs'/\vs'.size=vs.size/\(∀k,k<i*size->vs'[k]?=vs[k]?) /\ ∀ (k:Nat) (s:SV),cs[k]?=some s -> ∃v:Value,vs'[i*size+k]?=some v/\Rep w M v s
 | [],[],i,vs,cs,_,_,h,_=>by cases h;exact⟨vs,rfl,rfl,fun _ _=>rfl,fun k s hs=>by simp at hs⟩
 |(j,v)::r,(j',s)::q,i,vs,cs,hl,hr,h,hle=>by
  obtain⟨v',hv',hrep⟩:=hr 0 (j',s) rfl;simp only[yK,Option.some.injEq,Prod.mk.injEq]at hv';obtain⟨rfl,rfl⟩:=hv';unfold elemsC at h;split at h
  ·rename_i hc;obtain⟨rfl,hs1⟩:=hc;split at h
   ·rename_i l hl';cases h;have hsz:v.cells.size=size:=hrep.cells_size.trans hs1;rw[yG,hs1]at hle;obtain⟨hf1,hf2⟩:=fold_set (i*size) v.cells.toList 0 vs;have hfold:v.cells.zipIdx.foldl (fun cs (x:Value×Nat)=>match x with|(c,j)=>cs.setIfInBounds (i*size+j) c) vs =
      (v.cells.toList.zipIdx 0).foldl (fun cs (p:Value×Nat)=>cs.setIfInBounds (i*size+p.2) p.1) vs:=by
     rw[<- Array.foldl_toList];simp[Array.toList_zipIdx]
    have hsucc:(i+1)*size=i*size+size:=Nat.succ_mul i size;obtain⟨vs',e1,e2,e3,e4⟩:=fill_elems (i:=i+1) (vs:=(v.cells.toList.zipIdx 0).foldl (fun cs (p:Value×Nat)=>cs.setIfInBounds (i*size+p.2) p.1) vs) (by simpa using hl)
     (fun k x hx=>by simpa using hr (k+1) x (by simpa using hx)) hl' (by rw[hf1,hsucc];omega)
    refine⟨vs',?_,e2.trans hf1,fun k hk => ?_,fun k x hx => ?_⟩
    ·unfold Instr.fill;simp only;rw[if_neg (by simp[hsz];omega),hfold];exact e1
    ·rw[e3 k (by omega),hf2,if_neg (by omega)]
    ·by_cases hk:k<size
     ·rw[yf (by omega)]at hx;rw[e3 _ (by omega),hf2,if_pos (by simp[hsz];omega)];have:=hrep.cells k x hx;rw[xR]at this;have hlt:k<v.cells.size:=by omega
      rw[zE hlt]at this;refine⟨v.cells[k],?_,this⟩;simp[hlt]
     ·rw[yj (by omega),hs1]at hx;obtain⟨u,hu,hru⟩:=e4 (k-size) x hx;exact⟨u,by rw[<- hu];congr 1;omega,hru⟩
   ·cases h
  ·cases h
 | [],_::_,_,_,_,hl,_,_,_=>by simp at hl
 |_::_,[],_,_,_,hl,_,_,_=>by simp at hl
theorem elemsC_len {size:Nat} : ∀ {qs:List (Nat×SV)} {i:Nat} {cs:List SV},elemsC size i qs=some cs->cs.length=qs.length*size
 | [],_,_,h=>by cases h;simp
 |(j,s)::q,i,cs,h=>by
  unfold elemsC at h;split at h
  ·rename_i hc;split at h
   ·rename_i l hl;cases h;rw[yG,hc.2,elemsC_len hl,yS,Nat.succ_mul];omega
   ·cases h
  ·cases h
theorem lit_run (h:Rel w0 F I Z N β st a w) {t:TypeId} {n size:Nat} {parts:Array (Nat×Operand)} {cs:List SV} (hl:litC P st t n parts=some (size,cs)) (dst:Option Nat) (ty:TypeId) (pos:String) (af:Array Edge) (gd:Option (Nat×Bool)) :
  ∃ (us:Array Value) (e:TypeId),(execOp a.eval ⟨dst,.buildSlice t n parts,ty,pos,af,gd⟩).run P w = .ok (.value (.slice (some ⟨w.heap.size,0,none⟩) n n)) (w.alloc (.cells us e))/\us.size=n*size /\
   cs.length=n*size /\ ∀ (i:Nat) (s:SV),cs[i]?=some s->s.one=true /\ ∃v:Value,us[i]?=some v/\Rep w (Mut F β st) v s:=by
 unfold litC at hl;split at hl
 ·rename_i e sz bytes ps he hps;split at hl
  ·rename_i hc;obtain⟨hn,hsmall,hzk⟩:=hc;split at hl
   ·rename_i cs' hcs;split at hl
    ·rename_i h1;cases hl;obtain⟨hu,i,hi,hsz,_⟩:=elm_parts he;obtain⟨i',z,hi',hzz,hzs⟩:=zok_parts hzk;rw[hi]at hi';cases hi';subst hsz;have hlen:=elemsC_len hcs;rw[hn]at hlen;obtain⟨hl1,hpr⟩:=parts_rep h hps;have hparts:(parts.map fun (x:Nat×Operand)=>match x with|(i,x)=>(i,a.eval x)).toList=parts.toList.map fun p=>(p.1,a.eval p.2):=by simp
     have go : ∀zc:Array Value,∃us:Array Value,Instr.fill (fun j=>some (j*i.size,i.size)) ((Array.range (n*i.size)).map (zc[· % zc.size]!)) (parts.toList.map fun p=>(p.1,a.eval p.2))=some us/\us.size=n*i.size /\
       ∀ (k:Nat) (s:SV),cs[k]?=some s->s.one=true /\ ∃v:Value,us[k]?=some v/\Rep w (Mut F β st) v s:=by
      intro zc;obtain⟨us,e1,e2,_,e4⟩:=fill_elems (w:=w) (M:=Mut F β st) (i:=0) (vs:=(Array.range (n*i.size)).map (zc[· % zc.size]!)) (by simp[hl1]) hpr hcs (by simp;omega);exact⟨us,e1,by simpa using e2,fun k s hs=>⟨oneAll_get h1 hs,by simpa using e4 k s hs⟩⟩
     have hnot : ¬(n*i.size>2^24):=by omega
     by_cases hz0:n*i.size=0
     ·obtain⟨us,e1,e2,e3⟩:=go #[];refine⟨us,e,?_,e2,hlen,e3⟩;simp only[execOp,Instr.buildSlice,Sem.run_bind,run_underlying hu,Result.andThen_ok,run_size hi,Sem.run_ite,if_neg hnot,if_pos hz0,Sem.run_pure,hparts,e1,newRow,run_newObj,World.alloc_eq]
     ·obtain⟨us,e1,e2,e3⟩:=go z.cells;refine⟨us,e,?_,e2,hlen,e3⟩;simp only[execOp,Instr.buildSlice,Sem.run_bind,run_underlying hu,Result.andThen_ok,run_size hi,Sem.run_ite,if_neg hnot,if_neg hz0,Sem.run_pure,run_zero hi hzz,hparts,e1,newRow,run_newObj,World.alloc_eq]
    ·cases hl
   ·cases hl
  ·cases hl
 ·cases hl
end
end Go.Ev
namespace Go.Ev
open Go.RowKit
theorem over_get {α:Type} {cs new:List α} {off:Nat} (h:off+new.length<=cs.length) (k:Nat) :
  (cs.take off++new++cs.drop (off+new.length))[k]?=if off<=k/\k<off+new.length then new[k-off]? else cs[k]?:=by
 by_cases h1:k<off
 ·rw[if_neg (by omega),List.append_assoc,yf (by simp;omega),yk h1]
 ·by_cases h2:k<off+new.length
  ·rw[if_pos ⟨by omega,h2⟩,List.append_assoc,yj (by simp;omega)];simp only[yO];rw[yf (by omega)];congr 1;omega
  ·rw[if_neg (by omega),yj (by simp;omega)];simp only[yG,yO,ye];congr 1;omega
theorem over_len {α:Type} {cs new:List α} {off:Nat} (h:off+new.length<=cs.length):(cs.take off++new++cs.drop (off+new.length)).length=cs.length:=by
 simp only[yG,yO,wU];omega
theorem rep_get {α:Type} (z:List α) : ∀ (n k:Nat) (s:α),((List.replicate n z).flatten)[k]?=some s->k<n*z.length/\z[k%z.length]?=some s
 |0,k,s,h=>by simp at h
 |n+1,k,s,h=>by
  rw[List.replicate_succ,List.flatten_cons]at h;rw[Nat.succ_mul];rcases xi k z.length with hk|hk
  ·rw[yf hk]at h;rw[yB hk];exact⟨by omega,h⟩
  ·rw[yj hk]at h;obtain⟨h1,h2⟩:=rep_get z n (k-z.length) s h;refine⟨by omega,?_⟩;rw[Nat.mod_eq_sub_mod hk];exact h2
section
variable {P:Program} {w0 w:World} {F I:Nat->Prop} {Z:Nat->Nat} {N:Nat} {β:Nat->Nat->Nat} {st:St} {a:Act}
theorem make_runs (h:Rel w0 F I Z N β st a w) {d:Nat} {t e size bytes n:Nat} {l c:Operand} {z:List SV} (hd:d<N) (he:elm P t=some (e,size,bytes)) (hl:natTV (st.eval l)=some n) (hc:natTV (st.eval c)=some n)
  (hz:zer P e=some z) (hn:n<=1099511627776) (hb:bytes<=128) (hzl:z.length=size) (ty:TypeId) (pos:String) (af:Array Edge) (gd:Option (Nat×Bool)) :
  Runs P a ⟨some d,.makeSlice t l c,ty,pos,af,gd⟩ w (To w0 F I Z N (st.new d ((List.replicate n z).flatten) (.ref d (st.gen d) size 0 n))):=by
 obtain⟨hu,i,hi,his,hib⟩:=elm_parts he;obtain⟨i',zv,hi',hzz,hzs,hzc⟩:=zer_parts hz;rw[hi]at hi';cases hi';obtain⟨kl,hkl⟩:=natO_rep h hl;obtain⟨kc,hkc⟩:=natO_rep h hc;have hbb:(i.bytes:Int)*(n:Int)<=281474976710656:=by
  have h1:i.bytes*n<=128*1099511627776:=xO (by omega) hn;have h2:((i.bytes*n:Nat):Int)<=281474976710656:=by omega
  rwa [yF]at h2
 have hrun:=run_make (P:=P) w t e i zv hu hi hzz kl kc n n (by omega) (Int.le_refl _) hbb (by omega);simp only[Int.toNat_natCast]at hrun;refine⟨_,.inl ⟨.slice (some ⟨w.heap.size,0,none⟩) n n,?_,_,h.new hd (us:=madeCells zv.cells (n*i.size)) (ty:=e) (fun k s hs => ?_) ?_ ?_⟩⟩
 ·simp only[execOp,hkl,hkc,Sem.run_bind,hrun,Result.andThen_ok,Sem.run_pure]
 ·obtain⟨h1,h2⟩:=rep_get z n k s hs;obtain⟨v,hv,ho⟩:=hzc _ s h2;refine⟨ofCell_one ho,v,?_,ofCell_rep ho⟩;rw[hzl,<- his]at h1;simp only[madeCells,Array.getElem?_map];rw[zE (by simpa using h1)];simp only[Array.getElem_range,yp];rw[hzs];congr 1;rw[getElem!_def,hv]
 ·refine⟨n,_,e,by rw[upd_self],xQ _,by rw[upd_self];exact heap_alloc_new w _,?_⟩;rw[size_madeCells,his];omega
 ·intro d' g' e';simp only[TV.id,Option.some.injEq,Prod.mk.injEq]at e';exact⟨e'.1.symm,e'.2.symm⟩
theorem Rel.splice (h:Rel w0 F I Z N β st a w) {d g off:Nat} {cs new:List SV} (ho:st.obj d g=some cs) {vs:List Value} (hlen:vs.length=new.length) (hoff:off+new.length<=cs.length)
  (hn : ∀ (i:Nat) (s:SV),new[i]?=some s->s.one=true /\ ∃v:Value,vs[i]?=some v/\Rep w (Mut F β st) v s) :
  ∃ (us:Array Value) (ty:TypeId),w.heap[β d g]?=some (.cells us ty (0,0))/\off+vs.length<=us.size /\
   Rel w0 F I Z N β (st.set d g (Ev.splice cs off new)) a (w.setRow (β d g) (us.toList.take off++vs++us.toList.drop (off+vs.length)).toArray):=by
 obtain⟨us,ty,hb,hall⟩:=h.objs d g cs ho;have husz:cs.length<=us.size:=by
  rcases xi us.size cs.length with hh|hh
  ·obtain⟨_,v,hv,_⟩:=hall us.size cs[us.size] (xX hh);rw[Array.getElem?_eq_none (xQ _)]at hv;cases hv
  ·exact hh
 have hul:us.toList.length=us.size:=we;have hfit:off+vs.length<=us.toList.length:=by omega
 refine⟨us,ty,hb,by simpa using hfit,?_⟩;refine h.set (us:=us) (us':=(us.toList.take off++vs++us.toList.drop (off+vs.length)).toArray) (ty:=ty) ho hb (setRow_heap w _ us _ ty (0,0) hb) ?_ (fun b hne=>setRow_other w _ b _ hne) (by simp) rfl rfl rfl fun k s hs => ?_
 ·rw[wN,over_len hfit,hul]
 ·rw[splice_get hoff]at hs;rw[wQ,over_get hfit,hlen];split at hs
  ·rename_i hk;rw[if_pos hk];exact hn _ s hs
  ·rename_i hk;rw[if_neg hk];obtain⟨h1,v,hv,hr⟩:=hall k s hs;exact⟨h1,v,by simpa using hv,hr⟩
theorem storeVar_run {t:TypeId} {i:TypeInfo} (hi:P.info? t=some i) {v:Value} (hsz:v.cells.size=i.size) (h1 : ∀u∈v.cells.toList,u.oneCell'=true) {g off:Nat} {us:Array Value} {ty:TypeId}
  (hb:w.heap[g]?=some (.cells us ty (0,0))) (hfit:off+v.cells.toList.length<=us.size) :
  (storeVar t ⟨g,off,none⟩ v).run P w = .ok () (w.setRow g (us.toList.take off++v.cells.toList++us.toList.drop (off+v.cells.toList.length)).toArray):=by
 have hst:=run_storeCells_at P g off ty v.cells.toList 0 us w hb (by simpa using hfit) h1;simp only[yE]at hst;simp only[storeVar,Sem.run_bind,run_size hi,Result.andThen_ok,Sem.run_ite];rw[if_neg (by simp[hsz])];exact hst
theorem cells_one {M:Nat->Prop} {v:Value} {s:SV} (hr:Rep w M v s) (h1:oneAll s.cells=true):(∀u∈v.cells.toList,u.oneCell'=true) /\
  ∀ (i:Nat) (x:SV),s.cells[i]?=some x->x.one=true /\ ∃u:Value,v.cells.toList[i]?=some u/\Rep w M u x:=by
 have key : ∀ (i:Nat) (x:SV),s.cells[i]?=some x->x.one=true /\ ∃u:Value,v.cells.toList[i]?=some u/\Rep w M u x:=by
  intro i x hx;have hlt:i<v.cells.size:=by
   rw[hr.cells_size];rcases xi i s.cells.length with h|h
   ·exact h
   ·rw[xl h]at hx;cases hx
  have:=hr.cells i x hx;rw[xR,zE hlt]at this;exact⟨oneAll_get h1 hx,v.cells[i],by simp[hlt],this⟩
 refine⟨fun u hu => ?_,key⟩;obtain⟨i,hi⟩:=List.getElem?_of_mem hu;have hlt:i<s.cells.length:=by
  rw[<- hr.cells_size];rcases xi i v.cells.size with h|h
  ·exact h
  ·rw[xl (by simpa using h)]at hi;cases hi
 obtain⟨ho,u',hu',hru⟩:=key i s.cells[i] (xX hlt);rw[hi]at hu';cases hu';exact hru.one ho
theorem storeAt_runs (h:Rel w0 F I Z N β st a w) {t:TypeId} {x y:Operand} {b:Bool} {size d g off:Nat} {s:SV} {cs:List SV} (hsh:shp P t=some (b,size)) (hx:st.eval x = .ptr d g off)
  (hy:(st.eval y).toSV=some s) (ho:st.obj d g=some cs) (hlen:s.cells.length=size) (h1:oneAll s.cells=true) (hoff:off+size<=cs.length) (ty:TypeId) (pos:String) (af:Array Edge) (gd:Option (Nat×Bool)) :
  Runs P a ⟨none,.store t x y,ty,pos,af,gd⟩ w (To w0 F I Z N (st.set d g (splice cs off s.cells))):=by
 obtain⟨i,hi,his,_⟩:=shp_parts hsh;have hp:a.eval x = .pointer (some ⟨β d g,off,none⟩):=by have:=h.eval x;rw[hx]at this;exact this
 have hr:=toSV_rep (h.eval y) hy;obtain⟨hone,hcells⟩:=cells_one hr h1;obtain⟨us,cty,hb,hfit,hrel⟩:=h.splice ho (vs:=(a.eval y).cells.toList) (new:=s.cells) (off:=off) (by rw[we,hr.cells_size]) (by omega) hcells;refine⟨_,.inr ⟨?_,β,hrel⟩⟩;simp only[execOp,hp,Instr.storeAt,Instr.sureAddr,Sem.run_bind,Sem.run_pure,Result.andThen_ok,
  storeVar_run hi (hr.cells_size.trans (hlen.trans his.symm)) hone hb hfit]
theorem store_runs (h:Rel w0 F I Z N β st a w) {t:TypeId} {x y:Operand} {soft:Bool} {st':St} (hs:store P soft st t x y=some st') (ty:TypeId) (pos:String) (af:Array Edge) (gd:Option (Nat×Bool)) :
  Runs P a ⟨none,.store t x y,ty,pos,af,gd⟩ w (To w0 F I Z N st'):=by
 unfold store at hs;split at hs
 ·rename_i b size d g off hsh hx;split at hs
  ·rename_i s hy;split at hs
   ·rename_i cs ho;split at hs
    ·rename_i hc;cases hs;exact storeAt_runs h hsh hx hy ho hc.1 hc.2.1 hc.2.2 ty pos af gd
    ·cases hs
   ·cases hs
  ·split at hs
   ·cases hs
   ·split at hs
    ·rename_i d' g' sz' off' n' hy;split at hs
     ·cases hs
     ·rename_i hne;split at hs
      ·rename_i s1 hf;split at hs
       ·rename_i s cs hy' ho;split at hs
        ·rename_i hc;cases hs;have h':=h.frz hf;have hx':s1.eval x = .ptr d g off:=by
          unfold St.frz at hf;split at hf
          ·cases hf
          ·split at hf
           ·rename_i cs' hcs';cases hf
            revert hx
            cases x with
            |tmp u=>
             intro hx;simp only[St.eval,St.frzd]at hx ⊢;rw[hx];show (if d=d'/\g=g' then _ else _)=_;rw[if_neg (fun e=>hne ⟨e.1.symm,e.2.symm⟩)]
            |_=>intro hx;exact hx
           ·cases hf
         exact storeAt_runs h' hsh hx' hy' ho hc.1 hc.2.1 hc.2.2 ty pos af gd
        ·cases hs
       ·cases hs
      ·cases hs
    ·cases hs
 ·cases hs
end
end Go.Ev
namespace Go.Ev
open Go.RowKit
section
variable {P:Program} {w0 w:World} {F I:Nat->Prop} {Z:Nat->Nat} {N:Nat} {β:Nat->Nat->Nat} {st:St} {a:Act}
theorem Rel.world (h:Rel w0 F I Z N β st a w) {w':World} (hh:w'.heap=w.heap) (ho:w'.os=w.os) (ht:w'.tape=w.tape) (hp:w'.output=w.output):Rel w0 F I Z N β st a w':=by
 have hcell : ∀p:Addr,w'.cell? p=w.cell? p:=fun p=>by unfold World.cell?;rw[hh]
 have hrep : ∀ {v:Value} {s:SV},Rep w (Mut F β st) v s->Rep w' (Mut F β st) v s:=fun hr=>Rep.mono (fun p _ _=>hcell p) (fun _ _ hm=>hm) hr
 exact {
  defers:=h.defers
  size:=h.size
  tmps:=fun u=>RepT.mono (w:=w) (fun p _ _=>hcell p) (fun _ _ hm=>hm) (fun b cs ty _ hc=>⟨cs,by rw[hh];exact hc,rfl⟩) (fun b _ _=>by rw[hh]) (h.tmps u)
  ids:=h.ids
  objs:=fun d g cells hc=>by
   obtain⟨us,ty,hb,hall⟩:=h.objs d g cells hc;refine⟨us,ty,by rw[hh];exact hb,fun i s hs => ?_⟩;obtain⟨h1,v,hv,hr⟩:=hall i s hs;exact⟨h1,v,hv,hrep hr⟩
  own:=h.own
  room:=h.room
  inj:=h.inj
  gens:=h.gens
  ext:=h.ext.trans ⟨ho,ht,hp,by rw[hh];exact xQ _,fun b _ _=>by rw[hh],fun b cs ty _ _ hc=>⟨cs,by rw[hh];exact hc,rfl⟩⟩
  old:=h.old
  imps:=h.imps
  pin:=h.pin }
def St.kill (st:St) (d g:Nat):St:={ st with tmp:=fun t=>(st.tmp t).kill d g }
theorem kill_rep {M:Nat->Prop} {v:Value} {t:TV} (d g:Nat) (h:RepT β w M v t):RepT β w M v (t.kill d g):=by
 cases t with
 |ptr d' g' off=>
  show RepT β w M v (if d'=d/\g'=g then .undef else .ptr d' g' off);split
  ·trivial
  ·exact h
 |ref d' g' size off n=>
  show RepT β w M v (if d'=d/\g'=g then .undef else .ref d' g' size off n);split
  ·trivial
  ·exact h
 |_=>exact h
theorem kill_id {t:TV} {d g d' g':Nat} (h:(t.kill d g).id=some (d',g')):t.id=some (d',g') /\ ¬(d'=d/\g'=g):=by
 cases t with
 |ptr d1 g1 off=>
  have h':(if d1=d/\g1=g then TV.undef else TV.ptr d1 g1 off).id=some (d',g'):=h;split at h'
  ·simp[TV.id]at h'
  ·rename_i hn;simp only[TV.id,Option.some.injEq,Prod.mk.injEq]at h';obtain⟨rfl,rfl⟩:=h';exact⟨rfl,hn⟩
 |ref d1 g1 size off n=>
  have h':(if d1=d/\g1=g then TV.undef else TV.ref d1 g1 size off n).id=some (d',g'):=h;split at h'
  ·simp[TV.id]at h'
  ·rename_i hn;simp only[TV.id,Option.some.injEq,Prod.mk.injEq]at h';obtain⟨rfl,rfl⟩:=h';exact⟨rfl,hn⟩
 |_=>simp[TV.kill,TV.id]at h
theorem Rel.kill (h:Rel w0 F I Z N β st a w) (d g:Nat):Rel w0 F I Z N β (st.kill d g) a w where
 defers:=h.defers
 size:=h.size
 tmps:=fun t=>kill_rep d g (h.tmps t)
 ids:=fun t d' g' hx=>h.ids t d' g' (kill_id hx).1
 objs:=h.objs
 own:=h.own
 room:=h.room
 inj:=h.inj
 gens:=h.gens
 ext:=h.ext
 old:=h.old
 imps:=h.imps
 pin:=h.pin
theorem Rel.move (h:Rel w0 F I Z N β st a w) {d g:Nat} {cs0 cs:List SV} (ho:st.obj d g=some cs0) (hd:d<N0) (hno : ∀t d' g',(st.tmp t).id=some (d',g') -> ¬(d'=d/\g'=g)) {us:Array Value} {ty:TypeId}
  (hc : ∀ (i:Nat) (s:SV),cs[i]?=some s->s.one=true /\ ∃u:Value,us[i]?=some u/\Rep w (Mut F β st) u s) :
  Rel w0 F I Z N (upd β d g w.heap.size) (st.set d g cs) a (w.alloc (.cells us ty)):=by
 have hos':(st.obj d g).isSome=true:=by rw[ho];rfl
 have hobj : ∀d' g',((st.set d g cs).obj d' g').isSome=true->(d'=d/\g'=g)\/((st.obj d' g').isSome=true /\ ¬(d'=d/\g'=g)):=by
  intro d' g' h1;by_cases he:d'=d/\g'=g
  ·exact .inl he
  ·simp only[St.set,if_neg he]at h1;exact .inr ⟨h1,he⟩
 have hupd : ∀d' g',¬(d'=d/\g'=g)->upd β d g w.heap.size d' g'=β d' g':=fun d' g' he=>if_neg he
 have hM : ∀b,b<w.heap.size->Mut F (upd β d g w.heap.size) (st.set d g cs) b->Mut F β st b:=by
  rintro b hb (hf|⟨d',g',h1,e⟩)
  ·exact .inl hf
  ·rcases hobj d' g' h1 with⟨rfl,rfl⟩|⟨h1',he⟩
   ·rw[upd_self]at e;omega
   ·rw[hupd _ _ he]at e;exact .inr ⟨d',g',h1',e⟩
 have hcell : ∀p:Addr,p.block<w.heap.size -> ¬Mut F β st p.block->(w.alloc (.cells us ty)).cell? p=w.cell? p:=fun p hp _=>World.cell?_alloc_lt w _ p hp
 have hrep : ∀ {v:Value} {s:SV},Rep w (Mut F β st) v s->Rep (w.alloc (.cells us ty)) (Mut F (upd β d g w.heap.size) (st.set d g cs)) v s:=fun hr=>Rep.mono hcell hM hr
 exact {
  defers:=h.defers
  size:=h.size
  tmps:=fun u=>by
   have hold:=h.tmps u;have hids:=hno u;show RepT _ _ _ _ (st.tmp u)
   revert hold hids
   cases st.tmp u with
   |sv s=>intro hold _;exact hrep hold
   |nil=>intro hold _;exact hold
   |undef=>intro _ _;trivial
   |skip=>intro hold _;exact hold
   |ptr d' g' off=>intro hold hids;show _=_;rw[hupd d' g' (hids d' g' rfl)];exact hold
   |ref d' g' size off n=>
    intro hold hids;obtain⟨cap,cs',ty',h1,h2,h3,h4⟩:=hold;refine⟨cap,cs',ty',by rw[hupd d' g' (hids d' g' rfl)];exact h1,h2,?_,h4⟩;rw[hupd d' g' (hids d' g' rfl),Below.heap_alloc _ _ _ (lt_of_heap h3)];exact h3
  ids:=h.ids
  objs:=fun d' g' cells hcs=>by
   by_cases he:d'=d/\g'=g
   ·obtain⟨rfl,rfl⟩:=he;simp only[St.set,and_self,if_true,Option.some.injEq]at hcs;subst hcs;refine⟨us,ty,by rw[upd_self];exact heap_alloc_new w _,fun i s hs => ?_⟩;obtain⟨h1,u,hu,hr⟩:=hc i s hs;exact⟨h1,u,hu,hrep hr⟩
   ·simp only[St.set,if_neg he]at hcs;obtain⟨us',ty',hb,hall⟩:=h.objs d' g' cells hcs;refine⟨us',ty',by rw[hupd _ _ he,Below.heap_alloc _ _ _ (lt_of_heap hb)];exact hb,fun i s hs => ?_⟩;obtain⟨h1,u,hu,hr⟩:=hall i s hs;exact⟨h1,u,hu,hrep hr⟩
  own:=fun d' g' h1=>by
   rcases hobj d' g' h1 with⟨rfl,rfl⟩|⟨h1',he⟩
   ·rw[upd_self];exact⟨fun _=>h.ext.size,fun hn=>absurd hd (by omega)⟩
   ·rw[hupd _ _ he];exact h.own d' g' h1'
  room:=h.room
  inj:=fun d1 g1 d2 g2 h1 h2 e=>by
   rcases hobj d1 g1 h1 with⟨rfl,rfl⟩|⟨h1',he1⟩<;>rcases hobj d2 g2 h2 with⟨rfl,rfl⟩|⟨h2',he2⟩
   ·exact⟨rfl,rfl⟩
   ·rw[upd_self,hupd _ _ he2]at e;have:=h.lt h2';omega
   ·rw[upd_self,hupd _ _ he1]at e;have:=h.lt h1';omega
   ·rw[hupd _ _ he1,hupd _ _ he2]at e;exact h.inj d1 g1 d2 g2 h1' h2' e
  gens:=fun d' g' h1=>by
   rcases hobj d' g' h1 with⟨rfl,rfl⟩|⟨h1',_⟩
   ·exact h.gens d' g' hos'
   ·exact h.gens d' g' h1'
  ext:=h.ext.alloc _
  old:=h.old
  imps:=h.imps
  pin:=fun d' g' hd'=>(hupd d' g' (fun e=>by omega)).trans (h.pin d' g' hd') }
theorem more_sound (h:Rel w0 F I Z N β st a w) {x:Operand} {size m:Nat} {new:List SV} (hm:moreOf st size (st.eval x)=some (m,new)) (hlen:new.length=m*size) (h1:oneAll new=true) :
  ∃ (A:Option Addr) (cap:Nat) (vals:List Value),a.eval x = .slice A m cap/\vals.length=m*size/\(0<m*size -> ∃p,A=some p /\ ∀ (j:Nat) (u:Value),vals[j]?=some u->w.cell? (p.add j)=some u) /\
   (∀u∈vals,u.oneCell'=true) /\ ∀ (j:Nat) (s:SV),new[j]?=some s -> ∃u:Value,vals[j]?=some u/\Rep w (Mut F β st) u s:=by
 have fin : ∀ (vals:List Value),vals.length=m*size->(∀ (j:Nat) (s:SV),new[j]?=some s -> ∃u:Value,vals[j]?=some u/\Rep w (Mut F β st) u s) -> ∀u∈vals,u.oneCell'=true:=by
  intro vals hl hr u hu;obtain⟨i,hi⟩:=List.getElem?_of_mem hu;have hlt:i<new.length:=by
   rcases xi i vals.length with h|h
   ·omega
   ·rw[xl h]at hi;cases hi
  obtain⟨u',hu',hru⟩:=hr i new[i] (xX hlt);rw[hi]at hu';cases hu';exact hru.one (oneAll_get h1 (xX hlt))
 have he:=h.eval x;unfold moreOf at hm;split at hm
 ·rename_i m' cs hx;cases hm;rw[hx]at he;generalize hv:a.eval x=v at he;cases he with
  |sl0 A _ cap hn=>
   exact⟨A,cap,[],rfl,by simpa using hlen,fun hp=>absurd hlen (by simp;omega),fun u hu=>by simp at hu,fun j s hs=>by simp at hs⟩
  |sl p _ cap hn _ c hb hc hr=>
   have hg : ∀ (j:Nat) (s:SV),new[j]?=some s -> ∃u:Value,((List.range (m*size)).map c)[j]?=some u/\Rep w (Mut F β st) u s:=by
    intro j s hs;have hj:j<m*size:=by
     rcases xi j new.length with h|h
     ·omega
     ·rw[xl h]at hs;cases hs
    exact⟨c j,by rw[zD,wc hj];rfl,hr j s hs⟩
   refine⟨some p,cap,(List.range (m*size)).map c,rfl,by simp,fun _=>⟨p,rfl,fun j u hu => ?_⟩,fin _ (by simp) hg,hg⟩;have hj:j<m*size:=by
    rcases xi j (m*size) with h|h
    ·exact h
    ·rw[xl (by simpa using h)]at hu;cases hu
   rw[zD,wc hj,yp,Option.some.injEq]at hu;subst hu;exact hc j new[j] (xX (by omega))
 ·rename_i hx;cases hm;rw[hx]at he;exact⟨none,0,[],he,by simp,fun hp=>absurd hp (by simp),fun u hu=>by simp at hu,fun j s hs=>by simp at hs⟩
 ·rename_i d g sz off m' hx;split at hm
  ·rename_i hsz;split at hm
   ·rename_i cs ho;cases hm;rw[hx]at he;obtain⟨cap,cs',ty',hv,hn,hb,hroom⟩:=he;obtain⟨us,ty,hb',hall⟩:=h.objs d g cs ho;rw[hb]at hb';cases hb';have hus:off+m*size<=cs'.size:=by
     have:m*sz<=cap*sz:=xC _ hn;rw[hsz]at this hroom;omega
    have hg : ∀ (j:Nat) (s:SV),((cs.drop off).take (m*size))[j]?=some s -> ∃u:Value,((cs'.toList.drop off).take (m*size))[j]?=some u/\Rep w (Mut F β st) u s:=by
     intro j s hs;have hj:j<m*size:=by
      rcases xi j (m*size) with h|h
      ·exact h
      ·rw[xl (by simp;omega)]at hs;cases hs
     rw[yk hj,ye]at hs;obtain⟨_,v,hv,hr⟩:=hall _ s hs;exact⟨v,by rw[yk hj,ye,Array.getElem?_toList];exact hv,hr⟩
    have hvl:((cs'.toList.drop off).take (m*size)).length=m*size:=by
     rw[yO,wU,we];omega
    refine⟨_,cap,(cs'.toList.drop off).take (m*size),hv,hvl,fun _=>⟨_,rfl,fun j u hu => ?_⟩,fin _ hvl hg,hg⟩;have hj:j<m*size:=by
     rcases xi j (m*size) with h|h
     ·exact h
     ·rw[xl (by omega)]at hu;cases hu
    rw[yk hj,ye,Array.getElem?_toList]at hu;rw[add_mk,cell_of_row w _ _ cs' ty' (0,0) hb];exact hu
   ·cases hm
  ·cases hm
 ·cases hm
theorem append_room {t ty e cty:TypeId} {i:TypeInfo} (ht:P.underlying t=some (.slice e)) (hi:P.info? e=some i)
  {g sLen sCap:Nat} {cur:Array Value} (hg:w.heap[g]?=some (.cells cur cty (0,0)))
  {p:Addr} {m c:Nat} {news:List Value} (hl:news.length=m*i.size) (hnews : ∀j u,news[j]?=some u->w.cell? (p.add j)=some u) (h1 : ∀u∈news,u.oneCell'=true)
  (hroom:sLen+m<=sCap) (hfit:sLen*i.size+news.length<=cur.size) :
  (Builtin.append_ #[t,t] ty #[.slice (some ⟨g,0,none⟩) sLen sCap,.slice (some p) m c]).run P w =
   .ok (.slice (some ⟨g,0,none⟩) (sLen+m) sCap) (w.setRow g (cur.toList.take (sLen*i.size)++news++cur.toList.drop (sLen*i.size+news.length)).toArray):=by
 have hf:=run_firstCells_some (P:=P) w i.size m p m c news hl hnews;have hst:=run_storeCells_at P g (sLen*i.size) cty news 0 cur w hg (by simpa using hfit) h1;simp only[yE]at hst;simp[Builtin.append_,run_underlying ht,sizeOf,typeInfo,hi,Builtin.lenOf,hroom,hf,Addr.add_lit,hst]
theorem append_none {t ty e:TypeId} {i:TypeInfo} (ht:P.underlying t=some (.slice e)) (hi:P.info? e=some i) {A B:Option Addr} {n cap c:Nat} (hn:n<=cap) :
  (Builtin.append_ #[t,t] ty #[.slice A n cap,.slice B 0 c]).run P w = .ok (.slice A n cap) w:=by
 cases A<;>cases B<;>simp[Builtin.append_,run_underlying ht,sizeOf,typeInfo,hi,Builtin.lenOf,hn,Builtin.firstCells,loadCells,loadCellsFrom,storeCells]
end
end Go.Ev
namespace Go.Ev
open Go.RowKit
section
variable {P:Program} {w0 w:World} {F I:Nat->Prop} {Z:Nat->Nat} {N:Nat} {β:Nat->Nat->Nat} {st:St} {a:Act}
theorem Rep.drew {M:Nat->Prop} {v:Value} {s:SV} (h:Rep w M v s):Rep w.drew M v s:=Rep.mono (w:=w) (w':=w.drew) (fun _ _ _=>rfl) (fun _ _ hm=>hm) h
theorem run_append_op {s x:Operand} {t:TypeId} {dst:Option Nat} {ty:TypeId} {pos:String} {af:Array Edge} {gd:Option (Nat×Bool)} {v:Value} {w':World}
  (h:(Builtin.append_ #[t,t] ty #[a.eval s,a.eval x]).run P w = .ok v w') :
  (execOp a.eval ⟨dst,.call { callee := .builtin .append,args := #[s,x],argTypes := #[t,t] },ty,pos,af,gd⟩).run P w = .ok (.value v) w':=by
 rw[call_builtin];have:(#[s,x].map a.eval) = #[a.eval s,a.eval x]:=by simp
 simp only[builtin,this,Sem.run_bind,h,Result.andThen_ok,Sem.run_pure]
theorem append_runs (h:Rel w0 F I Z N β st a w) {d:Nat} {t:TypeId} {s x:Operand} {st':St} (hd:d<N) (hs:append P (some d) st t s x=some st') (ty:TypeId) (pos:String) (af:Array Edge) (gd:Option (Nat×Bool)) :
  Runs P a ⟨some d,.call { callee := .builtin .append,args := #[s,x],argTypes := #[t,t] },ty,pos,af,gd⟩ w (To w0 F I Z N st'):=by
 unfold append at hs;split at hs
 ·rename_i e size bytes d0 he hdd;cases hdd;obtain⟨hu,i,hi,his,hib⟩:=elm_parts he;subst his;split at hs
  ·rename_i m new hm;split at hs
   ·rename_i hc;obtain⟨hlen,hby,hsz,hzk,h1⟩:=hc;obtain⟨i',z,hi',hzz,hzs⟩:=zok_parts hzk;rw[hi]at hi';cases hi';obtain⟨A,cap,vals,hx,hvl,hA,hone,hrep⟩:=more_sound h hm hlen h1;have hsv:=h.eval s;unfold appendTo at hs;split at hs
    ·rename_i hes;rw[hes]at hsv;have hsv:a.eval s = .slice none 0 0:=hsv;split at hs
     ·rename_i hm0;subst hm0;cases hs;refine⟨w,.inl ⟨.slice none 0 0,run_append_op ?_,β,h.put hd rfl (fun d g e=>by simp[TV.id]at e)⟩⟩;rw[hsv,hx];exact append_none hu hi (xQ 0)
     ·rename_i hm0;split at hs
      ·rename_i hmb;cases hs;have hpos:0<m*i.size:=yu (by omega) hsz;obtain⟨p,rfl,hcell⟩:=hA hpos;have hbb:m*i.bytes<=281474976710656:=by
        have:m*i.bytes<=274877906944*128:=xO hmb (by omega);omega
       have hr:=run_append_nil (P:=P) w t ty e i z hu hi hzz p m cap vals hvl hcell (by omega) (by omega) hbb;have hdr:=h.world (w':=w.drew) rfl rfl rfl rfl;refine⟨_,.inl ⟨_,run_append_op (by rw[hsv,hx];exact hr),_,hdr.new hd (us:=vals.toArray++Builtin.zeroCells z.cells (grownCap w m 0 e-m)) (ty:=e) (fun j s hj => ?_) ?_ ?_⟩⟩
       ·obtain⟨u,hu',hru⟩:=hrep j s hj;refine⟨oneAll_get h1 hj,u,?_,Rep.drew hru⟩;have hjl:j<vals.length:=by
         rcases xi j vals.length with h|h
         ·exact h
         ·rw[xl h]at hu';cases hu'
        rw[zW (by simpa using hjl)];simpa using hu'
       ·have hge:=grownCap_ge w m 0 e;refine⟨grownCap w m 0 e,_,e,by rw[upd_self];rfl,hge,by rw[upd_self];exact heap_alloc_new w.drew _,?_⟩;rw[Array.size_append,size_zeroCells,hzs,wN,hvl,yV,<- xZ];refine xC _ ?_;omega
       ·intro d' g' e';simp only[TV.id,Option.some.injEq,Prod.mk.injEq]at e';exact⟨e'.1.symm,e'.2.symm⟩
      ·cases hs
    ·rename_i d' g' sz off n hes;rw[hes]at hsv;have hid:g'<st.gen d':=h.evalId (by rw[hes];rfl);split at hs
     ·rename_i hm0;subst hm0;cases hs;refine⟨w,.inl ⟨a.eval s,run_append_op ?_,β,h.put hd hsv (fun d1 g1 e1 => ?_)⟩⟩
      ·obtain⟨scap,cs',ty',hv,hn,_⟩:=hsv;rw[hv,hx];exact append_none hu hi hn
      ·simp only[TV.id,Option.some.injEq,Prod.mk.injEq]at e1;obtain⟨rfl,rfl⟩:=e1;exact hid
     ·rename_i hm0;split at hs
      ·rename_i hc;obtain⟨rfl,rfl,hdN,hnm⟩:=hc;split at hs
       ·rename_i cs ho;split at hs
        ·rename_i hcl;cases hs;obtain⟨scap,us,cty,hv,hn,hb,hroom⟩:=hsv;rw[yV]at hroom;obtain⟨us1,ty1,hb1,hall⟩:=h.objs d' g' cs ho;rw[hb]at hb1;cases hb1;have hpos:0<m*i.size:=yu (by omega) hsz;obtain⟨p,rfl,hcell⟩:=hA hpos;have hadd:(n+m)*i.size=n*i.size+m*i.size:=xZ n m i.size;have hval : ∀ (j:Nat) (s:SV),(cs++new)[j]?=some s->s.one=true/\((j<n*i.size /\ ∃u:Value,us[j]?=some u/\Rep w (Mut F β st) u s)\/(n*i.size<=j/\j<n*i.size+m*i.size /\ ∃u:Value,vals[j-n*i.size]?=some u/\Rep w (Mut F β st) u s)):=by
          intro j s hj;rcases xi j cs.length with hlt|hge
          ·rw[yf hlt]at hj;obtain⟨o,u,hu',hr⟩:=hall j s hj;exact⟨o,.inl ⟨by omega,u,hu',hr⟩⟩
          ·rw[yj hge,hcl]at hj;obtain⟨u,hu',hr⟩:=hrep _ s hj;refine⟨oneAll_get h1 hj,.inr ⟨by omega,?_,u,hu',hr⟩⟩;rcases xi (j-n*i.size) new.length with h|h
           ·omega
           ·rw[xl h]at hj;cases hj
         by_cases hfit:n+m<=scap
         ·-- in place
          have hle:n*i.size+vals.length<=us.size:=by
           rw[hvl,<- hadd];exact xH (xC _ hfit) hroom
          have hr:=append_room (P:=P) (ty:=ty) (c:=cap) hu hi hb hvl hcell hone hfit hle;have hul:us.toList.length=us.size:=we;have hle':n*i.size+vals.length<=us.toList.length:=by omega
          have hk:=(h.set (cs:=cs++new) (us':=(us.toList.take (n*i.size)++vals++us.toList.drop (n*i.size+vals.length)).toArray) ho hb (setRow_heap w _ us _ cty (0,0) hb)
           (by rw[wN,over_len hle',hul]) (fun b hne=>setRow_other w _ b _ hne) (by simp) rfl rfl rfl (fun j s hj=>by
            obtain⟨o,hcase⟩:=hval j s hj;refine⟨o,?_⟩;rw[wQ,over_get hle'];rcases hcase with⟨hlt,u,hu',hr'⟩|⟨hge,hlt,u,hu',hr'⟩
            ·rw[if_neg (by omega)];exact⟨u,by simpa using hu',hr'⟩
            ·rw[if_pos (by omega)];exact⟨u,hu',hr'⟩)).kill d' g'
          rw[<- hv,<- hx]at hr;refine⟨_,.inl ⟨_,run_append_op hr,β,?_⟩⟩;refine hk.put (t := .ref d' g' i.size 0 (n+m)) hd ⟨scap,_,cty,rfl,hfit,setRow_heap w _ us _ cty (0,0) hb,?_⟩ (fun d1 g1 e1 => ?_)
          ·rw[wN,over_len hle',hul];omega
          ·simp only[TV.id,Option.some.injEq,Prod.mk.injEq]at e1;obtain⟨rfl,rfl⟩:=e1;exact hid
         ·-- a new block
          have holds : ∀ (j:Nat) (u:Value),(us.toList.take (n*i.size))[j]?=some u->w.cell? ((⟨β d' g',0,none⟩:Addr).add j)=some u:=by
           intro j u hj;have hjl:j<n*i.size:=by
            rcases xi j (n*i.size) with h|h
            ·exact h
            ·rw[xl (by simp;omega)]at hj;cases hj
           rw[yk hjl,Array.getElem?_toList]at hj;rw[add_mk,yV,cell_of_row w _ _ us cty (0,0) hb];exact hj
          have hul:us.toList.length=us.size:=we;have hn':n*i.size<=us.size:=xH (xC _ hn) hroom;have hol:(us.toList.take (n*i.size)).length=n*i.size:=by rw[yO];omega
          have hbb:(n+m)*i.bytes<=140737488355328:=by
           have:(n+m)*i.bytes<=274877906944*128:=xO hnm (by omega);omega
          have hr:=run_append_grow (P:=P) w t ty e i z hu hi hzz ⟨β d' g',0,none⟩ n scap _ hol holds p m cap vals hvl hcell (by omega) (by omega) (growslice_fits (by omega) hbb);have hk:=(h.kill d' g').world (w':=w.drew) rfl rfl rfl rfl;have hmv:=hk.move (cs:=cs++new) (us:=(us.toList.take (n*i.size)).toArray++vals.toArray++Builtin.zeroCells z.cells (grownCap w (n+m) scap e-(n+m))) (ty:=e) ho hdN
           (fun t d1 g1 e1=>(kill_id e1).2) (fun j s hj=>by
            obtain⟨o,hcase⟩:=hval j s hj;refine⟨o,?_⟩;rcases hcase with⟨hlt,u,hu',hr'⟩|⟨hge,hlt,u,hu',hr'⟩
            ·refine⟨u,?_,Rep.drew (M:=Mut F β st) hr'⟩;rw[zW (by simp;omega),zW (by simp;omega),wQ,yk hlt];simpa using hu'
            ·refine⟨u,?_,Rep.drew (M:=Mut F β st) hr'⟩;rw[zW (by simp;omega),Array.getElem?_append_right (by simp;omega)];rw[wN,hol,wQ];exact hu')
          rw[<- hv,<- hx]at hr;refine⟨_,.inl ⟨_,run_append_op hr,upd β d' g' w.drew.heap.size,?_⟩⟩;refine hmv.put (t := .ref d' g' i.size 0 (n+m)) hd ⟨grownCap w (n+m) scap e,(us.toList.take (n*i.size)).toArray++vals.toArray++Builtin.zeroCells z.cells (grownCap w (n+m) scap e-(n+m)),e,by rw[upd_self];rfl,grownCap_ge w (n+m) scap e,by rw[upd_self];exact heap_alloc_new w.drew _,?_⟩ (fun d1 g1 e1 => ?_)
          ·have hge:=grownCap_ge w (n+m) scap e;rw[Array.size_append,Array.size_append,size_zeroCells,hzs,wN,wN,hol,hvl,yV,<- hadd,<- xZ];refine xC _ ?_;omega
          ·simp only[TV.id,Option.some.injEq,Prod.mk.injEq]at e1;obtain⟨rfl,rfl⟩:=e1;exact hid
        ·cases hs
       ·cases hs
      ·cases hs
    ·cases hs
   ·cases hs
  ·cases hs
 ·cases hs
theorem copy_runs (h:Rel w0 F I Z N β st a w) {dst:Option Nat} {t:TypeId} {s x:Operand} {st':St} (hd : ∀d,dst=some d->d<N) (hs:copy P dst st t s x=some st') (tys:List TypeId) (ty:TypeId) (pos:String) (af:Array Edge) (gd:Option (Nat×Bool)) :
  Runs P a ⟨dst,.call { callee := .builtin .copy,args := #[s,x],argTypes:=(t::tys).toArray },ty,pos,af,gd⟩ w (To w0 F I Z N st'):=by
 unfold copy at hs;split at hs
 ·rename_i e size bytes d g sz off n he hes;obtain⟨hu,i,hi,his,hib⟩:=elm_parts he;subst his;split at hs
  ·rename_i m new cs hm ho;split at hs
   ·rename_i hc;obtain⟨rfl,hlen,hmn,hoff,h1⟩:=hc;cases hs;obtain⟨A,cap,vals,hx,hvl,hA,hone,hrep⟩:=more_sound h hm hlen h1;have hsv:=h.eval s;rw[hes]at hsv;obtain⟨scap,us0,cty0,hv,_⟩:=hsv;obtain⟨us,cty,hb,hfit,hrel⟩:=h.splice (vs:=vals) (new:=new) (off:=off) ho (hvl.trans hlen.symm) (by omega) (fun j y hy=>⟨oneAll_get h1 hy,hrep j y hy⟩);refine⟨_,.inl ⟨.int .i64 m,?_,β,hrel.putO (t := .sv (.int .i64 m)) hd (Rep.int _ _) (fun d g e=>by simp[TV.id]at e)⟩⟩;rw[call_builtin];have hargs:(#[s,x].map a.eval) = #[a.eval s,a.eval x]:=by simp
    have hfirst:(Builtin.firstCells i.size m (.slice A m cap)).run P w = .ok vals.toArray w:=by
     rcases xo (m*i.size) with h0|h0
     ·have:vals=[]:=wR (by rw[hvl,h0]);subst this;cases A with
      |none=>rfl
      |some p=>simp[Builtin.firstCells,h0,loadCells,loadCellsFrom]
     ·obtain⟨p,rfl,hcell⟩:=hA h0;exact run_firstCells_some w i.size m p m cap vals hvl hcell
    have hst:=run_storeCells_at P (β d g) off cty vals 0 us w hb (by simpa using hfit) hone;simp only[yE]at hst;have hmin:Nat.min m n=m:=yx hmn;simp only[builtin,hargs,Builtin.copy_,hv,hx,Sem.run_bind];simp[run_underlying hu,run_size hi,Builtin.lenOf,hmin,hfirst,hst,goInt]
   ·cases hs
  ·cases hs
 ·cases hs
end
end Go.Ev
