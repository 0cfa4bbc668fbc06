/- Part 6 of the proof: the evaluator, contracts of functions and their plain laws (joined by program). No condition. -/
import Derived.Test.YtlojijllmadnoaaGreatDoorPart5
import Derived.Lib.Bytealg
import Derived.Lib.Join
import Derived.Lib.SlTrimSet
import Derived.Lib.Atoi
import Derived.Laws.Externs
import Derived.Lib.IndexMore
import Derived.Lib.FieldsP
import Derived.WalkSmall
import Derived.Lib.Overlaps
import Derived.Shelf.Strings.OnBuilder
import Derived.Shelf.Strings.SlTrimAscii
import Derived.Shelf.Strconv.Atoi
import Derived.Shelf.Strings.Cut
import Derived.Shelf.Strings.FieldsFuncAny
import Derived.Test.YtlojijllmadnoaaGreatDoorProg
import Derived.Shelf.GgClosure.GivesRunes
set_option linter.unusedVariables false
set_option linter.unusedSimpArgs false
set_option maxRecDepth 100000
namespace Go.Ev
def bs (l : List UInt8) : ByteArray := ⟨l.toArray⟩
theorem bs_toList (l : List UInt8) : (bs l).data.toList = l := by simp [bs]
theorem bs_size (l : List UInt8) : (bs l).size = l.length := by simp [bs, ByteArray.size]
theorem bs_get (l : List UInt8) (i : Nat) : (bs l)[i]? = l[i]? := by
 rw [getElem?_def]
 split
 ·rename_i h
  have h' : i < l.length := by rw [<- bs_size]; exact h
  rw [List.getElem?_eq_getElem h']
  rfl
 ·rename_i h
  have h' : ¬ i < l.length := by rw [<- bs_size]; exact h
  rw [List.getElem?_eq_none (by omega)]
theorem bs_append (a b : List UInt8) : bs a ++ bs b = bs (a ++ b) := by
 apply ByteArray.ext
 simp [bs]
theorem bs_extract (l : List UInt8) (a b : Nat) : (bs l).extract a b = bs ((l.drop a).take (b - a)) := by
 apply ByteArray.ext
 simp [bs]
theorem bs_list (l : List UInt8) : (bs l).toList = l := by
 rw [ByteArray.toList_eq]
 exact bs_toList l
theorem bs_eq {a b : List UInt8} : ((bs a).toList == (bs b).toList) = (a == b) := by rw [bs_list, bs_list]
def dgR (n : Nat) : List UInt8 := if n = 0 then [] else UInt8.ofNat (48 + n % 10) :: dgR (n / 10)
termination_by n
theorem dgR_zero : dgR 0 = [] := by rw [dgR]; rfl
theorem dgR_pos {n : Nat} (h : n ≠ 0) : dgR n = UInt8.ofNat (48 + n % 10) :: dgR (n / 10) := by rw [dgR, if_neg h]
def dec (n : Nat) : List UInt8 := if n = 0 then [48] else (dgR n).reverse
def dig (b : UInt8) : Bool := 48 <= b.toNat && b.toNat <= 57
def digs (l : List UInt8) : Bool := l.all dig
def natD (l : List UInt8) : Nat := l.foldl (fun a b => a * 10 + (b.toNat - 48)) 0
def natLE : List UInt8 -> Nat
 | [] => 0
 | b :: r => (b.toNat - 48) + 10 * natLE r
theorem natD_nil : natD [] = 0 := rfl
theorem natD_snoc (l : List UInt8) (b : UInt8) : natD (l ++ [b]) = natD l * 10 + (b.toNat - 48) := by simp [natD]
theorem natD_rev (l : List UInt8) : natD l.reverse = natLE l := by
 induction l with
 | nil => rfl
 | cons b r ih =>
  rw [List.reverse_cons, natD_snoc, ih, natLE]
  omega
theorem dig_of (n : Nat) : (UInt8.ofNat (48 + n % 10)).toNat = 48 + n % 10 := by
 rw [UInt8.toNat_ofNat']
 omega
theorem dig_ofNat (n : Nat) : dig (UInt8.ofNat (48 + n % 10)) = true := by
 unfold dig
 rw [dig_of]
 simp
 omega
theorem dgR_unique : ∀ {l : List UInt8}, digs l = true -> (l = [] \/ ∃ a b, l = a ++ [b] /\ b ≠ 48) -> dgR (natLE l) = l := by
 intro l
 induction l with
 | nil => intro _ _; exact dgR_zero
 | cons b r ih =>
  intro hd hz
  unfold digs at hd
  rw [List.all_cons, Bool.and_eq_true] at hd
  have hb := hd.1
  unfold dig at hb
  simp only [Bool.and_eq_true, decide_eq_true_eq] at hb
  have hr : r = [] \/ ∃ a c, r = a ++ [c] /\ c ≠ 48 := by
   rcases hz with h | ⟨a, c, h, hc⟩
   ·cases h
   ·cases a with
    | nil => left; simp at h; exact h.2
    | cons x a => right; simp at h; exact ⟨a, c, h.2, hc⟩
  have hne : natLE (b :: r) ≠ 0 := by
   rw [natLE]
   rcases hr with h | ⟨a, c, h, hc⟩
   ·subst h
    rcases hz with h | ⟨a, c, h, hc⟩
    ·cases h
    ·have : b = c := by
      cases a with
      | nil => simpa using h
      | cons x a => simp at h
     subst this
     have : b.toNat ≠ 48 := fun e => hc (UInt8.toNat_inj.1 (by rw [e]; rfl))
     omega
   ·intro h0
    have h1 : natLE r = 0 := by omega
    have h2 := ih hd.2 (.inr ⟨a, c, h, hc⟩)
    rw [h1, dgR_zero] at h2
    rw [h] at h2
    simp at h2
  rw [dgR_pos hne, natLE]
  have e1 : (b.toNat - 48 + 10 * natLE r) % 10 = b.toNat - 48 := by omega
  have e2 : (b.toNat - 48 + 10 * natLE r) / 10 = natLE r := by omega
  rw [e1, e2, ih hd.2 hr]
  congr 1
  apply UInt8.toNat_inj.1
  rw [UInt8.toNat_ofNat']
  omega
theorem natLE_append (a b : List UInt8) : natLE (a ++ b) = natLE a + 10 ^ a.length * natLE b := by
 induction a with
 | nil => simp [natLE]
 | cons x a ih =>
  rw [List.cons_append, natLE, ih, natLE, List.length_cons, Nat.pow_succ]
  rw [Nat.mul_add, Nat.mul_comm (10 ^ a.length) 10, Nat.mul_assoc]
  omega
theorem natLE_lt {l : List UInt8} (h : digs l = true) : natLE l < 10 ^ l.length := by
 induction l with
 | nil => simp [natLE]
 | cons b r ih =>
  unfold digs at h
  rw [List.all_cons, Bool.and_eq_true] at h
  have hb := h.1
  unfold dig at hb
  simp only [Bool.and_eq_true, decide_eq_true_eq] at hb
  have := ih h.2
  rw [natLE, List.length_cons, Nat.pow_succ]
  omega
end Go.Ev
namespace Go.Ev
open Go.RowKit
def CallAt (P : Program) (g : FuncId) (args : List Arg) (r : Ret) (exps : List (Option (List SV))) : Prop :=
 ∀ (w : World) (F : Nat -> Prop) (B : Nat -> Nat) (vals : Array Value), (∀ b, F b -> b < w.heap.size) -> vals.size = args.length ->
  (∀ (i : Nat) (x : Arg), args[i]? = some x -> ArgRep w F (vals.getD i undef) (B i) x) ->
  (∀ (i j : Nat) (x y : Arg), args[i]? = some x -> args[j]? = some y -> isImp x = true -> isImp y = true -> B i = B j -> i = j) ->
  Invk P g vals w fun e w' => ∃ v, e = .returned v /\ RetRep w w' F v r /\ Ext (impB args B) w w' /\ ∀ (i : Nat) (cs : List SV), exps[i]? = some (some cs) -> Holds w' F (B i) cs
theorem sv_imp {ss : List SV} {B : Nat -> Nat} {b : Nat} : ¬ impB (ss.map Arg.sv) B b := by
 rintro ⟨i, x, hx, hi, _⟩
 rw [List.getElem?_map] at hx
 cases hs : ss[i]? with
 | none => rw [hs] at hx; cases hx
 | some s => rw [hs] at hx; cases hx; cases hi
theorem ext_below {w w' : World} {J : Nat -> Prop} (h : Below w.heap.size w w') (hJ : ∀ b, ¬ J b) : Ext J w w' :=
 ⟨h.os, h.tape, h.output, h.size, fun b hb _ => h.block b hb, fun b cs ty hb hi _ => (hJ b hi).elim⟩
theorem at_extern {P : Program} {g : FuncId} {ss : List SV} {s : SV} {exps : List (Option (List SV))} (he : ∀ i : Nat, exps[i]? ≠ some (some []) /\ ∀ cs, exps[i]? ≠ some (some cs))
  (h : ∀ (w : World) (F : Nat -> Prop) (vals : Array Value), vals.size = ss.length -> (∀ (i : Nat) (x : SV), ss[i]? = some x -> Rep w F (vals.getD i undef) x) -> ∃ v, (callFunc g vals).run P w = .ok (.value v) w /\ Rep w F v s) :
  CallAt P g (ss.map Arg.sv) (.sv s) exps := by
 intro w F B vals hF hsz hrep hinj
 obtain ⟨v, hv, hr⟩ := h w F vals (by simpa using hsz) (fun i x hx => by
  have := hrep i (.sv x) (by rw [List.getElem?_map, hx]; rfl)
  exact this)
 exact .inr ⟨v, hv, v, rfl, hr, ext_below (Below.refl _ _) (fun b => sv_imp), fun i cs hi => ((he i).2 cs hi).elim⟩
theorem at_calls {P : Program} {g : FuncId} {ss : List SV} {s : SV} {exps : List (Option (List SV))} (hE : Enters P g) (he : ∀ i : Nat, exps[i]? ≠ some (some []) /\ ∀ cs, exps[i]? ≠ some (some cs))
  (h : ∀ (w : World) (F : Nat -> Prop) (vals : Array Value), vals.size = ss.length -> (∀ (i : Nat) (x : SV), ss[i]? = some x -> Rep w F (vals.getD i undef) x) -> Calls P g vals w fun e w' => ∃ v, e = .returned v /\ Rep w' F v s /\ Below w.heap.size w w') :
  CallAt P g (ss.map Arg.sv) (.sv s) exps := by
 intro w F B vals hF hsz hrep hinj
 refine .inl ⟨hE, (h w F vals (by simpa using hsz) (fun i x hx => hrep i (.sv x) (by rw [List.getElem?_map, hx]; rfl))).mono ?_⟩
 rintro e w' ⟨v, rfl, hr, hb⟩
 exact ⟨v, rfl, hr, ext_below hb (fun b => sv_imp), fun i cs hi => ((he i).2 cs hi).elim⟩
theorem none_exps {n : Nat} (i : Nat) : (List.replicate n (none : Option (List SV)))[i]? ≠ some (some []) /\ ∀ cs, (List.replicate n (none : Option (List SV)))[i]? ≠ some (some cs) := by
 constructor
 ·intro h
  rw [List.getElem?_replicate] at h
  split at h <;> simp at h
 ·intro cs h
  rw [List.getElem?_replicate] at h
  split at h <;> simp at h
def xIndex : List Arg -> Option (Ret × List (Option (List SV)))
 | [.sv (.str s), .sv (.int .u8 c)] => some (.sv (.int .i64 (Lib.indexByte s.data.toList c.toNat.toUInt8)), List.replicate 2 none)
 | _ => none
def xCount : List Arg -> Option (Ret × List (Option (List SV)))
 | [.sv (.str s), .sv (.int .u8 c)] => some (.sv (.int .i64 (Lib.countByte s.data.toList c.toNat.toUInt8)), List.replicate 2 none)
 | _ => none
def xCmp : List Arg -> Option (Ret × List (Option (List SV)))
 | [.sv (.str a), .sv (.str b)] => some (.sv (.int .i64 (Lib.compareBytes a.data.toList b.data.toList)), List.replicate 2 none)
 | _ => none
def xTrim : List Arg -> Option (Ret × List (Option (List SV)))
 | [.sv (.str s), .sv (.str c)] => if s.size <= 9223372036854775807 /\ c.size < 4294967281 /\ c.data.toList.all (fun b => decide (b.toNat < 128)) = true then some (.sv (.str (bs (Lib.trimS s.data.toList c.data.toList))), List.replicate 2 none) else none
 | _ => none
def xTrimLeft : List Arg -> Option (Ret × List (Option (List SV)))
 | [.sv (.str s), .sv (.str c)] => if c.size < 4294967281 /\ c.data.toList.all (fun b => decide (b.toNat < 128)) = true then some (.sv (.str (bs (Lib.trimLeftS s.data.toList c.data.toList))), List.replicate 2 none) else none
 | _ => none
def xAtoi : List Arg -> Option (Ret × List (Option (List SV)))
 | [.sv (.str s)] => match Lib.atoi s.data.toList with
  | some v => if s.size <= 18 then some (.sv (.tup [.int .i64 v, .con .nilIface]), List.replicate 1 none) else none
  | none => none
 | _ => none
def strsOf : List SV -> Option (List (List UInt8))
 | [] => some []
 | .str s :: r => match strsOf r with
  | some l => some (s.data.toList :: l)
  | none => none
 | _ => none
def xJoin : List Arg -> Option (Ret × List (Option (List SV)))
 | [.sv (.sl n cs), .sv (.str sep)] => match strsOf cs with
  | some xs => if xs.length = n /\ n <= 140737488355328 /\ (Lib.join xs sep.data.toList).length <= 140737488355328 then some (.sv (.str (bs (Lib.join xs sep.data.toList))), List.replicate 2 none) else none
  | none => none
 | _ => none
def splitB (c : UInt8) : List UInt8 -> List (List UInt8)
 | [] => [[]]
 | b :: r => if b == c then [] :: splitB c r else match splitB c r with
  | x :: xs => (b :: x) :: xs
  | [] => [[b]]
def strC (l : List UInt8) : SV := .str (bs l)
def xGenSplit : List Arg -> Option (Ret × List (Option (List SV)))
 | [.sv (.str s), .sv (.str sep), .sv (.int .i64 0), .sv (.int .i64 (-1))] => match sep.data.toList with
  | [c] => if s.size <= 1048576 then some (.row ((splitB c s.data.toList).map strC) 1 0 (splitB c s.data.toList).length, List.replicate 4 none) else none
  | _ => none
 | _ => none
def xSplit : List Arg -> Option (Ret × List (Option (List SV)))
 | [.sv (.str s), .sv (.str sep)] => match sep.data.toList with
  | [c] => if s.size <= 1048576 then some (.row ((splitB c s.data.toList).map strC) 1 0 (splitB c s.data.toList).length, List.replicate 2 none) else none
  | _ => none
 | _ => none
section
variable {P : Program} {g : FuncId} {fn : Func} {args : List Arg} {r : Ret} {exps : List (Option (List SV))}
theorem rep_str2 {w : World} {F : Nat -> Prop} {vals : Array Value} {s : ByteArray} {x : SV} (hsz : vals.size = 2) (h : ∀ (i : Nat) (y : SV), [SV.str s, x][i]? = some y -> Rep w F (vals.getD i undef) y) : ∃ v, vals = #[.string s, v] /\ Rep w F v x := by
 have h0 := h 0 _ rfl
 have h1 := h 1 _ rfl
 obtain ⟨l⟩ := vals
 match l, hsz, h0, h1 with
 | [a, b], _, h0, h1 =>
  have h0 : Rep w F a (.str s) := h0
  have h1 : Rep w F b x := h1
  rw [rep_str h0]
  exact ⟨b, rfl, h1⟩
theorem index_at (hf : P.funcs[g]? = some fn) (hname : (fn.name == "runtime.NumGoroutine") = false) (hb : fn.body.isNone = true) (hn : Extern.findNext fn = none) (he : Extern.find fn = some Extern.BytealgIndexByte.indexByte)
  (h : xIndex args = some (r, exps)) : CallAt P g args r exps := by
 unfold xIndex at h
 split at h
 ·rename_i s c
  cases h
  refine at_extern (ss := [.str s, .int .u8 c]) none_exps fun w F vals hsz hrep => ?_
  obtain ⟨v, rfl, hv⟩ := rep_str2 hsz hrep
  rw [rep_int hv]
  refine ⟨_, ?_, .int _ _⟩
  rw [run_callFunc_extern hf hname hb hn he, Lib.run_indexByteString]
  rfl
 ·cases h
theorem cmp_at (hf : P.funcs[g]? = some fn) (hname : (fn.name == "runtime.NumGoroutine") = false) (hb : fn.body.isNone = true) (hn : Extern.findNext fn = none) (he : Extern.find fn = some Extern.BytealgCompare.compare)
  (h : xCmp args = some (r, exps)) : CallAt P g args r exps := by
 unfold xCmp at h
 split at h
 ·rename_i s c
  cases h
  refine at_extern (ss := [.str s, .str c]) none_exps fun w F vals hsz hrep => ?_
  obtain ⟨v, rfl, hv⟩ := rep_str2 hsz hrep
  rw [rep_str hv]
  refine ⟨_, ?_, .int _ _⟩
  rw [run_callFunc_extern hf hname hb hn he, Lib.run_compareString]
  rfl
 ·cases h
theorem count_at (hf : P.funcs[g]? = some fn) (hname : (fn.name == "runtime.NumGoroutine") = false) (hb : fn.body.isNone = true) (hn : Extern.findNext fn = none) (he : Extern.find fn = some Extern.BytealgCount.count)
  (h : xCount args = some (r, exps)) : CallAt P g args r exps := by
 unfold xCount at h
 split at h
 ·rename_i s c
  cases h
  refine at_extern (ss := [.str s, .int .u8 c]) none_exps fun w F vals hsz hrep => ?_
  obtain ⟨v, rfl, hv⟩ := rep_str2 hsz hrep
  rw [rep_int hv]
  refine ⟨_, ?_, .int _ _⟩
  rw [run_callFunc_extern hf hname hb hn he, Lib.run_countString]
  rfl
 ·cases h
theorem trim_at (hE : Enters P g) (hC : ∀ (s c : ByteArray) (w : World), s.size <= 9223372036854775807 -> c.size < 4294967281 -> (∀ (j : Nat) b, c.data.toList[j]? = some b -> b.toNat < 128) ->
   Calls P g #[.string s, .string c] w fun e w' => e = .returned (.string ⟨(Lib.trimS s.data.toList c.data.toList).toArray⟩) /\ Below w.heap.size w w')
  (h : xTrim args = some (r, exps)) : CallAt P g args r exps := by
 unfold xTrim at h
 split at h
 ·rename_i s c
  split at h
  ·rename_i hc
   cases h
   refine at_calls (ss := [.str s, .str c]) hE none_exps fun w F vals hsz hrep => ?_
   obtain ⟨v, rfl, hv⟩ := rep_str2 hsz hrep
   rw [rep_str hv]
   refine (hC s c w hc.1 hc.2.1 (fun j b hb => of_decide_eq_true (List.all_eq_true.1 hc.2.2 b (List.mem_of_getElem? hb)))).mono ?_
   rintro e w' ⟨rfl, hb⟩
   exact ⟨_, rfl, .str _, hb⟩
  ·cases h
 ·cases h
theorem trimLeft_at (hE : Enters P g) (hC : ∀ (s c : ByteArray) (w : World), c.size < 4294967281 -> (∀ (j : Nat) b, c.data.toList[j]? = some b -> b.toNat < 128) ->
   Calls P g #[.string s, .string c] w fun e w' => e = .returned (.string ⟨(Lib.trimLeftS s.data.toList c.data.toList).toArray⟩) /\ Below w.heap.size w w')
  (h : xTrimLeft args = some (r, exps)) : CallAt P g args r exps := by
 unfold xTrimLeft at h
 split at h
 ·rename_i s c
  split at h
  ·rename_i hc
   cases h
   refine at_calls (ss := [.str s, .str c]) hE none_exps fun w F vals hsz hrep => ?_
   obtain ⟨v, rfl, hv⟩ := rep_str2 hsz hrep
   rw [rep_str hv]
   refine (hC s c w hc.1 (fun j b hb => of_decide_eq_true (List.all_eq_true.1 hc.2 b (List.mem_of_getElem? hb)))).mono ?_
   rintro e w' ⟨rfl, hb⟩
   exact ⟨_, rfl, .str _, hb⟩
  ·cases h
 ·cases h
theorem atoi_at (hE : Enters P g) (hC : ∀ (s : ByteArray) (v : Int) (w : World), s.size <= 18 -> Lib.atoi s.data.toList = some v ->
   Calls P g #[.string s] w fun e w' => e = .returned (.tuple #[.int .i64 v, .nilIface]) /\ Below w.heap.size w w')
  (h : xAtoi args = some (r, exps)) : CallAt P g args r exps := by
 unfold xAtoi at h
 split at h
 ·rename_i s
  split at h
  ·rename_i v hv
   split at h
   ·rename_i hc
    cases h
    refine at_calls (ss := [.str s]) hE none_exps fun w F vals hsz hrep => ?_
    have h0 := hrep 0 _ rfl
    obtain ⟨l⟩ := vals
    match l, hsz, h0 with
    | [a], _, h0 =>
     have h0 : Rep w F a (.str s) := h0
     rw [rep_str h0]
     refine (hC s v w hc hv).mono ?_
     rintro e w' ⟨rfl, hb⟩
     refine ⟨_, rfl, .tup _ _ rfl (fun i x hx => ?_), hb⟩
     match i with
     | 0 => cases hx; exact .int _ _
     | 1 => cases hx; exact .con _ rfl
     | i + 2 => simp at hx
   ·cases h
  ·cases h
 ·cases h
theorem strsOf_get : ∀ {cs : List SV} {xs : List (List UInt8)}, strsOf cs = some xs -> cs = xs.map (fun l => .str (bs l))
 | [], xs, h => by cases h; rfl
 | c :: r, xs, h => by
  unfold strsOf at h
  split at h
  ·rename_i heq; cases heq
  ·rename_i s r' heq
   injection heq with e1 e2
   subst e1 e2
   split at h
   ·rename_i l hl
    cases h
    rw [List.map_cons, <- strsOf_get hl]
    rfl
   ·cases h
  ·cases h
theorem join_at (hE : Enters P g)
  (h0 : ∀ (a : Option Addr) (c : Nat) (sep : ByteArray) (w : World), Calls P g #[.slice a 0 c, .string sep] w fun e w' => e = .returned (.string ⟨#[]⟩) /\ w' = w)
  (hC : ∀ (bk o c : Nat) (xs : List ByteArray) (sep : ByteArray) (w : World), (∀ (j : Nat) x, xs[j]? = some x -> w.cell? ⟨bk, o + j, none⟩ = some (.string x)) -> bk < w.heap.size -> xs.length <= 140737488355328 -> xs.length <= c ->
   (Lib.join (xs.map (·.data.toList)) sep.data.toList).length <= 140737488355328 ->
   Calls P g #[.slice (some ⟨bk, o, none⟩) xs.length c, .string sep] w fun e w' => e = .returned (.string ⟨(Lib.join (xs.map (·.data.toList)) sep.data.toList).toArray⟩) /\ Below w.heap.size w w')
  (h : xJoin args = some (r, exps)) : CallAt P g args r exps := by
 unfold xJoin at h
 split at h
 ·rename_i n cs sep
  split at h
  ·rename_i xs hxs
   split at h
   ·rename_i hc
    cases h
    obtain ⟨hn, hm, hl⟩ := hc
    refine at_calls (ss := [.sl n cs, .str sep]) hE none_exps fun w F vals hsz hrep => ?_
    have r0 := hrep 0 _ rfl
    have r1 := hrep 1 _ rfl
    obtain ⟨l⟩ := vals
    match l, hsz, r0, r1 with
    | [a, b], _, r0, r1 =>
     have r0 : Rep w F a (.sl n cs) := r0
     have r1 : Rep w F b (.str sep) := r1
     rw [rep_str r1]
     have hcs := strsOf_get hxs
     have none_case : ∀ (A : Option Addr) (cap : Nat), xs = [] -> Calls P g #[.slice A 0 cap, .string sep] w fun e w' => ∃ v, e = .returned v /\ Rep w' F v (.str (bs (Lib.join xs sep.data.toList))) /\ Below w.heap.size w w' := by
      intro A cap hx
      subst hx
      refine (h0 A cap sep w).mono ?_
      rintro e w' ⟨rfl, rfl⟩
      exact ⟨_, rfl, .str _, Below.refl _ _⟩
     cases r0 with
     | sl0 A _ cap _ =>
      have hx : xs = [] := by
       cases xs with
       | nil => rfl
       | cons x xs => simp at hcs
      subst hx
      cases hn
      exact none_case A cap rfl
     | sl p _ cap hle _ c hb hcell hr =>
      cases xs with
      | nil => cases hn; exact none_case _ cap rfl
      | cons x xs =>
       have hcell' : ∀ (j : Nat) (y : ByteArray), ((x :: xs).map bs)[j]? = some y -> w.cell? (p.add j) = some (.string y) := by
        intro j y hy
        have hj : cs[j]? = some (.str y) := by
         rw [hcs]
         rw [List.getElem?_map] at hy ⊢
         cases hz : (x :: xs)[j]? with
         | none => rw [hz] at hy; cases hy
         | some z => rw [hz] at hy; cases hy; rfl
        rw [hcell j _ hj, rep_str (hr j _ hj)]
       have hp : p = ⟨p.block, p.off, none⟩ := by
        have := hcell' 0 _ rfl
        rw [show p.add 0 = p from rfl] at this
        obtain ⟨pb, po, ps⟩ := p
        cases ps with
        | none => rfl
        | some _ =>
         simp [World.cell?] at this
         split at this <;> simp at this
       have hlt : p.block < w.heap.size := World.block_lt_of_cell? w p (hcell' 0 _ rfl)
       have key := hC p.block p.off cap ((x :: xs).map bs) sep w (fun j y hy => by
        have := hcell' j y hy
        rw [hp, add_mk] at this
        exact this) hlt (by rw [List.length_map]; omega) (by rw [List.length_map]; omega) (by
         rw [List.map_map]
         have : (x :: xs).map ((fun y : ByteArray => y.data.toList) ∘ bs) = x :: xs := by
          rw [show ((fun y : ByteArray => y.data.toList) ∘ bs) = id from funext fun y => bs_toList y]
          simp
         rw [this]
         exact hl)
       rw [List.length_map, hn, <- hp, List.map_map] at key
       have e1 : (x :: xs).map ((fun y : ByteArray => y.data.toList) ∘ bs) = x :: xs := by
        rw [show ((fun y : ByteArray => y.data.toList) ∘ bs) = id from funext fun y => bs_toList y]
        simp
       rw [e1] at key
       refine key.mono ?_
       rintro e w' ⟨rfl, hb⟩
       exact ⟨_, rfl, .str _, hb⟩
   ·cases h
  ·cases h
 ·cases h
end
end Go.Ev
namespace Go.Ev
open Go.RowKit
def xCut : List Arg -> Option (Ret × List (Option (List SV)))
 | [.sv (.str s), .sv (.str c)] => if 2 <= c.size /\ s.size < 4294967281 then some (.sv (.tup [.str (bs (Lib.cut s.data.toList c.data.toList).1), .str (bs (Lib.cut s.data.toList c.data.toList).2.1), .bool (Lib.cut s.data.toList c.data.toList).2.2]), List.replicate 2 none) else none
 | _ => none
section
variable {P : Program} {g : FuncId} {args : List Arg} {r : Ret} {exps : List (Option (List SV))} {G : List (Nat × Value)}
theorem gl_cell {w : World} {F : Nat -> Prop} {n : Nat} {v : Value} (h : GlOk G w F) (hm : (n, v) ∈ G) : w.cell? ⟨n, 0, none⟩ = some v := by
 obtain ⟨a, ha, hc⟩ := mem_cells (h n v hm)
 cases ha
 obtain ⟨u, hu, hr⟩ := hc 0 _ rfl
 rw [add_zero] at hu
 cases hr
 exact hu
def CallG (P : Program) (G : List (Nat × Value)) (g : FuncId) (args : List Arg) (r : Ret) (exps : List (Option (List SV))) : Prop :=
 ∀ (w : World) (F : Nat -> Prop) (B : Nat -> Nat) (vals : Array Value), GlOk G w F -> (∀ b, F b -> b < w.heap.size) -> vals.size = args.length ->
  (∀ (i : Nat) (x : Arg), args[i]? = some x -> ArgRep w F (vals.getD i undef) (B i) x) ->
  (∀ (i j : Nat) (x y : Arg), args[i]? = some x -> args[j]? = some y -> isImp x = true -> isImp y = true -> B i = B j -> i = j) ->
  Invk P g vals w fun e w' => ∃ v, e = .returned v /\ RetRep w w' F v r /\ Ext (impB args B) w w' /\ ∀ (i : Nat) (cs : List SV), exps[i]? = some (some cs) -> Holds w' F (B i) cs
theorem cut_at {gv : Nat} {m : Int} (hE : Enters P g) (hm : (gv, Value.int .i64 m) ∈ G) (hC : ∀ (s c : ByteArray) (w : World), s.size < 4294967281 -> w.cell? ⟨gv, 0, none⟩ = some (.int .i64 m) ->
   Calls P g #[.string s, .string c] w fun e w' => e = .returned (.tuple #[.string ⟨(Lib.cut s.data.toList c.data.toList).1.toArray⟩, .string ⟨(Lib.cut s.data.toList c.data.toList).2.1.toArray⟩, .bool (Lib.cut s.data.toList c.data.toList).2.2]) /\ ∃ n, w' = w.drewN n)
  (h : xCut args = some (r, exps)) : CallG P G g args r exps := by
 unfold xCut at h
 split at h
 ·rename_i s c
  split at h
  ·rename_i hc
   cases h
   intro w F B vals hgl hF hsz hrep hinj
   have hrep : ∀ (i : Nat) (x : SV), [SV.str s, SV.str c][i]? = some x -> Rep w F (vals.getD i undef) x := fun i x hx => by
    have := hrep i (.sv x) (by
     show ([SV.str s, SV.str c].map Arg.sv)[i]? = _
     rw [List.getElem?_map, hx]; rfl)
    exact this
   obtain ⟨v, rfl, hv⟩ := rep_str2 (by simpa using hsz) hrep
   rw [rep_str hv]
   refine .inl ⟨hE, (hC s c w hc.2 (gl_cell hgl hm)).mono ?_⟩
   rintro e w' ⟨rfl, n, rfl⟩
   refine ⟨_, rfl, ?_, ext_below (below_drewN (Below.refl _ _) n) (fun b => sv_imp (ss := [SV.str s, SV.str c])), fun i cs hi => ((none_exps (n := 2) i).2 cs hi).elim⟩
   refine .tup _ _ rfl fun i x hx => ?_
   match i, hx with
   | 0, hx => cases hx; exact .str _
   | 1, hx => cases hx; exact .str _
   | 2, hx => cases hx; exact .bool _
   | _ + 3, hx => simp at hx
  ·cases h
 ·cases h
def xFields (gw : FuncId) : List Arg -> Option (Ret × List (Option (List SV)))
 | [.sv (.str s), .sv (.fn g [])] => if Nat.beq g gw = true /\ s.size <= 4294967296 then some (.sv (.sl (Lib.goFieldsP (fun c => c == 32) s).length ((Lib.goFieldsP (fun c => c == 32) s).map SV.str)), List.replicate 2 none) else none
 | _ => none
theorem fields_at {gw : FuncId} {t : TypeId} (hE : Enters P g) (hC : ∀ (s : ByteArray) (w : World), s.size <= 4294967296 ->
   Calls P g #[.string s, .func (.func gw) #[] #[]] w fun e w' => ∃ A, e = .returned (.slice (some ⟨A, 0, none⟩) (Lib.goFieldsP (fun c => c == 32) s).length (Lib.goFieldsP (fun c => c == 32) s).length) /\ w.heap.size <= A /\
    w'.ownsRow w.heap.size t 1 (.slice (some ⟨A, 0, none⟩) (Lib.goFieldsP (fun c => c == 32) s).length (Lib.goFieldsP (fun c => c == 32) s).length) (Lib.goFieldsP (fun c => c == 32) s).length ((Lib.goFieldsP (fun c => c == 32) s).map Value.string) /\ Below w.heap.size w w')
  (h : xFields gw args = some (r, exps)) : CallAt P g args r exps := by
 unfold xFields at h
 split at h
 ·rename_i s f
  split at h
  ·rename_i hc
   cases h
   obtain ⟨hf, hs⟩ := hc
   have hf : f = gw := Nat.eq_of_beq_eq_true hf
   subst hf
   intro w F B vals hF hsz hrep hinj
   have hrep : ∀ (i : Nat) (x : SV), [SV.str s, SV.fn f []][i]? = some x -> Rep w F (vals.getD i undef) x := fun i x hx => by
    have := hrep i (.sv x) (by
     show ([SV.str s, SV.fn f []].map Arg.sv)[i]? = _
     rw [List.getElem?_map, hx]; rfl)
    exact this
   obtain ⟨v, rfl, hv⟩ := rep_str2 (by simpa using hsz) hrep
   have hv' : v = .func (.func f) #[] #[] := by
    cases hv with
    | fn _ vs _ hl _ =>
     have : vs = #[] := Array.eq_empty_of_size_eq_zero (by simpa using hl)
     rw [this]
   rw [hv']
   refine .inl ⟨hE, (hC s w hs).mono ?_⟩
   rintro e w' ⟨A, rfl, hA, hown, hb⟩
   refine ⟨_, rfl, ?_, ext_below hb (fun b => sv_imp (ss := [SV.str s, SV.fn f []])), fun i cs hi => ((none_exps (n := 2) i).2 cs hi).elim⟩
   refine .sl _ _ _ (Nat.le_refl _) _ (fun i => .string ((Lib.goFieldsP (fun c => c == 32) s).getD i default)) (fun hf => absurd (hF _ hf) (by simpa using hA)) (fun i x hx => ?_) (fun i x hx => ?_)
   ·rw [List.getElem?_map] at hx
    obtain ⟨y, hy, rfl⟩ := map_some hx
    have := hown.cells (g := A) rfl i (.string y) (by rw [List.getElem?_map, hy]; rfl)
    rw [this, List.getD_eq_getElem?_getD, hy]
    rfl
   ·rw [List.getElem?_map] at hx
    obtain ⟨y, hy, rfl⟩ := map_some hx
    rw [List.getD_eq_getElem?_getD, hy]
    exact .str _
  ·cases h
 ·cases h
end
theorem Fn.introAt {C : Cx} {f : FuncId} {fn : Func} {body : Code} {args : List SV} {r : SV} (hf : C.P.funcs[f]? = some fn) (hok : C.good f = true) (hb : fn.body = some body) (hX : C.X f (args.map Arg.sv) = none) (hl : args.length <= fn.ntmps)
  (h : WP C body (argSt (args.map Arg.sv)) (RQ C.P fn.results.toList r)) : Fn C f args r := by
 obtain ⟨n, e, st, he, hq⟩ := h
 refine ⟨n + 1, expOf st (args.map Arg.sv), ?_⟩
 have hm : exec C.P (callN C.P C.X C.mu C.good n) C.mu n body (argSt (args.map Arg.sv)) = some (e, st) := he
 unfold callN
 rw [stq_sv, hX]
 simp only [hf, hok, hb, if_true]
 rw [if_pos (by simpa using hl), hm]
 cases e with
 | exit i => exact hq.elim
 | goto i => exact hq.elim
 | normal => show Option.map _ (retOf C.P st fn.results.toList) = _; rw [show retOf C.P st fn.results.toList = some (.sv r) from hq]; rfl
 | ret => show Option.map _ (retOf C.P st fn.results.toList) = _; rw [show retOf C.P st fn.results.toList = some (.sv r) from hq]; rfl
end Go.Ev
namespace Go.Ev
open Go.RowKit
def insSt (st : St) (d g : Nat) (cs : List SV) : St :=
 {tmp := fun t => (st.tmp t).kill d g
  obj := fun d' g' => if d' = d /\ g' = g then some cs else st.obj d' g'
  gen := fun d' => st.gen d' + 1
  hob := fun d' g' => (st.hob d' g').map fun ts => ts.map fun t => t.kill d g
  up := fun t => (st.up t).kill d g }
def xIns : List Arg -> Option (Ret × List (Option (List SV)))
 | [.st false st [.ref d g 2 0 n, .sv (.int .i64 i), .ref d2 g2 2 0 1]] => match st.obj d g, st.obj d2 g2 with
  | some cs, some [.str b, .sl m l] => if d < N0 /\ ¬ (d2 = d /\ g2 = g) /\ cs.length = n * 2 /\ oneAll cs = true /\ 0 <= i /\ i.toNat <= n /\ n <= 100000 then
    some (.st (insSt st d g (cs.take (i.toNat * 2) ++ [.str b, .sl m l] ++ cs.drop (i.toNat * 2))) (.ref d g 2 0 (n + 1)), []) else none
  | _, _ => none
 | _ => none
def xDel : List Arg -> Option (Ret × List (Option (List SV)))
 | [.st false st [.ref d g 2 0 n, .sv (.int .i64 i), .sv (.int .i64 j)]] => match st.obj d g with
  | some cs => if d < N0 /\ cs.length = n * 2 /\ oneAll cs = true /\ 0 <= i /\ j = i + 1 /\ i.toNat < n /\ n <= 100000 then
    some (.st (insSt st d g (cs.take (i.toNat * 2) ++ cs.drop (i.toNat * 2 + 2))) (.ref d g 2 0 (n - 1)), []) else none
  | none => none
 | _ => none
def xOver : List Arg -> Option (Ret × List (Option (List SV)))
 | [.st false st [.ref d g 2 0 1, .rfc d' g' 2 off n c]] => if (st.obj d g).isSome = true /\ (st.obj d' g').isSome = true /\ ¬ (d = d' /\ g = g') /\ 0 < c then some (.st st (.sv (.bool false)), []) else none
 | _ => none
theorem insSt_upd {s : St} {l : Loc} {d g : Nat} {cs : List SV} {v : TV} : insSt (s.upd l v) d g cs = (insSt s d g cs).upd l (v.kill d g) := by
 cases l with
 | tmp t =>
  refine St.ext' (fun x => ?_) (fun _ _ => rfl) (fun _ => rfl) rfl rfl
  show TV.kill d g (if x = t then v else s.tmp x) = if x = t then v.kill d g else (s.tmp x).kill d g
  split <;> rfl
 | up t =>
  refine St.ext' (fun _ => rfl) (fun _ _ => rfl) (fun _ => rfl) rfl (funext fun x => ?_)
  show TV.kill d g (if x = t then v else s.up x) = if x = t then v.kill d g else (s.up x).kill d g
  split <;> rfl
theorem ins_eqv {b : Bool} {s : St} {vs : List TV} {r : Ret} {e : List (Option (List SV))} (h : xIns [.st b s vs] = some (r, e)) (l : Loc) : ∃ m : TV -> TV, ∀ v, xIns [.st b (s.upd l v) vs] = some (r.upd l (m v), e) := by
 unfold xIns at h
 split at h
 ·rename_i st d g n i d2 g2 hargs
  cases hargs
  split at h
  ·rename_i cs bb m l0 h1 h2
   split at h
   ·rename_i hc
    cases h
    refine ⟨fun v => v.kill d g, fun v => ?_⟩
    unfold xIns
    simp only [upd_obj, h1, h2]
    rw [if_pos hc, insSt_upd]
    rfl
   ·cases h
  ·cases h
 ·cases h
theorem del_eqv {b : Bool} {s : St} {vs : List TV} {r : Ret} {e : List (Option (List SV))} (h : xDel [.st b s vs] = some (r, e)) (l : Loc) : ∃ m : TV -> TV, ∀ v, xDel [.st b (s.upd l v) vs] = some (r.upd l (m v), e) := by
 unfold xDel at h
 split at h
 ·rename_i st d g n i j hargs
  cases hargs
  split at h
  ·rename_i cs h1
   split at h
   ·rename_i hc
    cases h
    refine ⟨fun v => v.kill d g, fun v => ?_⟩
    unfold xDel
    simp only [upd_obj, h1]
    rw [if_pos hc, insSt_upd]
    rfl
   ·cases h
  ·cases h
 ·cases h
theorem over_eqv {b : Bool} {s : St} {vs : List TV} {r : Ret} {e : List (Option (List SV))} (h : xOver [.st b s vs] = some (r, e)) (l : Loc) : ∃ m : TV -> TV, ∀ v, xOver [.st b (s.upd l v) vs] = some (r.upd l (m v), e) := by
 unfold xOver at h
 split at h
 ·rename_i st d g d' g' off n c hargs
  cases hargs
  split at h
  ·rename_i hc
   cases h
   refine ⟨id, fun v => ?_⟩
   unfold xOver
   simp only [upd_obj]
   rw [if_pos hc]
   rfl
  ·cases h
 ·cases h
section
variable {P : Program} {w0 w : World} {F I : Nat -> Prop} {Z : Zy} {N : Nat} {β : Nat -> Nat -> Nat} {st : St} {a : Act}
theorem over_in {P : Program} {g : FuncId} {fn : Func} {tS tR e : TypeId} {size : Nat} (hf : P.funcs[g]? = some fn) (hname : (fn.name == "runtime.NumGoroutine") = false) (hb : fn.body.isNone = true) (hn : Extern.findNext fn = none) (he : Extern.find fn = some (Extern.SlicesOverlaps.overlaps #[tS, tS] #[tR]))
  (hel : elm P tS = some (e, 2, size)) {k : Bool} {st : St} {vs : List TV} {r : Ret} {exps : List (Option (List SV))} (h : xOver [.st k st vs] = some (r, exps))
  (w0 : World) (F I : Nat -> Prop) (Z : Zy) (N : Nat) (β : Nat -> Nat -> Nat) (a : Act) (w : World) (vals : Array Value) (hrel : Rel w0 F I Z N β st a w) (hsz : vals.size = vs.length)
  (hv : ∀ (i : Nat) (v : TV), vs[i]? = some v -> RepT β w (Mut F β st) (vals.getD i undef) v /\ ∀ d g, v.id = some (d, g) -> g < st.gen d) :
  Invk P g vals w fun e w' => ∃ v, e = .returned v /\ InRet w0 F I Z N st a w' k v r := by
 unfold xOver at h
 split at h
 ·rename_i st1 d g1 d' g' off n c hargs
  cases hargs
  split at h
  ·rename_i hc
   cases h
   obtain ⟨ho, ho', hne, hn0⟩ := hc
   obtain ⟨cap, cs, ty, h1, h2, h3, h4⟩ := (hv 0 _ rfl).1
   obtain ⟨cs', ty', h1', h2', h3', h4'⟩ := (hv 1 _ rfl).1
   have hvals : vals = #[vals.getD 0 undef, vals.getD 1 undef] := by
    have : vals.size = 2 := hsz
    apply Array.ext
    ·simpa using this
    ·intro i hi1 hi2
     have hi : i < 2 := by simpa using hi2
     match i, hi with
     | 0, _ => simp [Array.getD_eq_getD_getElem?, hi1]
     | 1, _ => simp [Array.getD_eq_getD_getElem?, hi1]
   have hbne : β d g1 ≠ β d' g' := fun e => hne (hrel.inj _ _ _ _ ho ho' e)
   obtain ⟨hu, i, hi, his, hib⟩ := elm_parts hel
   have hk : cs'.size ≠ 0 := by omega
   refine .inr ⟨.bool false, ?_, .bool false, rfl, rfl, β, hrel, .bool _, fun d g e => by simp [TV.id] at e⟩
   rw [run_callFunc_extern hf hname hb hn he, hvals, h1, h1']
   rw [Lib.run_overlaps_apart w tS tR e hu 2 (fun w => by rw [<- his]; exact run_size hi w) ⟨β d g1, 0, none⟩ ⟨β d' g', off, none⟩ 1 cap n c hbne ty ty' cs.size cs'.size (by simp only [World.shape?, h3]) (by simp only [World.shape?, h3']) hk
    (by simp only [World.frozen?, h3]; simp) (by simp only [World.frozen?, h3]; simp)]
   rfl
  ·cases h
 ·cases h
theorem Rel.genUp (h : Rel w0 F I Z N β st a w) {gen' : Nat -> Nat} (hg : ∀ d, st.gen d <= gen' d) : Rel w0 F I Z N β { st with gen := gen' } a w where
 defers := h.defers
 size := h.size
 tmps := h.tmps
 ids := fun t d g hx => Nat.lt_of_lt_of_le (h.ids t d g hx) (hg d)
 objs := h.objs
 own := h.own
 room := h.room
 inj := h.inj
 gens := fun d g ho => Nat.lt_of_lt_of_le (h.gens d g ho) (hg d)
 ext := h.ext
 old := h.old
 imps := h.imps
 pin := h.pin
 ups := h.ups
 uids := fun t d g hx => Nat.lt_of_lt_of_le (h.uids t d g hx) (hg d)
 glob := h.glob
 hobs := fun d' g' ts hts => by
  obtain ⟨h1, h2, cs1, ty1, hb1, hall⟩ := h.hobs d' g' ts hts
  refine ⟨h1, h2, cs1, ty1, hb1, fun i x hx => ?_⟩
  obtain ⟨v, hv, ho, hr, hid⟩ := hall i x hx
  exact ⟨v, hv, ho, hr, fun d1 g1 e => Nat.lt_of_lt_of_le (hid d1 g1 e) (hg d1)⟩
theorem Rel.lessObj (h : Rel w0 F I Z N β st a w) {d g : Nat} {cs cs' : List SV} (hdN : d < N0) (ho : st.obj d g = some cs) (hp : ∀ (i : Nat) (s : SV), cs'[i]? = some s -> cs[i]? = some s) : Rel w0 F I Z N β (st.set d g cs') a w := by
 obtain ⟨us, ty, hb, hall⟩ := h.objs d g cs ho
 exact h.set ho hb hb rfl (fun b _ => rfl) rfl rfl rfl rfl (fun i s hs => hall i s (hp i s hs)) (.inl (h.no_hob (Nat.lt_trans hdN (by decide))))
theorem Rel.rename (h : Rel w0 F I Z N β st a w) {d g D G : Nat} {cs cs' : List SV} (hd : d < N0) (hD : D < N0) (hne : ¬ (d = D /\ g = G)) (ho : st.obj d g = some cs) (hO : st.obj D G = some cs')
  (hno : ∀ t d' g', (st.tmp t).id = some (d', g') -> ¬ (d' = d /\ g' = g) /\ ¬ (d' = D /\ g' = G)) (hnu : ∀ t d' g', (st.up t).id = some (d', g') -> ¬ (d' = d /\ g' = g) /\ ¬ (d' = D /\ g' = G))
  (hnh : ∀ (d1 g1 : Nat) (ts : List TV) (i : Nat) (x : TV) (d' g' : Nat), st.hob d1 g1 = some ts -> ts[i]? = some x -> x.id = some (d', g') -> ¬ (d' = d /\ g' = g) /\ ¬ (d' = D /\ g' = G)) :
  Rel w0 F I Z N (upd β d g (β D G)) { st with obj := fun d' g' => if d' = d /\ g' = g then some cs' else if d' = D /\ g' = G then none else st.obj d' g' } a w := by
 generalize hs : ({ st with obj := fun d' g' => if d' = d /\ g' = g then some cs' else if d' = D /\ g' = G then none else st.obj d' g' } : St) = s
 have etmp : s.tmp = st.tmp := by rw [<- hs]
 have eup : s.up = st.up := by rw [<- hs]
 have egen : s.gen = st.gen := by rw [<- hs]
 have ehob : s.hob = st.hob := by rw [<- hs]
 have eobj : ∀ d' g', s.obj d' g' = if d' = d /\ g' = g then some cs' else if d' = D /\ g' = G then none else st.obj d' g' := fun d' g' => by rw [<- hs]
 have hupd : ∀ d' g', ¬ (d' = d /\ g' = g) -> upd β d g (β D G) d' g' = β d' g' := fun d' g' he => if_neg he
 have hobj : ∀ d' g', (s.obj d' g').isSome = true -> (d' = d /\ g' = g) \/ ((st.obj d' g').isSome = true /\ ¬ (d' = d /\ g' = g) /\ ¬ (d' = D /\ g' = G)) := by
  intro d' g' h1
  rw [eobj] at h1
  by_cases he : d' = d /\ g' = g
  ·exact .inl he
  ·rw [if_neg he] at h1
   by_cases he2 : d' = D /\ g' = G
   ·rw [if_pos he2] at h1; cases h1
   ·rw [if_neg he2] at h1; exact .inr ⟨h1, he, he2⟩
 have hOs : (st.obj D G).isSome = true := by rw [hO]; rfl
 have hM : ∀ b, Mut F (upd β d g (β D G)) s b -> Mut F β st b := by
  rintro b (hf | ⟨d', g', h1, e⟩)
  ·exact .inl hf
  ·rcases hobj d' g' h1 with ⟨rfl, rfl⟩ | ⟨h1', he, _⟩
   ·rw [upd_self] at e; exact .inr ⟨D, G, hOs, e⟩
   ·rw [hupd _ _ he] at e; exact .inr ⟨d', g', h1', e⟩
 have hrep : ∀ {v : Value} {x : SV}, Rep w (Mut F β st) v x -> Rep w (Mut F (upd β d g (β D G)) s) v x := fun hr => Rep.mono (w := w) (fun _ _ _ => rfl) (fun b _ hm => hM b hm) hr
 have hT : ∀ {v : Value} {x : TV}, RepT β w (Mut F β st) v x -> (∀ d' g', x.id = some (d', g') -> ¬ (d' = d /\ g' = g) /\ ¬ (d' = D /\ g' = G)) -> RepT (upd β d g (β D G)) w (Mut F (upd β d g (β D G)) s) v x := by
  intro v x hold hids
  cases x with
  | sv s => exact hrep hold
  | nil => exact hold
  | undef => trivial
  | skip => exact hold
  | ptr d' g' off => show _ = _; rw [hupd d' g' (hids d' g' rfl).1]; exact hold
  | pst d' g' => show _ = _; rw [hupd d' g' (hids d' g' rfl).1]; exact hold
  | ref d' g' size off n =>
   obtain ⟨cap, cs', ty', h1, h2, h3, h4⟩ := hold
   rw [<- hupd d' g' (hids d' g' rfl).1] at h1 h3
   exact ⟨cap, cs', ty', h1, h2, h3, h4⟩
  | rfc d' g' size off n c =>
   obtain ⟨cs', ty', h1, h2, h3, h4⟩ := hold
   rw [<- hupd d' g' (hids d' g' rfl).1] at h1 h3
   exact ⟨cs', ty', h1, h2, h3, h4⟩
 exact {
  defers := h.defers
  size := h.size
  tmps := fun u => by rw [etmp]; exact hT (h.tmps u) (hno u)
  ids := fun u d' g' hx => by rw [egen]; rw [etmp] at hx; exact h.ids u d' g' hx
  objs := fun d' g' cells hc => by
   rw [eobj] at hc
   by_cases he : d' = d /\ g' = g
   ·rw [if_pos he] at hc
    obtain ⟨rfl, rfl⟩ := he
    cases hc
    obtain ⟨us, ty, hb, hall⟩ := h.objs D G cs' hO
    refine ⟨us, ty, by rw [upd_self]; exact hb, fun i s hs => ?_⟩
    obtain ⟨h1, u, hu, hr⟩ := hall i s hs
    exact ⟨h1, u, hu, hrep hr⟩
   ·rw [if_neg he] at hc
    by_cases he2 : d' = D /\ g' = G
    ·rw [if_pos he2] at hc; cases hc
    ·rw [if_neg he2] at hc
     obtain ⟨us, ty, hb, hall⟩ := h.objs d' g' cells hc
     refine ⟨us, ty, by rw [hupd _ _ he]; exact hb, fun i s hs => ?_⟩
     obtain ⟨h1, u, hu, hr⟩ := hall i s hs
     exact ⟨h1, u, hu, hrep hr⟩
  own := fun d' g' h1 => by
   rcases hobj d' g' h1 with ⟨rfl, rfl⟩ | ⟨h1', he, _⟩
   ·rw [upd_self]
    exact ⟨fun _ => (h.own D G hOs).1 (.inl hD), fun hn _ => absurd hd (by omega)⟩
   ·rw [hupd _ _ he]; exact h.own d' g' h1'
  room := h.room
  inj := fun d1 g1 d2 g2 h1 h2 e => by
   rcases hobj d1 g1 h1 with ⟨rfl, rfl⟩ | ⟨h1', he1, hq1⟩ <;> rcases hobj d2 g2 h2 with ⟨rfl, rfl⟩ | ⟨h2', he2, hq2⟩
   ·exact ⟨rfl, rfl⟩
   ·rw [upd_self, hupd _ _ he2] at e
    have := h.inj D G d2 g2 hOs h2' e
    exact (hq2 ⟨this.1.symm, this.2.symm⟩).elim
   ·rw [upd_self, hupd _ _ he1] at e
    exact (hq1 (h.inj d1 g1 D G h1' hOs e)).elim
   ·rw [hupd _ _ he1, hupd _ _ he2] at e
    exact h.inj d1 g1 d2 g2 h1' h2' e
  gens := fun d' g' h1 => by
   rw [egen]
   rcases hobj d' g' h1 with ⟨rfl, rfl⟩ | ⟨h1', _⟩
   ·exact h.gens d' g' (by rw [ho]; rfl)
   ·exact h.gens d' g' h1'
  ext := h.ext
  old := h.old
  imps := h.imps
  pin := fun d' g' hd' hd'' => (hupd d' g' (fun e => by omega)).trans (h.pin d' g' hd' hd'')
  ups := fun u => by rw [eup]; exact hT (h.ups u) (hnu u)
  uids := fun u d' g' hx => by rw [egen]; rw [eup] at hx; exact h.uids u d' g' hx
  glob := fun g v hg => hrep (h.glob g v hg)
  hobs := fun d' g' ts hts => by
   rw [ehob] at hts
   obtain ⟨h1, h2, cs1, ty1, hb1, hall⟩ := h.hobs d' g' ts hts
   have hH : N0 < H0 := by decide
   have hne1 : ¬ (d' = d /\ g' = g) := fun e => by omega
   have hne2 : ¬ (d' = D /\ g' = G) := fun e => by omega
   refine ⟨h1, by rw [eobj, if_neg hne1, if_neg hne2]; exact h2, cs1, ty1, by rw [hupd _ _ hne1]; exact hb1, fun i x hx => ?_⟩
   obtain ⟨v, hv, ho, hr, hid⟩ := hall i x hx
   exact ⟨v, hv, ho, hT hr (fun a1 a2 e => hnh d' g' ts i x a1 a2 hts hx e), fun a1 a2 e => by rw [egen]; exact hid a1 a2 e⟩ }
structure InsLeaves (st : St) (d g n : Nat) (cs : List SV) (s : St) (t : TV) : Prop where
 tmp : ∀ u, s.tmp u = st.tmp u
 up : ∀ u, s.up u = st.up u
 hob : ∀ d' g', s.hob d' g' = st.hob d' g'
 here : (∃ cs1, (∀ d' g', s.obj d' g' = if d' = d /\ g' = g then some cs1 else st.obj d' g') /\ (∀ (i : Nat) (x : SV), cs[i]? = some x -> cs1[i]? = some x) /\ (∀ d', s.gen d' = st.gen d') /\ t = .ref d g 2 0 n) \/
  ∃ D, D < N0 /\ (∀ d' g', s.obj d' g' = if d' = D /\ g' = st.gen D then some cs else st.obj d' g') /\ (∀ d', s.gen d' = if d' = D then st.gen D + 1 else st.gen d') /\ t = .ref D (st.gen D) 2 0 n
theorem st_eq {s s' : St} (h1 : ∀ u, s.tmp u = s'.tmp u) (h2 : ∀ d g, s.obj d g = s'.obj d g) (h3 : ∀ d, s.gen d = s'.gen d) (h4 : ∀ d g, s.hob d g = s'.hob d g) (h5 : ∀ u, s.up u = s'.up u) : s = s' := by
 obtain ⟨a1, a2, a3, a4, a5⟩ := s
 obtain ⟨b1, b2, b3, b4, b5⟩ := s'
 have e1 : a1 = b1 := funext h1
 have e2 : a2 = b2 := funext fun d => funext fun g => h2 d g
 have e3 : a3 = b3 := funext h3
 have e4 : a4 = b4 := funext fun d => funext fun g => h4 d g
 have e5 : a5 = b5 := funext h5
 subst e1 e2 e3 e4 e5
 rfl
theorem InsLeaves.ups {s : St} {vs : List TV} (h : ∀ u, s.up u = (st.enter vs).up u) : (∀ u, s.leave.tmp u = st.tmp u) /\ ∀ u, s.leave.up u = st.up u := by
 constructor
 ·intro u
  show s.up (2 * u) = _
  rw [h]
  show (if 2 * u % 2 = 0 then st.tmp (2 * u / 2) else st.up (2 * u / 2)) = _
  rw [if_pos (by omega), show 2 * u / 2 = u by omega]
 ·intro u
  show s.up (2 * u + 1) = _
  rw [h]
  show (if (2 * u + 1) % 2 = 0 then st.tmp ((2 * u + 1) / 2) else st.up ((2 * u + 1) / 2)) = _
  rw [if_neg (by omega), show (2 * u + 1) / 2 = u by omega]
theorem leaves_here {s : St} {vs : List TV} {d g n : Nat} {cs : List SV} (cs1 : List SV) {rs : List ResultVar} (hr : retI P s rs = some (.ref d g 2 0 n)) (h1 : ∀ u, s.up u = (st.enter vs).up u) (h2 : ∀ d' g', s.hob d' g' = st.hob d' g')
  (h3 : ∀ d' g', s.obj d' g' = if d' = d /\ g' = g then some cs1 else st.obj d' g') (h4 : ∀ d', s.gen d' = st.gen d') (hp : ∀ (i : Nat) (x : SV), cs[i]? = some x -> cs1[i]? = some x) : RZ P rs (InsLeaves st d g n cs) .ret s :=
 rz_ret hr ⟨(InsLeaves.ups h1).1, (InsLeaves.ups h1).2, h2, .inl ⟨cs1, h3, hp, h4, rfl⟩⟩ (frzR_ref hr)
theorem leaves_new {s : St} {vs : List TV} {d g n : Nat} {cs : List SV} (D : Nat) {rs : List ResultVar} (hr : retI P s rs = some (.ref D (st.gen D) 2 0 n)) (hD : D < N0) (h1 : ∀ u, s.up u = (st.enter vs).up u) (h2 : ∀ d' g', s.hob d' g' = st.hob d' g')
  (h3 : ∀ d' g', s.obj d' g' = if d' = D /\ g' = st.gen D then some cs else st.obj d' g') (h4 : ∀ d', s.gen d' = if d' = D then st.gen D + 1 else st.gen d') : RZ P rs (InsLeaves st d g n cs) .ret s :=
 rz_ret hr ⟨(InsLeaves.ups h1).1, (InsLeaves.ups h1).2, h2, .inr ⟨D, hD, h3, h4, rfl⟩⟩ (frzR_ref hr)
theorem InsLeaves.to {s : St} {t : TV} {d g n : Nat} {cs cs0 : List SV} (h : InsLeaves st d g n cs s t) {w1 : World} {β1 : Nat -> Nat -> Nat} {v : Value} (h0 : Rel w0 F I Z N β st a w) (hd : d < N0) (ho : st.obj d g = some cs0)
  (hr : Rel w0 F I Z N β1 s a w1) (ht : RepT β1 w1 (Mut F β1 s) v t) : ∃ β', Rel w0 F I Z N β' (insSt st d g cs) a w1 /\ RepT β' w1 (Mut F β' (insSt st d g cs)) v (.ref d g 2 0 n) /\ ∀ d' g', (TV.ref d g 2 0 n).id = some (d', g') -> g' < (insSt st d g cs).gen d' := by
 have hgen : ∀ d' g', (TV.ref d g 2 0 n).id = some (d', g') -> g' < (insSt st d g cs).gen d' := by
  intro d' g' e
  simp only [TV.id, Option.some.injEq, Prod.mk.injEq] at e
  obtain ⟨rfl, rfl⟩ := e
  exact Nat.lt_succ_of_lt (h0.gens _ _ (by rw [ho]; rfl))
 obtain ⟨etmp, eup, ehob, here⟩ := h
 rcases here with ⟨cs1, eobj, hpre, egen, rfl⟩ | ⟨D, hD, eobj, egen, rfl⟩
 ·have h1 := ((hr.kill d g).lessObj (cs := cs1) (cs' := cs) hd (by show s.obj d g = _; rw [eobj, if_pos ⟨rfl, rfl⟩]) hpre).genUp (gen' := fun d' => st.gen d' + 1) (fun d' => by show s.gen d' <= _; rw [egen]; exact Nat.le_succ _)
  have e : ({ (s.kill d g).set d g cs with gen := fun d' => st.gen d' + 1 } : St) = insSt st d g cs := by
   refine st_eq (fun u => ?_) (fun d' g' => ?_) (fun d' => rfl) (fun d' g' => ?_) (fun u => ?_)
   ·show (s.tmp u).kill d g = (st.tmp u).kill d g
    rw [etmp]
   ·show (if d' = d /\ g' = g then some cs else s.obj d' g') = (if d' = d /\ g' = g then some cs else st.obj d' g')
    by_cases he : d' = d /\ g' = g
    ·rw [if_pos he, if_pos he]
    ·rw [if_neg he, if_neg he, eobj, if_neg he]
   ·show (s.hob d' g').map _ = (st.hob d' g').map _
    rw [ehob]
   ·show (s.up u).kill d g = (st.up u).kill d g
    rw [eup]
  rw [e] at h1
  exact ⟨β1, h1, ht, hgen⟩
 ·have hos : (st.obj d g).isSome = true := by rw [ho]; rfl
  have hne : ¬ (d = D /\ g = st.gen D) := fun e => by
   have := h0.gens d g hos
   obtain ⟨rfl, e2⟩ := e
   omega
  have hko : (s.kill d g).obj d g = some cs0 := by
   show s.obj d g = _
   rw [eobj, if_neg hne]; exact ho
  have hkO : (s.kill d g).obj D (st.gen D) = some cs := by
   show s.obj D (st.gen D) = _
   rw [eobj, if_pos ⟨rfl, rfl⟩]
  have hid : ∀ {x : TV} {d' g' : Nat}, (∀ d' g', x.id = some (d', g') -> g' < st.gen d') -> (x.kill d g).id = some (d', g') -> ¬ (d' = d /\ g' = g) /\ ¬ (d' = D /\ g' = st.gen D) := by
   intro x d' g' hx hk
   obtain ⟨h1, h2⟩ := kill_id hk
   refine ⟨h2, fun e => ?_⟩
   have := hx d' g' h1
   obtain ⟨rfl, rfl⟩ := e
   exact absurd this (Nat.lt_irrefl _)
  have h1 := ((hr.kill d g).rename hd hD hne hko hkO (fun t d' g' e => hid (fun d1 g1 e1 => h0.ids t d1 g1 e1) (by rw [<- etmp]; exact e)) (fun t d' g' e => hid (fun d1 g1 e1 => h0.uids t d1 g1 e1) (by rw [<- eup]; exact e))
   (fun d1 g1 ts i x d' g' e1 e2 e3 => by
    have e1 : (s.hob d1 g1).map (fun ts => ts.map fun t => t.kill d g) = some ts := e1
    rw [ehob] at e1
    obtain ⟨ts0, hts0, rfl⟩ := map_some e1
    rw [List.getElem?_map] at e2
    obtain ⟨x0, hx0, rfl⟩ := map_some e2
    obtain ⟨_, _, cs9, ty9, _, hall⟩ := h0.hobs d1 g1 ts0 hts0
    obtain ⟨_, _, _, _, hidx⟩ := hall i x0 hx0
    exact hid hidx e3)).genUp (gen' := fun d' => st.gen d' + 1) (fun d' => by
     show s.gen d' <= _
     rw [egen]
     split
     ·rename_i e; rw [e]; exact Nat.le_refl _
     ·exact Nat.le_succ _)
  have hnone : st.obj D (st.gen D) = none := by
   cases e : st.obj D (st.gen D) with
   | none => rfl
   | some x => exact absurd (h0.gens D (st.gen D) (by rw [e]; rfl)) (Nat.lt_irrefl _)
  have e : ({ (s.kill d g) with obj := fun d' g' => if d' = d /\ g' = g then some cs else if d' = D /\ g' = st.gen D then none else (s.kill d g).obj d' g', gen := fun d' => st.gen d' + 1 } : St) = insSt st d g cs := by
   refine st_eq (fun u => ?_) (fun d' g' => ?_) (fun d' => rfl) (fun d' g' => ?_) (fun u => ?_)
   ·show (s.tmp u).kill d g = (st.tmp u).kill d g
    rw [etmp]
   ·show (if d' = d /\ g' = g then some cs else if d' = D /\ g' = st.gen D then none else s.obj d' g') = (if d' = d /\ g' = g then some cs else st.obj d' g')
    by_cases he : d' = d /\ g' = g
    ·rw [if_pos he, if_pos he]
    ·rw [if_neg he, if_neg he]
     by_cases he2 : d' = D /\ g' = st.gen D
     ·rw [if_pos he2]; obtain ⟨rfl, rfl⟩ := he2; exact hnone.symm
     ·rw [if_neg he2, eobj, if_neg he2]
   ·show (s.hob d' g').map _ = (st.hob d' g').map _
    rw [ehob]
   ·show (s.up u).kill d g = (st.up u).kill d g
    rw [eup]
  rw [e] at h1
  refine ⟨_, h1, ?_, hgen⟩
  obtain ⟨cap, cs', ty', a1, a2, a3, a4⟩ := ht
  exact ⟨cap, cs', ty', by rw [upd_self]; exact a1, a2, by rw [upd_self]; exact a3, a4⟩
theorem leaves_in {C : Cx} {G : List (Nat × Value)} (hZ : Z.gl = G) (hC : TabOk C.P G C.X) (hgood : Good C.P C.good) {f : FuncId} {d g n m : Nat} {vs : List TV} {cs cs0 : List SV}
  (hd : d < N0) (ho : st.obj d g = some cs0)
  (hw : ∀ c, n <= c -> ∃ k s t, callN C.P C.X C.mu C.good k f [.st false st (.rfc d g 2 0 n c :: vs)] = some (.st s t, []) /\ InsLeaves st d g m cs s t)
  {vals : Array Value} (hrel : Rel w0 F I Z N β st a w) (hsz : vals.size = vs.length + 1)
  (hv : ∀ (i : Nat) (v : TV), (TV.ref d g 2 0 n :: vs)[i]? = some v -> RepT β w (Mut F β st) (vals.getD i undef) v /\ ∀ d g, v.id = some (d, g) -> g < st.gen d) :
  Invk C.P f vals w fun e w' => ∃ v, e = .returned v /\ InRet w0 F I Z N st a w' false v (.st (insSt st d g cs) (.ref d g 2 0 m)) := by
 obtain ⟨⟨cap, us, ty, h1, h2, h3, h4⟩, hid⟩ := hv 0 _ rfl
 obtain ⟨k, s, t, hc, hl⟩ := hw cap h2
 refine ((callN_all hC hgood C.mu k).2.1 f false st _ _ _ hc w0 F I Z N β a w vals hZ hrel (by simpa using hsz) (fun i v hi => ?_)).mono ?_
 ·cases i with
  | zero =>
   simp only [List.getElem?_cons_zero, Option.some.injEq] at hi
   subst hi
   exact ⟨⟨us, ty, h1, h2, h3, h4⟩, fun d' g' e => hid d' g' e⟩
  | succ i => exact hv (i + 1) v hi
 ·rintro e w' ⟨v, rfl, _, β1, hr, ht, _⟩
  obtain ⟨β', a1, a2, a3⟩ := hl.to hrel hd ho hr ht
  exact ⟨v, rfl, rfl, β', a1, a2, a3⟩
end
end Go.Ev
namespace Go.Proofs.YtlojijllmadnoaaGreatDoor
open Go.Ev
noncomputable abbrev muF0 (f : Nat) : Bool := Nat.beq f 173
noncomputable abbrev muF1 (f : Nat) : Bool := Bool.rec (muF0 f) true (Nat.beq f 224)
noncomputable abbrev muF2 (f : Nat) : Bool := Bool.rec (muF1 f) true (Nat.beq f 211)
noncomputable abbrev muF3 (f : Nat) : Bool := Bool.rec (muF2 f) true (Nat.beq f 272)
noncomputable abbrev muF4 (f : Nat) : Bool := Bool.rec (muF3 f) true (Nat.beq f 271)
noncomputable abbrev muF5 (f : Nat) : Bool := Bool.rec (muF4 f) true (Nat.beq f 212)
noncomputable abbrev muF6 (f : Nat) : Bool := Bool.rec (muF5 f) true (Nat.beq f 225)
noncomputable abbrev muF7 (f : Nat) : Bool := Bool.rec (Bool.rec (muF6 f) true (Nat.beq f (1000000 + 131))) true (Nat.beq f 131)
noncomputable abbrev muF8 (f : Nat) : Bool := Bool.rec (Bool.rec (muF7 f) true (Nat.beq f (1000000 + 154))) true (Nat.beq f 154)
noncomputable abbrev muF9 (f : Nat) : Bool := Bool.rec (Bool.rec (muF8 f) true (Nat.beq f (1000000 + 70))) true (Nat.beq f 70)
noncomputable abbrev muF10 (f : Nat) : Bool := Bool.rec (Bool.rec (muF9 f) true (Nat.beq f (1000000 + 95))) true (Nat.beq f 95)
noncomputable abbrev muF11 (f : Nat) : Bool := Bool.rec (Bool.rec (muF10 f) true (Nat.beq f (1000000 + 115))) true (Nat.beq f 115)
noncomputable abbrev muF12 (f : Nat) : Bool := Bool.rec (Bool.rec (muF11 f) true (Nat.beq f (1000000 + 98))) true (Nat.beq f 98)
noncomputable abbrev muF13 (f : Nat) : Bool := Bool.rec (Bool.rec (muF12 f) true (Nat.beq f (1000000 + 102))) true (Nat.beq f 102)
noncomputable abbrev muF14 (f : Nat) : Bool := Bool.rec (Bool.rec (muF13 f) true (Nat.beq f (1000000 + 155))) true (Nat.beq f 155)
noncomputable abbrev muF15 (f : Nat) : Bool := Bool.rec (Bool.rec (muF14 f) true (Nat.beq f (1000000 + 185))) true (Nat.beq f 185)
noncomputable abbrev muF16 (f : Nat) : Bool := Bool.rec (Bool.rec (muF15 f) true (Nat.beq f (1000000 + 156))) true (Nat.beq f 156)
noncomputable abbrev muF17 (f : Nat) : Bool := muF16 f
noncomputable abbrev muF18 (f : Nat) : Bool := muF17 f
noncomputable abbrev muF19 (f : Nat) : Bool := muF18 f
noncomputable abbrev muF20 (f : Nat) : Bool := muF19 f
noncomputable abbrev muF21 (f : Nat) : Bool := muF20 f
noncomputable abbrev muF22 (f : Nat) : Bool := muF21 f
noncomputable abbrev muF23 (f : Nat) : Bool := muF22 f
noncomputable abbrev muF24 (f : Nat) : Bool := muF23 f
noncomputable abbrev muF25 (f : Nat) : Bool := Bool.rec (Bool.rec (muF24 f) true (Nat.beq f (1000000 + 255))) true (Nat.beq f 255)
noncomputable abbrev muF26 (f : Nat) : Bool := Bool.rec (Bool.rec (muF25 f) true (Nat.beq f (1000000 + 40))) true (Nat.beq f 40)
noncomputable abbrev muF27 (f : Nat) : Bool := Bool.rec (Bool.rec (muF26 f) true (Nat.beq f (1000000 + 68))) true (Nat.beq f 68)
noncomputable abbrev muF28 (f : Nat) : Bool := Bool.rec (Bool.rec (muF27 f) true (Nat.beq f (1000000 + 77))) true (Nat.beq f 77)
noncomputable abbrev muF29 (f : Nat) : Bool := Bool.rec (Bool.rec (muF28 f) true (Nat.beq f (1000000 + 113))) true (Nat.beq f 113)
noncomputable abbrev muF30 (f : Nat) : Bool := Bool.rec (Bool.rec (muF29 f) true (Nat.beq f (2000000 + 113))) true (Nat.beq f (2000000 + 95))
noncomputable abbrev muF31 (f : Nat) : Bool := Bool.rec (Bool.rec (muF30 f) true (Nat.beq f (2000000 + 137))) true (Nat.beq f 137)
noncomputable abbrev muF (f : Nat) : Bool := muF31 f
theorem muF_at0 : muF 173 = true := by kernel_rfl
attribute [go_sem] muF_at0
theorem muF_at1 : muF 224 = true := by kernel_rfl
attribute [go_sem] muF_at1
theorem muF_at2 : muF 211 = true := by kernel_rfl
attribute [go_sem] muF_at2
theorem muF_at3 : muF 272 = true := by kernel_rfl
attribute [go_sem] muF_at3
theorem muF_at4 : muF 271 = true := by kernel_rfl
attribute [go_sem] muF_at4
theorem muF_at5 : muF 212 = true := by kernel_rfl
attribute [go_sem] muF_at5
theorem muF_at6 : muF 225 = true := by kernel_rfl
attribute [go_sem] muF_at6
theorem muF_at7 : muF 131 = true := by kernel_rfl
theorem muF_in7 : muF (1000000 + 131) = true := by kernel_rfl
attribute [go_sem] muF_at7 muF_in7
theorem muF_at8 : muF 154 = true := by kernel_rfl
theorem muF_in8 : muF (1000000 + 154) = true := by kernel_rfl
attribute [go_sem] muF_at8 muF_in8
theorem muF_at9 : muF 70 = true := by kernel_rfl
theorem muF_in9 : muF (1000000 + 70) = true := by kernel_rfl
attribute [go_sem] muF_at9 muF_in9
theorem muF_at10 : muF 95 = true := by kernel_rfl
theorem muF_in10 : muF (1000000 + 95) = true := by kernel_rfl
attribute [go_sem] muF_at10 muF_in10
theorem muF_at11 : muF 115 = true := by kernel_rfl
theorem muF_in11 : muF (1000000 + 115) = true := by kernel_rfl
attribute [go_sem] muF_at11 muF_in11
theorem muF_at12 : muF 98 = true := by kernel_rfl
theorem muF_in12 : muF (1000000 + 98) = true := by kernel_rfl
attribute [go_sem] muF_at12 muF_in12
theorem muF_at13 : muF 102 = true := by kernel_rfl
theorem muF_in13 : muF (1000000 + 102) = true := by kernel_rfl
attribute [go_sem] muF_at13 muF_in13
theorem muF_at14 : muF 155 = true := by kernel_rfl
theorem muF_in14 : muF (1000000 + 155) = true := by kernel_rfl
attribute [go_sem] muF_at14 muF_in14
theorem muF_at15 : muF 185 = true := by kernel_rfl
theorem muF_in15 : muF (1000000 + 185) = true := by kernel_rfl
attribute [go_sem] muF_at15 muF_in15
theorem muF_at16 : muF 156 = true := by kernel_rfl
theorem muF_in16 : muF (1000000 + 156) = true := by kernel_rfl
attribute [go_sem] muF_at16 muF_in16
theorem muF_at25 : muF 255 = true := by kernel_rfl
theorem muF_in25 : muF (1000000 + 255) = true := by kernel_rfl
attribute [go_sem] muF_at25 muF_in25
theorem muF_at26 : muF 40 = true := by kernel_rfl
theorem muF_in26 : muF (1000000 + 40) = true := by kernel_rfl
attribute [go_sem] muF_at26 muF_in26
theorem muF_at27 : muF 68 = true := by kernel_rfl
theorem muF_in27 : muF (1000000 + 68) = true := by kernel_rfl
attribute [go_sem] muF_at27 muF_in27
theorem muF_at28 : muF 77 = true := by kernel_rfl
theorem muF_in28 : muF (1000000 + 77) = true := by kernel_rfl
attribute [go_sem] muF_at28 muF_in28
theorem muF_at29 : muF 113 = true := by kernel_rfl
theorem muF_in29 : muF (1000000 + 113) = true := by kernel_rfl
attribute [go_sem] muF_at29 muF_in29
theorem muF_at31 : muF 137 = true := by kernel_rfl
attribute [go_sem] muF_at31
def GMet (G : List (Nat × Value)) : Prop := ∃ m : Int, (2, Value.int .i64 m) ∈ G
noncomputable def xS : Callf := fun g args =>
 if Nat.beq g 247 then xIndex args else
 if Nat.beq g 336 then xCmp args else
 if Nat.beq g 358 then xCount args else
 if Nat.beq g 134 then xTrim args else
 if Nat.beq g 269 then xTrimLeft args else
 if Nat.beq g 69 then xJoin args else
 if Nat.beq g 135 then xAtoi args else
 if Nat.beq g 93 then xCut args else
 if Nat.beq g 64 then xFields 65 args else
 cloneX 122 g args
theorem xS_none (f : FuncId) (k : Bool) (st : St) (vs : List TV) : xS f [.st k st vs] = none := by
 have no : ∀ {c : Prop} [Decidable c] {a b : Option (Ret × List (Option (List SV)))}, a = none -> b = none -> (if c then a else b) = none := fun h1 h2 => by split <;> assumption
 unfold xS cloneX
 repeat (refine no rfl ?_)
 rfl
noncomputable def CB : Cx := { P := Tryz.prog, X := xS, mu := muF, good := good }
theorem CB_P : CB.P = Tryz.prog := _root_.id rfl
theorem CB_mu (f : Nat) : CB.mu f = muF f := _root_.id rfl
attribute [go_sem] CB_P CB_mu
noncomputable def xT : Callf := fun g args =>
 if Nat.beq g 315 then xGenSplit args else
 xS g args
noncomputable def CZ : Cx := { P := Tryz.prog, X := xT, mu := muF, good := good }
theorem CZ_P : CZ.P = Tryz.prog := _root_.id rfl
theorem CZ_mu (f : Nat) : CZ.mu f = muF f := _root_.id rfl
noncomputable def XL : Callf := fun g args => if Nat.beq g 171 then (match args with
  | [.sv s, .sv (.int .u64 (.ofNat k)), .sv (.int .i64 (.ofNat n))] => match decV s with
   | some xs => if k < 32 /\ xs.length <= n /\ n <= xs.length + 1 then some (.row ((limN n (wth xs * 2 ^ k)).map limb) 1 0 n, [none, none, none]) else none
   | none => none
  | _ => none) else
 if Nat.beq g 254 then xSplit args else
 if Nat.beq g 185 then xIns args else
 if Nat.beq g 156 then xDel args else
 CZ.X g args
noncomputable def CX : Cx := { CZ with X := XL }
theorem CX_P : CX.P = Tryz.prog := _root_.id rfl
theorem CX_mu (f : Nat) : CX.mu f = muF f := _root_.id rfl
attribute [go_sem] CZ_P CZ_mu CX_P CX_mu Nat.reduceBEq
end Go.Proofs.YtlojijllmadnoaaGreatDoor
namespace Go.Proofs
open Go.Shelf
def Tryz.lays156_ren : Go.Shelf.Ren := ⟨fun | 156 => 69 | 165 => 96 | 166 => 38 | 169 => 41 | 240 => 66 | 241 => 132 | 276 => 91 | 277 => 187 | n => n, fun | 31 => 69 | 9 => 9 | 3 => 3 | 4 => 4 | 0 => 0 | 20 => 20 | 72 => 65 | 76 => 73 | 70 => 62 | 37 => 63 | 75 => 72 | 127 => 100 | 164 => 114 | 5 => 5 | 80 => 77 | n => n, fun | n => n⟩
theorem Tryz.lays156 : Go.Proofs.Lays.n156 Tryz.prog Tryz.lays156_ren := {
 mixed := by kernel_rfl
 f156 := Tryz.func69.trans (congrArg some (by kernel_rfl))
 f165 := Tryz.func96.trans (congrArg some (by kernel_rfl))
 f166 := Tryz.func38.trans (congrArg some (by kernel_rfl))
 f169 := Tryz.func41.trans (congrArg some (by kernel_rfl))
 f240 := Tryz.func66.trans (congrArg some (by kernel_rfl))
 f241 := Tryz.func132.trans (congrArg some (by kernel_rfl))
 f276 := Tryz.func91.trans (congrArg some (by kernel_rfl))
 f277 := Tryz.func187.trans (congrArg some (by kernel_rfl))
 t0 := Tryz.underlying0
 a0 := Tryz.isAgg0
 z0 := Tryz.sizeOf0
 v0 := Tryz.zeroValue0
 t3 := Tryz.underlying3
 a3 := Tryz.isAgg3
 z3 := Tryz.sizeOf3
 v3 := Tryz.zeroValue3
 t4 := Tryz.underlying4
 a4 := Tryz.isAgg4
 z4 := Tryz.sizeOf4
 v4 := Tryz.zeroValue4
 t9 := Tryz.underlying9
 a9 := Tryz.isAgg9
 z9 := Tryz.sizeOf9
 v9 := Tryz.zeroValue9
 t20 := Tryz.underlying20
 a20 := Tryz.isAgg20
 z20 := Tryz.sizeOf20
 v20 := Tryz.zeroValue20
 t31 := Tryz.underlying69
 a31 := Tryz.isAgg69
 z31 := Tryz.sizeOf69
 v31 := Tryz.zeroValue69
 t37 := Tryz.underlying63
 a37 := Tryz.isAgg63
 z37 := Tryz.sizeOf63
 v37 := Tryz.zeroValue63
 t70 := Tryz.underlying62
 a70 := Tryz.isAgg62
 z70 := Tryz.sizeOf62
 v70 := Tryz.zeroValue62
 t72 := Tryz.underlying65
 a72 := Tryz.isAgg65
 z72 := Tryz.sizeOf65
 v72 := Tryz.zeroValue65
 t75 := Tryz.underlying72
 a75 := Tryz.isAgg72
 z75 := Tryz.sizeOf72
 v75 := Tryz.zeroValue72
 t76 := Tryz.underlying73
 a76 := Tryz.isAgg73
 z76 := Tryz.sizeOf73
 v76 := Tryz.zeroValue73
 t127 := Tryz.underlying100
 a127 := Tryz.isAgg100
 z127 := Tryz.sizeOf100
 v127 := Tryz.zeroValue100
 t164 := Tryz.underlying114
 a164 := Tryz.isAgg114
 z164 := Tryz.sizeOf114
 v164 := Tryz.zeroValue114 }
theorem Tryz.Builder_Extra_156 : Builder.Extra Tryz.prog Tryz.lays156_ren := {
 sizeBuilder := by kernel_rfl
 liesBuilder := by kernel_rfl
 t5 := Tryz.underlying5
 a5 := Tryz.isAgg5
 z5 := Tryz.sizeOf5
 v5 := Tryz.zeroValue5
 infoByte := by kernel_rfl
 cellsByte := by kernel_rfl
 sizeByte := by kernel_rfl
 neB5 := by decide }
def Tryz.lays160_ren : Go.Shelf.Ren := ⟨fun | 160 => 134 | 232 => 190 | 231 => 189 | 227 => 191 | 234 => 193 | 233 => 192 | 236 => 195 | 235 => 194 | 228 => 258 | 271 => 260 | 151 => 259 | 197 => 89 | 120 => 318 | 152 => 317 | 260 => 125 | 137 => 183 | 119 => 345 | 224 => 177 | 225 => 176 | 217 => 175 | 266 => 247 | n => n, fun | 9 => 9 | 4 => 4 | 3 => 3 | 5 => 5 | 117 => 217 | 116 => 216 | 0 => 0 | 124 => 220 | 21 => 21 | 105 => 108 | 46 => 83 | 119 => 201 | 139 => 204 | 138 => 203 | n => n, fun | 3 => 0 | 4 => 1 | n => n⟩
theorem Tryz.lays160 : Go.Proofs.Lays.n160 Tryz.prog Tryz.lays160_ren := {
 mixed := by kernel_rfl
 f119 := Tryz.func345.trans (congrArg some (by kernel_rfl))
 f120 := Tryz.func318.trans (congrArg some (by kernel_rfl))
 f137 := Tryz.func183.trans (congrArg some (by kernel_rfl))
 f151 := Tryz.func259.trans (congrArg some (by kernel_rfl))
 f152 := Tryz.func317.trans (congrArg some (by kernel_rfl))
 f160 := Tryz.func134.trans (congrArg some (by kernel_rfl))
 f197 := Tryz.func89.trans (congrArg some (by kernel_rfl))
 f217 := Tryz.func175.trans (congrArg some (by kernel_rfl))
 f224 := Tryz.func177.trans (congrArg some (by kernel_rfl))
 f225 := Tryz.func176.trans (congrArg some (by kernel_rfl))
 f227 := Tryz.func191.trans (congrArg some (by kernel_rfl))
 f228 := Tryz.func258.trans (congrArg some (by kernel_rfl))
 f231 := Tryz.func189.trans (congrArg some (by kernel_rfl))
 f232 := Tryz.func190.trans (congrArg some (by kernel_rfl))
 f233 := Tryz.func192.trans (congrArg some (by kernel_rfl))
 f234 := Tryz.func193.trans (congrArg some (by kernel_rfl))
 f235 := Tryz.func194.trans (congrArg some (by kernel_rfl))
 f236 := Tryz.func195.trans (congrArg some (by kernel_rfl))
 f260 := Tryz.func125.trans (congrArg some (by kernel_rfl))
 f266 := Tryz.func247.trans (congrArg some (by kernel_rfl))
 f271 := Tryz.func260.trans (congrArg some (by kernel_rfl))
 t0 := Tryz.underlying0
 a0 := Tryz.isAgg0
 z0 := Tryz.sizeOf0
 v0 := Tryz.zeroValue0
 t3 := Tryz.underlying3
 a3 := Tryz.isAgg3
 z3 := Tryz.sizeOf3
 v3 := Tryz.zeroValue3
 t4 := Tryz.underlying4
 a4 := Tryz.isAgg4
 z4 := Tryz.sizeOf4
 v4 := Tryz.zeroValue4
 t5 := Tryz.underlying5
 a5 := Tryz.isAgg5
 z5 := Tryz.sizeOf5
 v5 := Tryz.zeroValue5
 t9 := Tryz.underlying9
 a9 := Tryz.isAgg9
 z9 := Tryz.sizeOf9
 v9 := Tryz.zeroValue9
 t21 := Tryz.underlying21
 a21 := Tryz.isAgg21
 z21 := Tryz.sizeOf21
 v21 := Tryz.zeroValue21
 t46 := Tryz.underlying83
 a46 := Tryz.isAgg83
 z46 := Tryz.sizeOf83
 v46 := Tryz.zeroValue83
 t105 := Tryz.underlying108
 a105 := Tryz.isAgg108
 z105 := Tryz.sizeOf108
 v105 := Tryz.zeroValue108
 t116 := Tryz.underlying216
 a116 := Tryz.isAgg216
 z116 := Tryz.sizeOf216
 t117 := Tryz.underlying217
 a117 := Tryz.isAgg217
 z117 := Tryz.sizeOf217
 v117 := Tryz.zeroValue217
 t119 := Tryz.underlying201
 a119 := Tryz.isAgg201
 z119 := Tryz.sizeOf201
 t124 := Tryz.underlying220
 a124 := Tryz.isAgg220
 z124 := Tryz.sizeOf220
 v124 := Tryz.zeroValue220
 t138 := Tryz.underlying203
 a138 := Tryz.isAgg203
 z138 := Tryz.sizeOf203
 v138 := Tryz.zeroValue203
 t139 := Tryz.underlying204
 a139 := Tryz.isAgg204
 z139 := Tryz.sizeOf204
 v139 := Tryz.zeroValue204
 g3 := by kernel_rfl
 g4 := by kernel_rfl }
def Tryz.lays161_ren : Go.Shelf.Ren := ⟨fun | 161 => 269 | 231 => 189 | 227 => 191 | 233 => 192 | 235 => 194 | 228 => 258 | 197 => 89 | 151 => 259 | 260 => 125 | 152 => 317 | 137 => 183 | 119 => 345 | 224 => 177 | 225 => 176 | 217 => 175 | 266 => 247 | n => n, fun | 9 => 9 | 4 => 4 | 3 => 3 | 5 => 5 | 117 => 217 | 116 => 216 | 0 => 0 | 124 => 220 | 105 => 108 | 21 => 21 | 119 => 201 | 46 => 83 | 139 => 204 | 138 => 203 | n => n, fun | 3 => 0 | 4 => 1 | n => n⟩
theorem Tryz.lays161 : Go.Proofs.Lays.n161 Tryz.prog Tryz.lays161_ren := {
 mixed := by kernel_rfl
 f119 := Tryz.func345.trans (congrArg some (by kernel_rfl))
 f137 := Tryz.func183.trans (congrArg some (by kernel_rfl))
 f151 := Tryz.func259.trans (congrArg some (by kernel_rfl))
 f152 := Tryz.func317.trans (congrArg some (by kernel_rfl))
 f161 := Tryz.func269.trans (congrArg some (by kernel_rfl))
 f197 := Tryz.func89.trans (congrArg some (by kernel_rfl))
 f217 := Tryz.func175.trans (congrArg some (by kernel_rfl))
 f224 := Tryz.func177.trans (congrArg some (by kernel_rfl))
 f225 := Tryz.func176.trans (congrArg some (by kernel_rfl))
 f227 := Tryz.func191.trans (congrArg some (by kernel_rfl))
 f228 := Tryz.func258.trans (congrArg some (by kernel_rfl))
 f231 := Tryz.func189.trans (congrArg some (by kernel_rfl))
 f233 := Tryz.func192.trans (congrArg some (by kernel_rfl))
 f235 := Tryz.func194.trans (congrArg some (by kernel_rfl))
 f260 := Tryz.func125.trans (congrArg some (by kernel_rfl))
 f266 := Tryz.func247.trans (congrArg some (by kernel_rfl))
 t0 := Tryz.underlying0
 a0 := Tryz.isAgg0
 z0 := Tryz.sizeOf0
 v0 := Tryz.zeroValue0
 t3 := Tryz.underlying3
 a3 := Tryz.isAgg3
 z3 := Tryz.sizeOf3
 v3 := Tryz.zeroValue3
 t4 := Tryz.underlying4
 a4 := Tryz.isAgg4
 z4 := Tryz.sizeOf4
 v4 := Tryz.zeroValue4
 t5 := Tryz.underlying5
 a5 := Tryz.isAgg5
 z5 := Tryz.sizeOf5
 v5 := Tryz.zeroValue5
 t9 := Tryz.underlying9
 a9 := Tryz.isAgg9
 z9 := Tryz.sizeOf9
 v9 := Tryz.zeroValue9
 t21 := Tryz.underlying21
 a21 := Tryz.isAgg21
 z21 := Tryz.sizeOf21
 v21 := Tryz.zeroValue21
 t46 := Tryz.underlying83
 a46 := Tryz.isAgg83
 z46 := Tryz.sizeOf83
 v46 := Tryz.zeroValue83
 t105 := Tryz.underlying108
 a105 := Tryz.isAgg108
 z105 := Tryz.sizeOf108
 v105 := Tryz.zeroValue108
 t116 := Tryz.underlying216
 a116 := Tryz.isAgg216
 z116 := Tryz.sizeOf216
 t117 := Tryz.underlying217
 a117 := Tryz.isAgg217
 z117 := Tryz.sizeOf217
 v117 := Tryz.zeroValue217
 t119 := Tryz.underlying201
 a119 := Tryz.isAgg201
 z119 := Tryz.sizeOf201
 t124 := Tryz.underlying220
 a124 := Tryz.isAgg220
 z124 := Tryz.sizeOf220
 v124 := Tryz.zeroValue220
 t138 := Tryz.underlying203
 a138 := Tryz.isAgg203
 z138 := Tryz.sizeOf203
 v138 := Tryz.zeroValue203
 t139 := Tryz.underlying204
 a139 := Tryz.isAgg204
 z139 := Tryz.sizeOf204
 v139 := Tryz.zeroValue204
 g3 := by kernel_rfl
 g4 := by kernel_rfl }
def Tryz.lays172_ren : Go.Shelf.Ren := ⟨fun | 172 => 135 | 244 => 196 | 245 => 197 | 247 => 261 | 279 => 262 | 280 => 263 | 281 => 264 | 282 => 265 | 287 => 319 | 316 => 320 | 171 => 67 | 205 => 321 | 321 => 346 | 322 => 347 | 243 => 92 | 246 => 127 | 283 => 179 | 284 => 180 | 285 => 181 | 286 => 182 | 129 => 250 | 317 => 249 | 318 => 251 | 319 => 252 | 320 => 253 | 337 => 313 | 338 => 314 | n => n, fun | 9 => 9 | 3 => 3 | 75 => 72 | 76 => 73 | 4 => 4 | 5 => 5 | 167 => 262 | 37 => 63 | 0 => 0 | 85 => 263 | 2 => 2 | 168 => 265 | 53 => 50 | 175 => 294 | 46 => 83 | 210 => 297 | 127 => 100 | 145 => 320 | 143 => 318 | 21 => 21 | 171 => 206 | 173 => 209 | 212 => 254 | 51 => 55 | 20 => 20 | 213 => 255 | 232 => 313 | 233 => 314 | 80 => 77 | n => n, fun | 15 => 5 | 16 => 6 | 17 => 4 | 18 => 7 | 19 => 8 | n => n⟩
theorem Tryz.lays172 : Go.Proofs.Lays.n172 Tryz.prog Tryz.lays172_ren := {
 mixed := by kernel_rfl
 f129 := Tryz.func250.trans (congrArg some (by kernel_rfl))
 f171 := Tryz.func67.trans (congrArg some (by kernel_rfl))
 f172 := Tryz.func135.trans (congrArg some (by kernel_rfl))
 f205 := Tryz.func321.trans (congrArg some (by kernel_rfl))
 f243 := Tryz.func92.trans (congrArg some (by kernel_rfl))
 f244 := Tryz.func196.trans (congrArg some (by kernel_rfl))
 f245 := Tryz.func197.trans (congrArg some (by kernel_rfl))
 f246 := Tryz.func127.trans (congrArg some (by kernel_rfl))
 f247 := Tryz.func261.trans (congrArg some (by kernel_rfl))
 f279 := Tryz.func262.trans (congrArg some (by kernel_rfl))
 f280 := Tryz.func263.trans (congrArg some (by kernel_rfl))
 f281 := Tryz.func264.trans (congrArg some (by kernel_rfl))
 f282 := Tryz.func265.trans (congrArg some (by kernel_rfl))
 f283 := Tryz.func179.trans (congrArg some (by kernel_rfl))
 f284 := Tryz.func180.trans (congrArg some (by kernel_rfl))
 f285 := Tryz.func181.trans (congrArg some (by kernel_rfl))
 f286 := Tryz.func182.trans (congrArg some (by kernel_rfl))
 f287 := Tryz.func319.trans (congrArg some (by kernel_rfl))
 f316 := Tryz.func320.trans (congrArg some (by kernel_rfl))
 f317 := Tryz.func249.trans (congrArg some (by kernel_rfl))
 f318 := Tryz.func251.trans (congrArg some (by kernel_rfl))
 f319 := Tryz.func252.trans (congrArg some (by kernel_rfl))
 f320 := Tryz.func253.trans (congrArg some (by kernel_rfl))
 f321 := Tryz.func346.trans (congrArg some (by kernel_rfl))
 f322 := Tryz.func347.trans (congrArg some (by kernel_rfl))
 f337 := Tryz.func313.trans (congrArg some (by kernel_rfl))
 f338 := Tryz.func314.trans (congrArg some (by kernel_rfl))
 t0 := Tryz.underlying0
 a0 := Tryz.isAgg0
 z0 := Tryz.sizeOf0
 v0 := Tryz.zeroValue0
 t2 := Tryz.underlying2
 a2 := Tryz.isAgg2
 z2 := Tryz.sizeOf2
 v2 := Tryz.zeroValue2
 t3 := Tryz.underlying3
 a3 := Tryz.isAgg3
 z3 := Tryz.sizeOf3
 v3 := Tryz.zeroValue3
 t4 := Tryz.underlying4
 a4 := Tryz.isAgg4
 z4 := Tryz.sizeOf4
 v4 := Tryz.zeroValue4
 t5 := Tryz.underlying5
 a5 := Tryz.isAgg5
 z5 := Tryz.sizeOf5
 v5 := Tryz.zeroValue5
 t9 := Tryz.underlying9
 a9 := Tryz.isAgg9
 z9 := Tryz.sizeOf9
 v9 := Tryz.zeroValue9
 t20 := Tryz.underlying20
 a20 := Tryz.isAgg20
 z20 := Tryz.sizeOf20
 v20 := Tryz.zeroValue20
 t21 := Tryz.underlying21
 a21 := Tryz.isAgg21
 z21 := Tryz.sizeOf21
 v21 := Tryz.zeroValue21
 t37 := Tryz.underlying63
 a37 := Tryz.isAgg63
 z37 := Tryz.sizeOf63
 v37 := Tryz.zeroValue63
 t46 := Tryz.underlying83
 a46 := Tryz.isAgg83
 z46 := Tryz.sizeOf83
 v46 := Tryz.zeroValue83
 t51 := Tryz.underlying55
 a51 := Tryz.isAgg55
 z51 := Tryz.sizeOf55
 v51 := Tryz.zeroValue55
 t53 := Tryz.underlying50
 a53 := Tryz.isAgg50
 z53 := Tryz.sizeOf50
 v53 := Tryz.zeroValue50
 t75 := Tryz.underlying72
 a75 := Tryz.isAgg72
 z75 := Tryz.sizeOf72
 v75 := Tryz.zeroValue72
 t76 := Tryz.underlying73
 a76 := Tryz.isAgg73
 z76 := Tryz.sizeOf73
 v76 := Tryz.zeroValue73
 t85 := Tryz.underlying263
 a85 := Tryz.isAgg263
 z85 := Tryz.sizeOf263
 v85 := Tryz.zeroValue263
 t127 := Tryz.underlying100
 a127 := Tryz.isAgg100
 z127 := Tryz.sizeOf100
 v127 := Tryz.zeroValue100
 t143 := Tryz.underlying318
 a143 := Tryz.isAgg318
 z143 := Tryz.sizeOf318
 v143 := Tryz.zeroValue318
 t145 := Tryz.underlying320
 a145 := Tryz.isAgg320
 z145 := Tryz.sizeOf320
 v145 := Tryz.zeroValue320
 t167 := Tryz.underlying262
 a167 := Tryz.isAgg262
 z167 := Tryz.sizeOf262
 v167 := Tryz.zeroValue262
 t168 := Tryz.underlying265
 a168 := Tryz.isAgg265
 z168 := Tryz.sizeOf265
 v168 := Tryz.zeroValue265
 t171 := Tryz.underlying206
 a171 := Tryz.isAgg206
 z171 := Tryz.sizeOf206
 v171 := Tryz.zeroValue206
 t173 := Tryz.underlying209
 a173 := Tryz.isAgg209
 z173 := Tryz.sizeOf209
 v173 := Tryz.zeroValue209
 t175 := Tryz.underlying294
 a175 := Tryz.isAgg294
 z175 := Tryz.sizeOf294
 v175 := Tryz.zeroValue294
 t210 := Tryz.underlying297
 a210 := Tryz.isAgg297
 z210 := Tryz.sizeOf297
 v210 := Tryz.zeroValue297
 t212 := Tryz.underlying254
 a212 := Tryz.isAgg254
 z212 := Tryz.sizeOf254
 v212 := Tryz.zeroValue254
 t213 := Tryz.underlying255
 a213 := Tryz.isAgg255
 z213 := Tryz.sizeOf255
 t232 := Tryz.underlying313
 a232 := Tryz.isAgg313
 z232 := Tryz.sizeOf313
 v232 := Tryz.zeroValue313
 t233 := Tryz.underlying314
 a233 := Tryz.isAgg314
 z233 := Tryz.sizeOf314
 v233 := Tryz.zeroValue314
 g15 := by kernel_rfl
 g16 := by kernel_rfl
 g17 := by kernel_rfl
 g18 := by kernel_rfl
 g19 := by kernel_rfl }
def Tryz.lays145_ren : Go.Shelf.Ren := ⟨fun | 145 => 93 | 220 => 128 | 219 => 126 | 217 => 175 | 225 => 176 | 224 => 177 | 267 => 178 | 266 => 247 | 314 => 248 | n => n, fun | 9 => 9 | 4 => 4 | 59 => 116 | 3 => 3 | 5 => 5 | 46 => 83 | 146 => 160 | 51 => 55 | n => n, fun | 1 => 2 | n => n⟩
theorem Tryz.lays145 : Go.Proofs.Lays.n145 Tryz.prog Tryz.lays145_ren := {
 mixed := by kernel_rfl
 f145 := Tryz.func93.trans (congrArg some (by kernel_rfl))
 f217 := Tryz.func175.trans (congrArg some (by kernel_rfl))
 f219 := Tryz.func126.trans (congrArg some (by kernel_rfl))
 f220 := Tryz.func128.trans (congrArg some (by kernel_rfl))
 f224 := Tryz.func177.trans (congrArg some (by kernel_rfl))
 f225 := Tryz.func176.trans (congrArg some (by kernel_rfl))
 f266 := Tryz.func247.trans (congrArg some (by kernel_rfl))
 f267 := Tryz.func178.trans (congrArg some (by kernel_rfl))
 f314 := Tryz.func248.trans (congrArg some (by kernel_rfl))
 t3 := Tryz.underlying3
 a3 := Tryz.isAgg3
 z3 := Tryz.sizeOf3
 v3 := Tryz.zeroValue3
 t4 := Tryz.underlying4
 a4 := Tryz.isAgg4
 z4 := Tryz.sizeOf4
 v4 := Tryz.zeroValue4
 t5 := Tryz.underlying5
 a5 := Tryz.isAgg5
 z5 := Tryz.sizeOf5
 v5 := Tryz.zeroValue5
 t9 := Tryz.underlying9
 a9 := Tryz.isAgg9
 z9 := Tryz.sizeOf9
 v9 := Tryz.zeroValue9
 t46 := Tryz.underlying83
 a46 := Tryz.isAgg83
 z46 := Tryz.sizeOf83
 v46 := Tryz.zeroValue83
 t51 := Tryz.underlying55
 a51 := Tryz.isAgg55
 z51 := Tryz.sizeOf55
 v51 := Tryz.zeroValue55
 t59 := Tryz.underlying116
 a59 := Tryz.isAgg116
 z59 := Tryz.sizeOf116
 v59 := Tryz.zeroValue116
 t146 := Tryz.underlying160
 a146 := Tryz.isAgg160
 z146 := Tryz.sizeOf160
 v146 := Tryz.zeroValue160
 g1 := by kernel_rfl }
def Tryz.lays229_ren : Go.Shelf.Ren := ⟨fun | 229 => 64 | n => n, fun | 9 => 9 | 40 => 94 | 31 => 69 | 152 => 111 | 3 => 3 | 0 => 0 | 4 => 4 | 21 => 21 | 154 => 113 | n => n, fun | n => n⟩
theorem Tryz.lays229 : Go.Proofs.Lays.n229 Tryz.prog Tryz.lays229_ren := {
 mixed := by kernel_rfl
 f229 := Tryz.func64.trans (congrArg some (by kernel_rfl))
 t0 := Tryz.underlying0
 a0 := Tryz.isAgg0
 z0 := Tryz.sizeOf0
 v0 := Tryz.zeroValue0
 t3 := Tryz.underlying3
 a3 := Tryz.isAgg3
 z3 := Tryz.sizeOf3
 v3 := Tryz.zeroValue3
 t4 := Tryz.underlying4
 a4 := Tryz.isAgg4
 z4 := Tryz.sizeOf4
 v4 := Tryz.zeroValue4
 t9 := Tryz.underlying9
 a9 := Tryz.isAgg9
 z9 := Tryz.sizeOf9
 v9 := Tryz.zeroValue9
 t21 := Tryz.underlying21
 a21 := Tryz.isAgg21
 z21 := Tryz.sizeOf21
 v21 := Tryz.zeroValue21
 t31 := Tryz.underlying69
 a31 := Tryz.isAgg69
 z31 := Tryz.sizeOf69
 v31 := Tryz.zeroValue69
 t40 := Tryz.underlying94
 a40 := Tryz.isAgg94
 z40 := Tryz.sizeOf94
 v40 := Tryz.zeroValue94
 t152 := Tryz.underlying111
 a152 := Tryz.isAgg111
 z152 := Tryz.sizeOf111
 v152 := Tryz.zeroValue111
 t154 := Tryz.underlying113
 a154 := Tryz.isAgg113
 z154 := Tryz.sizeOf113
 v154 := Tryz.zeroValue113 }
end Go.Proofs
namespace Go.Proofs.YtlojijllmadnoaaGreatDoor
open Go.RowKit Go.Lib
theorem words1_pays (w : World) : PredAtRunes Tryz.prog 65 #[] (fun r => r == 32) w := fun W r _ _ => by
 unfold FnGives
 go_enter Tryz.func65, Tryz.ntmps65
 go_wp2
 go_ret
 have e : ((r : Int) == 32) = (r == 32) := by rw [Bool.eq_iff_iff]; simp only [beq_iff_eq]; omega
 exact ⟨by rw [<- e]; rfl, 0, rfl⟩
end Go.Proofs.YtlojijllmadnoaaGreatDoor
namespace Go.Proofs.YtlojijllmadnoaaGreatDoor
open Go.Ev Go.RowKit
noncomputable def C0 : Cx := { P := Tryz.prog, X := fun _ _ => none, mu := fun _ => false, good := fun _ => false }
theorem C0_P : C0.P = Tryz.prog := rfl
theorem clone_ok0 {G : List (Nat × Value)} : CallOk Tryz.prog G (cloneX 122) := by
 refine cloneX_ok (f := 122) (fn := Tryz.f122) (e := (55, 1, 4)) (by kernel_rfl) (by kernel_rfl) rfl (Nat.lt_of_lt_of_le (Nat.lt_succ_self 4) (Nat.le_of_ble_eq_true (by kernel_rfl))) (by kernel_rfl) fun n cs => ?_
 refine ⟨20, _, rfl, rfl, ⟨20, _, rfl, rfl⟩, fun h1 h2 h3 => ?_⟩
 have hC : ∀ m, CallAll Tryz.prog G (callN C0.P C0.X C0.mu C0.good m) := fun m => callN_all (tabOk_of (fun g args r exps h => by cases h) (fun _ _ _ _ => rfl)) (fun f fn h => by cases h) _ m
 suffices h : ∀ {c : Code} {st : St}, WP C0 c st (fun e s => e = .ret /\ retOf Tryz.prog s Tryz.f122.results.toList = some (.sv (.sl n cs))) -> ∃ call mu k st', CallAll Tryz.prog G call /\ exec Tryz.prog call mu k c st = some (.ret, st') /\ retOf Tryz.prog st' Tryz.f122.results.toList = some (.sv (.sl n cs)) by
  refine h ?_
  have hlen : (List.length cs : Nat) = n * 1 := by omega
  have h2' : cs.all SV.one = true := h2
  have h5 : (5 < N0) = True := by simp [N0]
  have hr : Tryz.f122.results.toList = [.tmp 2] := by kernel_rfl
  rcases Nat.eq_zero_or_pos n with rfl | hn
  ·have : cs = [] := List.eq_nil_of_length_eq_zero h1
   subst this
   simp only [go_sem, C0_P, h1, h2, h2', h3, h5, hr, elemsC, Nat.zero_le, Nat.mul_one, Nat.zero_mul, Nat.zero_add, retOf, resTV, outSV]
  ·have hn0 : ¬ n = 0 := by omega
   simp only [go_sem, C0_P, h1, h2, h2', h3, h5, hn0, hr, elemsC, Nat.zero_le, Nat.mul_one, Nat.zero_mul, Nat.zero_add, retOf, resTV, outSV]
   rw [List.take_of_length_le (by omega)]
 rintro c st ⟨m, e, s, he, rfl, hr⟩
 exact ⟨_, _, m, s, hC m, he, hr⟩
theorem xS_ok {G : List (Nat × Value)} (hG : GMet G) : CallOk Tryz.prog G xS := by
 intro g args r exps h
 unfold xS at h
 split at h
 ·rename_i hg
  rw [show g = 247 from Nat.eq_of_beq_eq_true hg]
  refine fun w F B vals _ => index_at (fn := Tryz.f247) (by kernel_rfl) (by kernel_rfl) (by kernel_rfl) (by kernel_rfl) (by kernel_rfl) h w F B vals
 split at h
 ·rename_i hg
  rw [show g = 336 from Nat.eq_of_beq_eq_true hg]
  refine fun w F B vals _ => cmp_at (fn := Tryz.f336) (by kernel_rfl) (by kernel_rfl) (by kernel_rfl) (by kernel_rfl) (by kernel_rfl) h w F B vals
 split at h
 ·rename_i hg
  rw [show g = 358 from Nat.eq_of_beq_eq_true hg]
  refine fun w F B vals _ => count_at (fn := Tryz.f358) (by kernel_rfl) (by kernel_rfl) (by kernel_rfl) (by kernel_rfl) (by kernel_rfl) h w F B vals
 split at h
 ·rename_i hg
  rw [show g = 134 from Nat.eq_of_beq_eq_true hg]
  refine fun w F B vals _ => trim_at (enters_of (fn := Tryz.f134) (c := (Tryz.f134).body.get!) (by kernel_rfl) (by kernel_rfl) (by kernel_rfl)) (fun s c w h1 h2 h3 => Any.strings_Trim_laid Tryz.lays160 (by kernel_rfl) s c w h1 h2 h3) h w F B vals
 split at h
 ·rename_i hg
  rw [show g = 269 from Nat.eq_of_beq_eq_true hg]
  refine fun w F B vals _ => trimLeft_at (enters_of (fn := Tryz.f269) (c := (Tryz.f269).body.get!) (by kernel_rfl) (by kernel_rfl) (by kernel_rfl)) (fun s c w h2 h3 => Any.strings_TrimLeft_laid Tryz.lays161 (by kernel_rfl) s c w h2 h3) h w F B vals
 split at h
 ·rename_i hg
  rw [show g = 69 from Nat.eq_of_beq_eq_true hg]
  refine fun w F B vals _ => join_at (enters_of (fn := Tryz.f69) (c := (Tryz.f69).body.get!) (by kernel_rfl) (by kernel_rfl) (by kernel_rfl)) (fun a c sep w => Any.strings_Join_none Tryz.lays156 Tryz.Builder_Extra_156 a c sep w) (fun bk o c xs sep w h1 h2 h3 h4 h5 => Any.strings_Join Tryz.lays156 Tryz.Builder_Extra_156 bk o c xs sep w h1 h2 h3 h4 h5) h w F B vals
 split at h
 ·rename_i hg
  rw [show g = 135 from Nat.eq_of_beq_eq_true hg]
  refine fun w F B vals _ => atoi_at (enters_of (fn := Tryz.f135) (c := (Tryz.f135).body.get!) (by kernel_rfl) (by kernel_rfl) (by kernel_rfl)) (fun s v w h1 h2 => (Any.strconv_Atoi Tryz.lays172 s v h1 h2 w).mono (by rintro e w' ⟨h3, t, rfl⟩; exact ⟨h3, ⟨rfl, rfl, rfl, by rw [Lib.bytesWorld_size]; omega, fun k hk => Lib.bytesWorld_at_old w _ t k hk⟩⟩)) h w F B vals
 split at h
 ·rename_i hg
  rw [show g = 93 from Nat.eq_of_beq_eq_true hg]
  obtain ⟨m, hm⟩ := hG
  exact cut_at (enters_of (fn := Tryz.f93) (c := (Tryz.f93).body.get!) (by kernel_rfl) (by kernel_rfl) (by kernel_rfl)) hm (fun s c w h1 h2 => Any.strings_Cut Tryz.lays145 s c m w h1 h2) h
 split at h
 ·rename_i hg
  rw [show g = 64 from Nat.eq_of_beq_eq_true hg]
  refine fun w F B vals _ => fields_at (enters_of (fn := Tryz.f64) (c := (Tryz.f64).body.get!) (by kernel_rfl) (by kernel_rfl) (by kernel_rfl)) (fun s w h1 => Any.strings_FieldsFunc_runes Tryz.lays229 65 #[] (enters_of (fn := Tryz.f65) (c := (Tryz.f65).body.get!) (by kernel_rfl) (by kernel_rfl) (by kernel_rfl)) (fun c => c == 32) s w h1 (words1_pays w) (by kernel_rfl) (by kernel_rfl)) h w F B vals
 exact clone_ok0 g args r exps h
end Go.Proofs.YtlojijllmadnoaaGreatDoor
namespace Go.Proofs.YtlojijllmadnoaaGreatDoor
open Go.Ev
theorem nat_Is (xs : List Nat) (hl : xs.length <= 1099511627776) : Go.Ev.Fn CX 81 [natV xs] (.bool (isT xs)) := by
 refine fni Tryz.f81 ?_; unfold Tryz.f81; simp only [Option.get!_some]
 by_cases h0 : xs.length = 0
 ·have e : isT xs = true := by simp [isT, h0]
  rw [e]
  repeat (first|simp only [go_sem]|simp (disch := first|exact oa|fail) only [AX]|refine wki ?_|refine wqn ?_|refine vpx [] ?_)
 ·have e : isT xs = (xs.getD (xs.length - 1) 0 != 0) := by simp [isT, h0]
  rw [e]
  repeat (first|simp only [go_sem]|simp (disch := first|exact oa|fail) only [AX]|refine wki ?_|refine wqn ?_|refine vpx [] ?_)
  rw [bne_nat]
theorem lim_dropLast {xs : List Nat} (h : isT xs = false) : xs.length ≠ 0 /\ lim (wth (xs.take (xs.length - 1))) = lim (wth xs) := by
 unfold isT at h
 simp only [Bool.or_eq_false_iff, beq_eq_false_iff_ne, bne_eq_false_iff_eq] at h
 refine ⟨h.1, ?_⟩
 rcases xs.eq_nil_or_concat with rfl | ⟨ys, z, rfl⟩
 ·rfl
 ·rw [List.concat_eq_append] at h ⊢
  have e : z = 0 := by simpa using h.2
  subst e
  simp [lim_snoc0]
theorem nat_trim (xs : List Nat) (hx : okL xs) (hl : xs.length <= 1099511627776) : Go.Ev.Fn CX 53 [natV xs] (natV (lim (wth xs))) := by
 refine fni Tryz.f53 ?_; unfold Tryz.f53; simp only [Option.get!_some]
 simp only [go_sem]
 refine vp_loop_inv (fun s => ∃ ys, s.tmp 0 = .sv (natV ys) /\ okL ys /\ ys.length <= xs.length /\ lim (wth ys) = lim (wth xs)) (fun s => (lenTV (s.tmp 0)).getD 0) ⟨xs, rfl, hx, Nat.le_refl _, rfl⟩ ?_
 rintro s ⟨ys, h0, hy, hle, he⟩
 repeat (first|simp only [go_sem, h0]|simp (disch := first|exact oa|fail) only [AX, h0]|refine wki ?_|refine wqn ?_|refine vpx [] ?_)
 refine vf_of (nat_Is ys (by omega)) ?_; simp only [go_sem, h0]
 by_cases hT : isT ys = true
 ·repeat (first|simp only [go_sem, h0, hT, Bool.not_true]|simp (disch := first|exact oa|fail) only [AX, h0, hT, Bool.not_true]|refine wki ?_|refine wqn ?_|refine vpx [] ?_)
  rw [<- he, <- lim_unique hy (isT_iff.1 hT)]
 ·have hT : isT ys = false := by simpa using hT
  obtain ⟨h1, h2⟩ := lim_dropLast hT
  repeat (first|simp only [go_sem, h0, hT, Bool.not_false]|simp (disch := first|exact oa|fail) only [AX, h0, hT, Bool.not_false]|refine wki ?_|refine wqn ?_|refine vpx [] ?_)
  refine ⟨⟨ys.take (ys.length - 1), ?_, okL_take hy _, ?_, h2.trans he⟩, ?_⟩
  ·rw [natV_cut (by omega)]
  ·rw [List.length_take]; omega
  ·simp only [lenTV, Option.getD_some]; omega
theorem nat_Trim (xs : List Nat) (hx : okL xs) (hl : xs.length <= 274877906944) : Go.Ev.Fn CX 82 [natV xs] (natV (lim (wth xs))) := by
 have hc : Go.Ev.Fn CX 122 [natV (lim (wth xs))] (natV (lim (wth xs))) := by
  refine ⟨1, [none], ?_⟩
  have h1 := lim_length_le hx
  have h2 := natV_one (lim (wth xs))
  have h3 : cloneX 122 122 [.sv (natV (lim (wth xs)))] = some (.sv (natV (lim (wth xs))), [none]) := by
   simp only [cloneX, if_true]
   rw [if_pos ⟨natV_len _, h2, by omega⟩]
  have h4 : CX.X 122 [.sv (natV (lim (wth xs)))] = some (.sv (natV (lim (wth xs))), [none]) := h3
  unfold callN
  rw [stq_sv, List.map_cons, List.map_nil, h4]
 refine fni Tryz.f82 ?_; unfold Tryz.f82; simp only [Option.get!_some]
 simp only [go_sem]
 refine vf_of (nat_trim xs hx (by omega)) ?_; simp only [go_sem]
 refine vf_of (hc) ?_; simp only [go_sem]
theorem nat_Of (n : Nat) (hn : n < 18446744073709551616) : Go.Ev.Fn CX 25 [.int .u64 n] (natV (lim n)) := by
 refine fni Tryz.f25 ?_; unfold Tryz.f25; simp only [Option.get!_some]
 repeat (first|simp only [go_sem]|simp (disch := first|exact oa|fail) only [AX]|refine wki ?_|refine wqn ?_|refine vpx [] ?_)
 have e : wth [n % 4294967296, n / 4294967296] = n := by simp only [wth]; omega
 refine vf_of (nat_trim [n % 4294967296, n / 4294967296] (by simp [okL]; omega) (by simp)) ?_; repeat (first|simp only [go_sem]|simp (disch := first|exact oa|fail) only [AX]|refine wki ?_|refine wqn ?_|refine vpx [] ?_)
 rw [e]
end Go.Proofs.YtlojijllmadnoaaGreatDoor
namespace Go.Proofs.YtlojijllmadnoaaGreatDoor
open Go.Ev
def cmpN (a b : Nat) : Int := if a < b then -1 else if a = b then 0 else 1
theorem wth_lt_of {xs ys : List Nat} (hx : okL xs) (hy : okL ys) (hl : xs.length = ys.length) {i : Nat} (hi : i < xs.length) (hd : xs.drop (i + 1) = ys.drop (i + 1)) (h : xs.getD i 0 < ys.getD i 0) : wth xs < wth ys := by
 have h1 : ∀ (zs : List Nat), i < zs.length -> wth zs = wth (zs.take i) + 4294967296 ^ i * (zs.getD i 0 + 4294967296 * wth (zs.drop (i + 1))) := by
  intro zs hz
  conv => lhs; rw [<- List.take_append_drop i zs]
  rw [wth_append, List.length_take, Nat.min_eq_left (by omega), List.drop_eq_getElem_cons hz, wth_cons, List.getD_eq_getElem?_getD, List.getElem?_eq_getElem hz]
  rfl
 rw [h1 xs hi, h1 ys (by omega), hd]
 have h2 := wth_lt (okL_take hx i)
 rw [List.length_take, Nat.min_eq_left (by omega)] at h2
 have h3 : 4294967296 ^ i * (xs.getD i 0 + 4294967296 * wth (ys.drop (i + 1)) + 1) <= 4294967296 ^ i * (ys.getD i 0 + 4294967296 * wth (ys.drop (i + 1))) := Nat.mul_le_mul_left _ (by omega)
 rw [Nat.mul_add _ _ 1, Nat.mul_one] at h3
 omega
theorem lim_length_lt {a b : Nat} (h : (lim a).length < (lim b).length) : a < b := by
 rcases Nat.lt_or_ge a b with h1 | h1
 ·exact h1
 ·have := trimL_length (okL_lim b) (okL_lim a) (trimL_lim b) (by rw [wth_lim, wth_lim]; exact h1)
  omega
theorem nat_Cmp (xs ys : List Nat) (hx : okL xs) (hy : okL ys) (hl : xs.length <= 1099511627776) (hm : ys.length <= 1099511627776) : Go.Ev.Fn CX 120 [natV xs, natV ys] (.int .i64 (cmpN (wth xs) (wth ys))) := by
 refine fni Tryz.f120 ?_; unfold Tryz.f120; simp only [Option.get!_some]
 have lx := lim_length_le hx
 have ly := lim_length_le hy
 repeat (first|simp only [go_sem]|simp (disch := first|exact oa|fail) only [AX]|refine wki ?_|refine wqn ?_|refine vpx [] ?_)
 refine vf_of (nat_trim xs hx (by omega)) ?_; repeat (first|simp only [go_sem]|simp (disch := first|exact oa|fail) only [AX]|refine wki ?_|refine wqn ?_|refine vpx [] ?_)
 refine vf_of (nat_trim ys hy (by omega)) ?_; repeat (first|simp only [go_sem]|simp (disch := first|exact oa|fail) only [AX]|refine wki ?_|refine wqn ?_|refine vpx [] ?_)
 by_cases h1 : (lim (wth xs)).length = (lim (wth ys)).length
 ·repeat (first|simp only [go_sem]|simp (disch := first|exact oa|fail) only [AX]|refine wki ?_|refine wqn ?_)
  refine vp_loop_inv (fun s => s.tmp 0 = .sv (natV (lim (wth xs))) /\ s.tmp 1 = .sv (natV (lim (wth ys))) /\ ∃ i : Nat, s.tmp 5 = .sv (.int .i64 ((i : Int) - 1)) /\ i <= (lim (wth xs)).length /\ (lim (wth xs)).drop i = (lim (wth ys)).drop i)
   (fun s => match s.tmp 5 with | .sv (.int _ i) => (i + 1).toNat | _ => 0) ⟨rfl, rfl, (lim (wth xs)).length, rfl, Nat.le_refl _, ?_⟩ ?_
  ·rw [List.drop_length, h1, List.drop_length]
  rintro s ⟨g0, g1, i, g5, hi, hd⟩
  rcases Nat.eq_zero_or_pos i with rfl | hi0
  ·have e : cmpN (wth xs) (wth ys) = 0 := by
    have := congrArg wth hd
    rw [List.drop_zero, List.drop_zero, wth_lim, wth_lim] at this
    rw [this]
    simp [cmpN]
   rw [e]
   repeat (first|simp only [go_sem, g0, g1, g5]|simp (disch := first|exact oa|fail) only [AX, g0, g1, g5]|refine wki ?_|refine wqn ?_|refine vpx [] ?_)
  ·repeat (first|simp only [go_sem, g0, g1, g5]|simp (disch := first|exact oa|fail) only [AX, g0, g1, g5]|refine wki ?_|refine wqn ?_|refine vpx [] ?_)
   have hdr : ∀ zs : List Nat, i <= zs.length -> zs.drop (i - 1) = zs.getD (i - 1) 0 :: zs.drop i := by
    intro zs hz
    rw [List.drop_eq_getElem_cons (show i - 1 < zs.length by omega), List.getD_eq_getElem?_getD, List.getElem?_eq_getElem (show i - 1 < zs.length by omega), show i - 1 + 1 = i by omega]
    rfl
   rcases Nat.lt_trichotomy ((lim (wth xs)).getD (i - 1) 0) ((lim (wth ys)).getD (i - 1) 0) with hc | hc | hc
   ·have := wth_lt_of (okL_lim _) (okL_lim _) h1 (i := i - 1) (by omega) (by rw [show i - 1 + 1 = i by omega]; exact hd) hc
    rw [wth_lim, wth_lim] at this
    have e : cmpN (wth xs) (wth ys) = -1 := by simp [cmpN, this]
    rw [e]
    repeat (first|simp only [go_sem, g0, g1, g5]|simp (disch := first|exact oa|fail) only [AX, g0, g1, g5]|refine wki ?_|refine wqn ?_|refine vpx [] ?_)
   ·repeat (first|simp only [go_sem, g0, g1, g5]|simp (disch := first|exact oa|fail) only [AX, g0, g1, g5]|refine wki ?_|refine wqn ?_|refine vpx [] ?_)
    refine ⟨⟨i - 1, ?_, by omega, ?_⟩, by omega⟩
    ·simp only [Int.natCast_sub hi0]
    ·rw [hdr _ hi, hdr _ (by omega), hc, hd]
   ·have := wth_lt_of (okL_lim _) (okL_lim _) h1.symm (i := i - 1) (by omega) (by rw [show i - 1 + 1 = i by omega]; exact hd.symm) hc
    rw [wth_lim, wth_lim] at this
    have e : cmpN (wth xs) (wth ys) = 1 := by unfold cmpN; rw [if_neg (by omega), if_neg (by omega)]
    rw [e]
    repeat (first|simp only [go_sem, g0, g1, g5]|simp (disch := first|exact oa|fail) only [AX, g0, g1, g5]|refine wki ?_|refine wqn ?_|refine vpx [] ?_)
 ·by_cases h2 : (lim (wth xs)).length < (lim (wth ys)).length
  ·have := lim_length_lt h2
   have e : cmpN (wth xs) (wth ys) = -1 := by simp [cmpN, this]
   rw [e]
   repeat (first|simp only [go_sem]|simp (disch := first|exact oa|fail) only [AX]|refine wki ?_|refine wqn ?_|refine vpx [] ?_)
  ·have := lim_length_lt (a := wth ys) (b := wth xs) (by omega)
   have e : cmpN (wth xs) (wth ys) = 1 := by unfold cmpN; rw [if_neg (by omega), if_neg (by omega)]
   rw [e]
   repeat (first|simp only [go_sem]|simp (disch := first|exact oa|fail) only [AX]|refine wki ?_|refine wqn ?_|refine vpx [] ?_)
end Go.Proofs.YtlojijllmadnoaaGreatDoor
namespace Go.Proofs.YtlojijllmadnoaaGreatDoor
open Go.Ev
theorem nat_Add (xs ys : List Nat) (hx : okL xs) (hy : okL ys) (hl : xs.length <= 1073741824) (hm : ys.length <= 1073741824) : Go.Ev.Fn CX 54 [natV xs, natV ys] (natV (lim (wth xs + wth ys))) := by
 refine fni Tryz.f54 ?_; unfold Tryz.f54; simp only [Option.get!_some]
 have lx := lim_length_le hx
 have ly := lim_length_le hy
 repeat (first|simp only [go_sem]|simp (disch := first|exact oa|fail) only [AX]|refine wki ?_|refine wqn ?_|refine vpx [] ?_)
 refine vf_of (nat_trim xs hx (by omega)) ?_; repeat (first|simp only [go_sem]|simp (disch := first|exact oa|fail) only [AX]|refine wki ?_|refine wqn ?_|refine vpx [] ?_)
 refine vf_of (nat_trim ys hy (by omega)) ?_; repeat (first|simp only [go_sem]|simp (disch := first|exact oa|fail) only [AX]|refine wki ?_|refine wqn ?_|refine vpx [] ?_)
 refine vc_cut (Mid := fun s => ∃ a b, s.tmp 0 = .sv (natV a) /\ s.tmp 1 = .sv (natV b) /\ okL a /\ okL b /\ b.length <= a.length /\ a.length <= 1073741824 /\ wth a + wth b = wth xs + wth ys) ?_ ?_
 ·by_cases h1 : (lim (wth xs)).length < (lim (wth ys)).length
  ·repeat (first|simp only [go_sem]|simp (disch := first|exact oa|fail) only [AX]|refine wki ?_|refine wqn ?_|refine vpx [] ?_)
   exact ⟨_, _, rfl, rfl, okL_lim _, okL_lim _, by omega, by omega, by rw [wth_lim, wth_lim]; omega⟩
  ·repeat (first|simp only [go_sem]|simp (disch := first|exact oa|fail) only [AX]|refine wki ?_|refine wqn ?_|refine vpx [] ?_)
   exact ⟨_, _, rfl, rfl, okL_lim _, okL_lim _, by omega, by omega, by rw [wth_lim, wth_lim]⟩
 rintro s ⟨a, b, g0, g1, ha, hb, hab, hla, hsum⟩
 repeat (first|simp only [go_sem, g0, g1]|simp (disch := first|exact oa|fail) only [AX, g0, g1]|refine wki ?_|refine wqn ?_)
 generalize hg : s.gen 23 = g
 refine vp_loop_inv (fun s' => s'.tmp 0 = .sv (natV a) /\ s'.tmp 1 = .sv (natV b) /\ s'.tmp 5 = .ref 23 g 1 0 (a.length + 1) /\ s'.tmp 24 = .sv (natV a) /\ s'.tmp 25 = .sv (.int .i64 a.length) /\
   ∃ c : List Nat, ∃ i carry : Nat, s'.obj 23 g = some (c.map limb) /\ s'.tmp 6 = .sv (.int .u64 carry) /\ s'.tmp 26 = .sv (.int .i64 i) /\ c.length = a.length + 1 /\ okL c /\ i <= a.length /\ carry <= 1 /\
    wth (c.take i) + 4294967296 ^ i * carry = wth (a.take i) + wth (b.take i))
  (fun s => match s.tmp 26 with | .sv (.int _ i) => a.length - i.toNat | _ => 0) ?_ ?_
 ·refine ⟨g0, g1, rfl, rfl, rfl, List.replicate (a.length + 1) 0, 0, 0, ?_, rfl, rfl, List.length_replicate .., okL_replicate _, by omega, by omega, rfl⟩
  simp [St.put, St.new, hg]
 rintro s' ⟨i0, i1, i5, i24, i25, c, i, carry, iO, i6, i26, hc, hok, hi, hcar, hw⟩
 by_cases hend : i = a.length
 ·subst hend
  repeat (first|simp only [go_sem, i0, i1, i5, i24, i25, iO, i6, i26]|simp (disch := first|exact oa|fail) only [AX, i0, i1, i5, i24, i25, iO, i6, i26]|refine wki ?_|refine wqn ?_|refine vpx [] ?_)
  refine vf_of (fn_natV (nat_trim (c.set a.length carry) (okL_set hok _ _ (by omega)) (by rw [List.length_set]; omega)) (by rw [List.length_set]; omega)) ?_; repeat (first|simp only [go_sem]|simp (disch := first|exact oa|fail) only [AX]|refine wki ?_|refine wqn ?_|refine vpx [] ?_)
  have e : wth (c.set a.length carry) = wth xs + wth ys := by
   rw [<- List.take_of_length_le (l := c.set a.length carry) (i := a.length + 1) (by rw [List.length_set]; omega), wth_set_take (by omega), hw, List.take_of_length_le (Nat.le_refl _), List.take_of_length_le hab, hsum]
  rw [e]
 ·have h1 := getD_lt ha i
  have h2 := getD_lt hb i
  have key : ∀ x : Nat, x = carry + a.getD i 0 + b.getD i 0 -> wth ((c.set i (x % 4294967296)).take (i + 1)) + 4294967296 ^ (i + 1) * (x / 4294967296) = wth (a.take (i + 1)) + wth (b.take (i + 1)) := by
   intro x hx
   rw [wth_set_take (by omega), wth_take_succ, wth_take_succ]
   have e1 : 4294967296 ^ i * (x % 4294967296) + 4294967296 ^ (i + 1) * (x / 4294967296) = 4294967296 ^ i * x := by
    rw [Nat.pow_succ, Nat.mul_assoc, <- Nat.mul_add, Nat.mod_add_div]
   have e2 : 4294967296 ^ i * x = 4294967296 ^ i * carry + 4294967296 ^ i * a.getD i 0 + 4294967296 ^ i * b.getD i 0 := by
    rw [hx, Nat.mul_add, Nat.mul_add]
   omega
  by_cases hib : i < b.length
  ·repeat (first|simp only [go_sem, i0, i1, i5, i24, i25, iO, i6, i26]|simp (disch := first|exact oa|fail) only [AX, i0, i1, i5, i24, i25, iO, i6, i26]|refine wki ?_|refine wqn ?_|refine vpx [] ?_)
   exact ⟨⟨c.set i ((carry + a.getD i 0 + b.getD i 0) % 4294967296), i + 1, (carry + a.getD i 0 + b.getD i 0) / 4294967296, rfl, rfl, rfl, by rw [List.length_set]; exact hc, okL_set hok _ _ (by omega), by omega, by omega, key _ rfl⟩, by omega⟩
  ·have e0 : b.getD i 0 = 0 := by rw [List.getD_eq_getElem?_getD, List.getElem?_eq_none (by omega)]; rfl
   repeat (first|simp only [go_sem, i0, i1, i5, i24, i25, iO, i6, i26]|simp (disch := first|exact oa|fail) only [AX, i0, i1, i5, i24, i25, iO, i6, i26]|refine wki ?_|refine wqn ?_|refine vpx [] ?_)
   exact ⟨⟨c.set i ((carry + a.getD i 0) % 4294967296), i + 1, (carry + a.getD i 0) / 4294967296, rfl, rfl, rfl, by rw [List.length_set]; exact hc, okL_set hok _ _ (by omega), by omega, by omega, key _ (by omega)⟩, by omega⟩
end Go.Proofs.YtlojijllmadnoaaGreatDoor
namespace Go.Proofs.YtlojijllmadnoaaGreatDoor
open Go.Ev
theorem bits_Add32 (x y c : Nat) (hx : x < 4294967296) (hy : y < 4294967296) (hc : c < 4294967296) :
  Go.Ev.Fn CX 246 [limb x, limb y, limb c] (.tup [limb ((x + y + c) % 4294967296), limb ((x + y + c) / 4294967296)]) := by
 refine fni Tryz.f246 ?_; unfold Tryz.f246; simp only [Option.get!_some]
 repeat (first|simp only [go_sem]|simp (disch := first|exact oa|fail) only [AX]|refine wki ?_|refine wqn ?_|refine vpx [] ?_)
theorem bits_Sub32 (x y b : Nat) (hx : x < 4294967296) (hy : y < 4294967296) (hb : b <= 1) :
  Go.Ev.Fn CX 121 [limb x, limb y, limb b] (.tup [limb (((x + (4294967296 - y)) % 4294967296 + (4294967296 - b)) % 4294967296), limb (if x < y + b then 1 else 0)]) := by
 refine fni Tryz.f121 ?_; unfold Tryz.f121; simp only [Option.get!_some]
 have hd : ∃ d, d = ((x + (4294967296 - y)) % 4294967296 + (4294967296 - b)) % 4294967296 := ⟨_, rfl⟩
 obtain ⟨d, hd⟩ := hd
 rw [<- hd, <- sub32_bit hx hy hb hd]
 have hd' : d < 4294967296 := by omega
 have h0 : 4294967295 ^^^ x < 4294967296 := Nat.xor_lt_two_pow (n := 32) (by decide) hx
 have h1 : (4294967295 ^^^ x) &&& y < 4294967296 := Nat.lt_of_le_of_lt Nat.and_le_right hy
 have h2 : x ^^^ y < 4294967296 := Nat.xor_lt_two_pow (n := 32) hx hy
 have h3 : 4294967295 ^^^ (x ^^^ y) < 4294967296 := Nat.xor_lt_two_pow (n := 32) (by decide) h2
 have h4 : (4294967295 ^^^ (x ^^^ y)) &&& d < 4294967296 := Nat.lt_of_le_of_lt Nat.and_le_right hd'
 repeat (first|simp only [go_sem, u32_sub, <- hd]|simp (disch := first|exact oa|fail) only [AX, u32_sub, <- hd]|refine wki ?_|refine wqn ?_|refine vpx [] ?_)
theorem bits_Div32 (hi lo y : Nat) (h : hi < y) (hy : y < 4294967296) (hlo : lo < 4294967296) :
  Go.Ev.Fn CX 169 [limb hi, limb lo, limb y] (.tup [limb ((hi * 4294967296 + lo) / y), limb ((hi * 4294967296 + lo) % y)]) := by
 refine fni Tryz.f169 ?_; unfold Tryz.f169; simp only [Option.get!_some]
 have hq : (hi * 4294967296 + lo) / y < 4294967296 := by
  rw [Nat.div_lt_iff_lt_mul (by omega)]
  have : (hi + 1) * 4294967296 <= y * 4294967296 := Nat.mul_le_mul_right _ h
  omega
 have hr : (hi * 4294967296 + lo) % y < 4294967296 := Nat.lt_trans (Nat.mod_lt _ (by omega)) hy
 have hX : ∃ X, hi * 4294967296 + lo = X := ⟨_, rfl⟩
 obtain ⟨X, hX⟩ := hX
 rw [hX] at hq hr ⊢
 generalize hQ : X / y = Q at *
 generalize hR : X % y = R at *
 repeat (first|simp only [go_sem, hX, hQ, hR]|simp (disch := first|exact oa|fail) only [AX, hX, hQ, hR]|refine wki ?_|refine wqn ?_|refine vpx [] ?_)
end Go.Proofs.YtlojijllmadnoaaGreatDoor
namespace Go.Proofs.YtlojijllmadnoaaGreatDoor
open Go.Ev
theorem nat_Sub (xs ys : List Nat) (hx : okL xs) (hy : okL ys) (hl : xs.length <= 1073741824) (hm : ys.length <= 1073741824) :
  Go.Ev.Fn CX 79 [natV xs, natV ys] (if wth xs < wth ys then .tup [natV [], .bool false] else .tup [natV (lim (wth xs - wth ys)), .bool true]) := by
 refine fni Tryz.f79 ?_; unfold Tryz.f79; simp only [Option.get!_some]
 have lx := lim_length_le hx
 have ly := lim_length_le hy
 repeat (first|simp only [go_sem]|simp (disch := first|exact oa|fail) only [AX]|refine wki ?_|refine wqn ?_|refine vpx [] ?_)
 refine vf_of (nat_Cmp xs ys hx hy (by omega) (by omega)) ?_; repeat (first|simp only [go_sem]|simp (disch := first|exact oa|fail) only [AX]|refine wki ?_|refine wqn ?_|refine vpx [] ?_)
 by_cases hlt : wth xs < wth ys
 ·rw [if_pos hlt]
  have e : cmpN (wth xs) (wth ys) = -1 := by simp [cmpN, hlt]
  rw [e]
  repeat (first|simp only [go_sem]|simp (disch := first|exact oa|fail) only [AX]|refine wki ?_|refine wqn ?_|refine vpx [] ?_)
  rfl
 ·rw [if_neg hlt]
  have e : decide (cmpN (wth xs) (wth ys) < 0) = false := by
   unfold cmpN; rw [if_neg hlt]; split <;> rfl
  repeat (first|simp only [go_sem, e]|simp (disch := first|exact oa|fail) only [AX, e]|refine wki ?_|refine wqn ?_|refine vpx [] ?_)
  refine vf_of (nat_trim xs hx (by omega)) ?_; repeat (first|simp only [go_sem]|simp (disch := first|exact oa|fail) only [AX]|refine wki ?_|refine wqn ?_|refine vpx [] ?_)
  refine vf_of (nat_trim ys hy (by omega)) ?_; repeat (first|simp only [go_sem]|simp (disch := first|exact oa|fail) only [AX]|refine wki ?_|refine wqn ?_|refine vpx [] ?_)
  have hab : (lim (wth ys)).length <= (lim (wth xs)).length := trimL_length (okL_lim _) (okL_lim _) (trimL_lim _) (by rw [wth_lim, wth_lim]; omega)
  have ha := okL_lim (wth xs)
  have hb := okL_lim (wth ys)
  have va := wth_lim (wth xs)
  have vb := wth_lim (wth ys)
  generalize lim (wth xs) = a at *
  generalize lim (wth ys) = b at *
  refine vp_loop_inv (fun s' => s'.tmp 0 = .sv (natV a) /\ s'.tmp 1 = .sv (natV b) /\ s'.tmp 6 = .ref 21 0 1 0 a.length /\ s'.tmp 22 = .sv (natV a) /\ s'.tmp 23 = .sv (.int .i64 a.length) /\
    ∃ c : List Nat, ∃ i w : Nat, s'.obj 21 0 = some (c.map limb) /\ s'.tmp 7 = .sv (.int .u32 w) /\ s'.tmp 24 = .sv (.int .i64 i) /\ c.length = a.length /\ okL c /\ i <= a.length /\ w <= 1 /\
     wth (c.take i) + wth (b.take i) = wth (a.take i) + 4294967296 ^ i * w)
   (fun s => match s.tmp 24 with | .sv (.int _ i) => a.length - i.toNat | _ => 0) ?_ ?_
  ·refine ⟨rfl, rfl, rfl, rfl, rfl, List.replicate a.length 0, 0, 0, rfl, rfl, rfl, List.length_replicate .., okL_replicate _, by omega, by omega, rfl⟩
  rintro s' ⟨i0, i1, i6, i22, i23, c, i, w, iO, i7, i24, hc, hok, hi, hw, hv⟩
  by_cases hend : i = a.length
  ·subst hend
   repeat (first|simp only [go_sem, i0, i1, i6, i22, i23, iO, i7, i24]|simp (disch := first|exact oa|fail) only [AX, i0, i1, i6, i22, i23, iO, i7, i24]|refine wki ?_|refine wqn ?_|refine vpx [] ?_)
   have e : wth c = wth xs - wth ys := by
    rw [List.take_of_length_le (by omega), List.take_of_length_le hab, List.take_of_length_le (Nat.le_refl _), va, vb] at hv
    have h0 := wth_lt hok
    rw [hc] at h0
    rcases Nat.eq_zero_or_pos w with rfl | hw0
    ·omega
    ·have : w = 1 := by omega
     subst this
     have := wth_lt ha
     omega
   refine vf_of (fn_natV (nat_trim c hok (by omega)) hc) ?_; repeat (first|simp only [go_sem]|simp (disch := first|exact oa|fail) only [AX]|refine wki ?_|refine wqn ?_|refine vpx [] ?_)
   rw [e]
  ·have h1 := getD_lt ha i
   have h2 := getD_lt hb i
   have key : ∀ x y v w' : Nat, x = a.getD i 0 -> y = b.getD i 0 -> v + y + w = x + 4294967296 * w' -> wth ((c.set i v).take (i + 1)) + wth (b.take (i + 1)) = wth (a.take (i + 1)) + 4294967296 ^ (i + 1) * w' := by
    intro x y v w' hx' hy' he
    rw [wth_set_take (by omega), wth_take_succ, wth_take_succ, <- hx', <- hy', Nat.pow_succ, Nat.mul_assoc]
    have e1 : 4294967296 ^ i * (v + y + w) = 4294967296 ^ i * (x + 4294967296 * w') := by rw [he]
    rw [Nat.mul_add, Nat.mul_add, Nat.mul_add] at e1
    omega
   by_cases hib : i < b.length
   ·repeat (first|simp only [go_sem, i0, i1, i6, i22, i23, iO, i7, i24]|simp (disch := first|exact oa|fail) only [AX, i0, i1, i6, i22, i23, iO, i7, i24]|refine wki ?_|refine wqn ?_|refine vpx [] ?_)
    refine vf_of (bits_Sub32 (a.getD i 0) (b.getD i 0) w h1 h2 hw) ?_; repeat (first|simp only [go_sem, i0, i1, i6, i22, i23, iO, i7, i24]|simp (disch := first|exact oa|fail) only [AX, i0, i1, i6, i22, i23, iO, i7, i24]|refine wki ?_|refine wqn ?_|refine vpx [] ?_)
    refine ⟨⟨c.set i (((a.getD i 0 + (4294967296 - b.getD i 0)) % 4294967296 + (4294967296 - w)) % 4294967296), i + 1, if a.getD i 0 < b.getD i 0 + w then 1 else 0, rfl, rfl, rfl, by rw [List.length_set]; exact hc, okL_set hok _ _ (by omega), by omega, by split <;> omega, key _ _ _ _ rfl rfl ?_⟩, by omega⟩
    split <;> omega
   ·have e0 : b.getD i 0 = 0 := by rw [List.getD_eq_getElem?_getD, List.getElem?_eq_none (by omega)]; rfl
    repeat (first|simp only [go_sem, i0, i1, i6, i22, i23, iO, i7, i24]|simp (disch := first|exact oa|fail) only [AX, i0, i1, i6, i22, i23, iO, i7, i24]|refine wki ?_|refine wqn ?_|refine vpx [] ?_)
    refine vf_of (bits_Sub32 (a.getD i 0) 0 w h1 (by omega) hw) ?_; repeat (first|simp only [go_sem, i0, i1, i6, i22, i23, iO, i7, i24]|simp (disch := first|exact oa|fail) only [AX, i0, i1, i6, i22, i23, iO, i7, i24]|refine wki ?_|refine wqn ?_|refine vpx [] ?_)
    refine ⟨⟨c.set i (((a.getD i 0 + 4294967296) % 4294967296 + (4294967296 - w)) % 4294967296), i + 1, if a.getD i 0 < w then 1 else 0, rfl, rfl, rfl, by rw [List.length_set]; exact hc, okL_set hok _ _ (by omega), by omega, by split <;> omega, key _ _ _ _ rfl e0.symm ?_⟩, by omega⟩
    split <;> omega
end Go.Proofs.YtlojijllmadnoaaGreatDoor
namespace Go.Proofs.YtlojijllmadnoaaGreatDoor
open Go.Ev
theorem getD_set_ne {xs : List Nat} {i j v : Nat} (h : j ≠ i) : (xs.set i v).getD j 0 = xs.getD j 0 := by
 rw [List.getD_eq_getElem?_getD, List.getD_eq_getElem?_getD, List.getElem?_set_ne (fun e => h e.symm)]
theorem limb_mul {v w : Nat} (hv : v < 4294967296) (hw : w < 4294967296) : v * w <= 18446744065119617025 :=
 Nat.le_trans (Nat.mul_le_mul (show v <= 4294967295 by omega) (show w <= 4294967295 by omega)) (by decide)
theorem nat_Mul (xs ys : List Nat) (hx : okL xs) (hy : okL ys) (hl : xs.length <= 1073741824) (hm : ys.length <= 1073741824) :
  Go.Ev.Fn CX 59 [natV xs, natV ys] (natV (lim (wth xs * wth ys))) := by
 refine fni Tryz.f59 ?_; unfold Tryz.f59; simp only [Option.get!_some]
 have lx := lim_length_le hx
 have ly := lim_length_le hy
 repeat (first|simp only [go_sem]|simp (disch := first|exact oa|fail) only [AX]|refine wki ?_|refine wqn ?_|refine vpx [] ?_)
 refine vf_of (nat_trim xs hx (by omega)) ?_; repeat (first|simp only [go_sem]|simp (disch := first|exact oa|fail) only [AX]|refine wki ?_|refine wqn ?_|refine vpx [] ?_)
 refine vf_of (nat_trim ys hy (by omega)) ?_; repeat (first|simp only [go_sem]|simp (disch := first|exact oa|fail) only [AX]|refine wki ?_|refine wqn ?_|refine vpx [] ?_)
 have ha := okL_lim (wth xs)
 have hb := okL_lim (wth ys)
 have va := wth_lim (wth xs)
 have vb := wth_lim (wth ys)
 generalize lim (wth xs) = a at *
 generalize lim (wth ys) = b at *
 refine vp_loop_inv (fun s' => s'.tmp 0 = .sv (natV a) /\ s'.tmp 1 = .sv (natV b) /\ s'.tmp 5 = .ref 20 0 1 0 (a.length + b.length) /\ s'.tmp 21 = .sv (natV a) /\ s'.tmp 22 = .sv (.int .i64 a.length) /\
   ∃ c : List Nat, ∃ i : Nat, s'.obj 20 0 = some (c.map limb) /\ s'.tmp 23 = .sv (.int .i64 i) /\ c.length = a.length + b.length /\ okL c /\ i <= a.length /\
    wth (c.take (i + b.length)) = wth (a.take i) * wth b)
  (fun s => match s.tmp 23 with | .sv (.int _ i) => a.length - i.toNat | _ => 0) ?_ ?_
 ·refine ⟨rfl, rfl, rfl, rfl, rfl, List.replicate (a.length + b.length) 0, 0, rfl, rfl, List.length_replicate .., okL_replicate _, by omega, ?_⟩
  rw [List.take_replicate, wth_replicate]; simp [wth]
 rintro s' ⟨i0, i1, i5, i21, i22, c0, i, iO, i23, hc0, hok0, hi, hv⟩
 by_cases hend : i = a.length
 ·subst hend
  repeat (first|simp only [go_sem, i0, i1, i5, i21, i22, iO, i23]|simp (disch := first|exact oa|fail) only [AX, i0, i1, i5, i21, i22, iO, i23]|refine wki ?_|refine wqn ?_|refine vpx [] ?_)
  refine vf_of (fn_natV (nat_trim c0 hok0 (by omega)) hc0) ?_; repeat (first|simp only [go_sem]|simp (disch := first|exact oa|fail) only [AX]|refine wki ?_|refine wqn ?_|refine vpx [] ?_)
  have e : wth c0 = wth xs * wth ys := by
   rw [List.take_of_length_le (by omega), List.take_of_length_le (Nat.le_refl _), va, vb] at hv
   exact hv
  rw [e]
 ·have h1 := getD_lt ha i
  repeat (first|simp only [go_sem, i0, i1, i5, i21, i22, iO, i23]|simp (disch := first|exact oa|fail) only [AX, i0, i1, i5, i21, i22, iO, i23]|refine wki ?_|refine wqn ?_|refine vpx [] ?_)
  generalize hvv : a.getD i 0 = v at *
  refine vp_loop_inv (fun s' => s'.tmp 0 = .sv (natV a) /\ s'.tmp 1 = .sv (natV b) /\ s'.tmp 5 = .ref 20 0 1 0 (a.length + b.length) /\ s'.tmp 21 = .sv (natV a) /\ s'.tmp 22 = .sv (.int .i64 a.length) /\ s'.tmp 23 = .sv (.int .i64 i) /\
    s'.tmp 6 = .sv (.int .i64 i) /\ s'.tmp 7 = .sv (.int .u32 v) /\ s'.tmp 28 = .sv (natV b) /\ s'.tmp 29 = .sv (.int .i64 b.length) /\
    ∃ c : List Nat, ∃ k carry : Nat, s'.obj 20 0 = some (c.map limb) /\ s'.tmp 30 = .sv (.int .i64 k) /\ s'.tmp 8 = .sv (.int .u64 carry) /\ c.length = a.length + b.length /\ okL c /\ k <= b.length /\ carry < 4294967296 /\
     (∀ j, i + k <= j -> c.getD j 0 = c0.getD j 0) /\ wth (c.take (i + k)) + 4294967296 ^ (i + k) * carry = wth (c0.take (i + k)) + 4294967296 ^ i * (v * wth (b.take k)))
   (fun s => match s.tmp 30 with | .sv (.int _ i) => b.length - i.toNat | _ => 0) ?_ ?_
  ·refine ⟨i0, i1, i5, i21, i22, i23, rfl, rfl, rfl, rfl, c0, 0, 0, iO, rfl, rfl, hc0, hok0, by omega, by omega, fun _ _ => rfl, ?_⟩
   simp [wth]
  rintro s2 ⟨j0, j1, j5, j21, j22, j23, j6, j7, j28, j29, c, k, carry, jO, j30, j8, hc, hok, hk, hcar, hsame, hw⟩
  by_cases hend2 : k = b.length
  ·subst hend2
   repeat (first|simp only [go_sem, j0, j1, j5, j21, j22, j23, j6, j7, j28, j29, jO, j30, j8]|simp (disch := first|exact oa|fail) only [AX, j0, j1, j5, j21, j22, j23, j6, j7, j28, j29, jO, j30, j8]|refine wki ?_|refine wqn ?_|refine vpx [] ?_)
   refine ⟨⟨c.set (i + b.length) carry, i + 1, rfl, rfl, by rw [List.length_set]; exact hc, okL_set hok _ _ hcar, by omega, ?_⟩, by omega⟩
   rw [show i + 1 + b.length = i + b.length + 1 by omega, wth_set_take (by omega), hw, hv, wth_take_succ, hvv, List.take_of_length_le (Nat.le_refl _)]
   rw [Nat.add_mul, Nat.mul_assoc]
  ·have h2 := getD_lt hb k
   have h3 := getD_lt hok (i + k)
   have h4 := limb_mul h1 h2
   have hs := hsame (i + k) (Nat.le_refl _)
   generalize hww : b.getD k 0 = w at *
   generalize hu : c.getD (i + k) 0 = u at *
   generalize hp : v * w = p at *
   repeat (first|simp only [go_sem, j0, j1, j5, j21, j22, j23, j6, j7, j28, j29, jO, j30, j8, hww, hu, hp]|simp (disch := first|exact oa|fail) only [AX, j0, j1, j5, j21, j22, j23, j6, j7, j28, j29, jO, j30, j8, hww, hu, hp]|refine wki ?_|refine wqn ?_|refine vpx [] ?_)
   refine ⟨⟨c.set (i + k) ((carry + (p + u)) % 4294967296), k + 1, (carry + (p + u)) / 4294967296, rfl, rfl, rfl, by rw [List.length_set]; exact hc, okL_set hok _ _ (by omega), by omega, by omega, fun j hj => (getD_set_ne (by omega)).trans (hsame j (by omega)), ?_⟩, by omega⟩
   rw [show i + (k + 1) = i + k + 1 by omega, wth_set_take (by omega), wth_take_succ c0, <- hs, wth_take_succ b, hww]
   generalize hx : carry + (p + u) = x
   have e1 : 4294967296 ^ (i + k) * (x % 4294967296) + 4294967296 ^ (i + k + 1) * (x / 4294967296) = 4294967296 ^ (i + k) * x := by
    rw [Nat.pow_succ, Nat.mul_assoc, <- Nat.mul_add, Nat.mod_add_div]
   have e2 : 4294967296 ^ (i + k) * x = 4294967296 ^ (i + k) * carry + (4294967296 ^ (i + k) * p + 4294967296 ^ (i + k) * u) := by
    rw [<- hx, Nat.mul_add, Nat.mul_add]
   have e3 : 4294967296 ^ i * (v * (wth (b.take k) + 4294967296 ^ k * w)) = 4294967296 ^ i * (v * wth (b.take k)) + 4294967296 ^ (i + k) * p := by
    rw [Nat.mul_add, Nat.mul_add, <- hp, Nat.pow_add, Nat.mul_left_comm v, <- Nat.mul_assoc (4294967296 ^ i) (4294967296 ^ k)]
   rw [e3]
   omega
end Go.Proofs.YtlojijllmadnoaaGreatDoor
namespace Go.Proofs.YtlojijllmadnoaaGreatDoor
open Go.Ev
theorem wth_drop {xs : List Nat} {i : Nat} (h : i < xs.length) : wth (xs.drop i) = xs.getD i 0 + 4294967296 * wth (xs.drop (i + 1)) := by
 rw [List.drop_eq_getElem_cons h, wth_cons, List.getD_eq_getElem?_getD, List.getElem?_eq_getElem h]
 rfl
theorem wth_set_drop {xs : List Nat} {i : Nat} (h : i < xs.length) (v : Nat) : wth ((xs.set i v).drop i) = v + 4294967296 * wth (xs.drop (i + 1)) := by
 rw [wth_drop (by rw [List.length_set]; exact h), List.drop_set_of_lt (by omega)]
 simp [List.getD_eq_getElem?_getD, h]
theorem nat_small (xs : List Nat) (b : Nat) (hx : okL xs) (hl : xs.length <= 1073741824) (hb0 : 0 < b) (hb : b < 4294967296) :
  Go.Ev.Fn CX 123 [natV xs, limb b] (.tup [natV (lim (wth xs / b)), limb (wth xs % b)]) := by
 refine fni Tryz.f123 ?_; unfold Tryz.f123; simp only [Option.get!_some]
 repeat (first|simp only [go_sem]|simp (disch := first|exact oa|fail) only [AX]|refine wki ?_|refine wqn ?_)
 refine vp_loop_inv (fun s' => s'.tmp 0 = .sv (natV xs) /\ s'.tmp 1 = .sv (limb b) /\ s'.tmp 6 = .ref 11 0 1 0 xs.length /\
   ∃ q : List Nat, ∃ i rest : Nat, s'.obj 11 0 = some (q.map limb) /\ s'.tmp 8 = .sv (.int .i64 ((i : Int) - 1)) /\ s'.tmp 7 = .sv (limb rest) /\ q.length = xs.length /\ okL q /\ i <= xs.length /\ rest < b /\
    wth (xs.drop i) = b * wth (q.drop i) + rest)
  (fun s => match s.tmp 8 with | .sv (.int _ i) => (i + 1).toNat | _ => 0) ?_ ?_
 ·refine ⟨rfl, rfl, rfl, List.replicate xs.length 0, xs.length, 0, rfl, rfl, rfl, List.length_replicate .., okL_replicate _, by omega, hb0, ?_⟩
  rw [List.drop_length, List.drop_of_length_le (by simp)]
  simp [wth]
 rintro s' ⟨i0, i1, i6, q, i, rest, iO, i8, i7, hq, hok, hi, hrest, hv⟩
 rcases Nat.eq_zero_or_pos i with rfl | hi0
 ·repeat (first|simp only [go_sem, i0, i1, i6, iO, i8, i7]|simp (disch := first|exact oa|fail) only [AX, i0, i1, i6, iO, i8, i7]|refine wki ?_|refine wqn ?_|refine vpx [] ?_)
  rw [List.drop_zero, List.drop_zero] at hv
  have e1 : wth xs / b = wth q := by
   rw [hv, Nat.mul_add_div hb0, Nat.div_eq_of_lt hrest, Nat.add_zero]
  have e2 : wth xs % b = rest := by
   rw [hv, Nat.mul_add_mod, Nat.mod_eq_of_lt hrest]
  refine vf_of (fn_natV (nat_trim q hok (by omega)) hq) ?_; repeat (first|simp only [go_sem, i0, i1, i6, iO, i8, i7]|simp (disch := first|exact oa|fail) only [AX, i0, i1, i6, iO, i8, i7]|refine wki ?_|refine wqn ?_|refine vpx [] ?_)
  rw [e1, e2]
  exact ⟨rfl, rfl⟩
 ·have h1 := getD_lt hx (i - 1)
  have h5 : (((i - 1 : Nat) : Int)) = (i : Int) - 1 := by omega
  repeat (first|simp only [go_sem, i0, i1, i6, iO, i8, i7]|simp (disch := first|exact oa|fail) only [AX, i0, i1, i6, iO, i8, i7]|refine wki ?_|refine wqn ?_|refine vpx [] ?_)
  have hq0 : (rest * 4294967296 + xs.getD (i - 1) 0) / b < 4294967296 := by
   rw [Nat.div_lt_iff_lt_mul hb0]
   have : (rest + 1) * 4294967296 <= b * 4294967296 := Nat.mul_le_mul_right _ hrest
   omega
  have hr0 := Nat.mod_lt (rest * 4294967296 + xs.getD (i - 1) 0) hb0
  refine vf_of (bits_Div32 rest (xs.getD (i - 1) 0) b hrest hb h1) ?_; repeat (first|simp only [go_sem, i0, i1, i6, iO, i8, i7]|simp (disch := first|exact oa|fail) only [AX, i0, i1, i6, iO, i8, i7]|refine wki ?_|refine wqn ?_|refine vpx [] ?_)
  refine ⟨⟨q.set (i - 1) ((rest * 4294967296 + xs.getD (i - 1) 0) / b), i - 1, (rest * 4294967296 + xs.getD (i - 1) 0) % b, rfl, rfl, rfl, by rw [List.length_set]; exact hq, okL_set hok _ _ hq0, by omega, hr0, ?_⟩, by omega⟩
  rw [wth_set_drop (by omega), wth_drop (by omega), show i - 1 + 1 = i by omega, hv]
  have e1 := Nat.div_add_mod (rest * 4294967296 + xs.getD (i - 1) 0) b
  generalize (rest * 4294967296 + xs.getD (i - 1) 0) / b = Q at *
  generalize (rest * 4294967296 + xs.getD (i - 1) 0) % b = R at *
  rw [Nat.mul_add b, <- Nat.mul_assoc b, Nat.mul_comm b 4294967296, Nat.mul_assoc]
  omega
end Go.Proofs.YtlojijllmadnoaaGreatDoor
namespace Go.Proofs.YtlojijllmadnoaaGreatDoor
open Go.Ev
def guessN (u v : Nat) : Nat := min 4294967295 (u / v)
theorem guess_le (u v : Nat) : guessN u v <= 4294967295 := Nat.min_le_left _ _
theorem guess_ge {u v q : Nat} (hv : 0 < v) (hq : q <= 4294967295) (h : q * v <= u) : q <= guessN u v :=
 Nat.le_min.2 ⟨hq, (Nat.le_div_iff_mul_le hv).2 h⟩
theorem guess_lt {u v q : Nat} (hv : 0 < v) (h : u < q * v) : guessN u v <= q - 1 :=
 Nat.le_trans (Nat.min_le_right _ _) (Nat.le_sub_one_of_lt ((Nat.div_lt_iff_lt_mul hv).2 h))
theorem guess_parts {q r b1 b2 X low U V : Nat} (hU : X * 4294967296 + low = U) (hV : b1 * 4294967296 + b2 = V) (e : q * b1 + r = X) :
  q * V + (r * 4294967296 + low) = U + q * b2 := by
 subst hU hV e
 rw [Nat.mul_add, Nat.add_mul, <- Nat.mul_assoc]
 generalize q * b1 = a
 generalize q * b2 = b
 omega
theorem guess_first {b1 b2 X low U V Q R : Nat} (hU : X * 4294967296 + low = U) (hV : b1 * 4294967296 + b2 = V) (hlo : low < 4294967296) (hV0 : 0 < V) (hQR : b1 * Q + R = X) (hR : R < b1) : guessN U V <= Q := by
 refine guess_lt (q := Q + 1) hV0 ?_
 have e := guess_parts (q := Q) (r := R) hU hV (by rw [Nat.mul_comm]; exact hQR)
 rw [Nat.add_mul]
 generalize Q * V = a at *
 generalize Q * b2 = b at *
 generalize b1 * Q = c at *
 omega
theorem guess_step {q r b1 X : Nat} (e : q * b1 + r = X) (h : 1 <= q) : (q - 1) * b1 + (r + b1) = X := by
 obtain ⟨q', rfl⟩ : ∃ q', q = q' + 1 := ⟨q - 1, by omega⟩
 rw [Nat.add_sub_cancel]
 rw [Nat.add_mul, Nat.one_mul] at e
 omega
theorem guess_end {q r b1 b2 X low U V : Nat} (hU : X * 4294967296 + low = U) (hV : b1 * 4294967296 + b2 = V) (hV0 : 0 < V) (hb2 : b2 < 4294967296) (e : q * b1 + r = X) (hq : q <= 4294967295)
  (h : 4294967296 <= r \/ q * b2 <= r * 4294967296 + low) : q <= guessN U V := by
 refine guess_ge hV0 hq ?_
 have e1 := guess_parts hU hV e
 have h6 : q * b2 <= 18446744065119617025 := limb_mul (by omega) hb2
 generalize q * V = a at *
 generalize q * b2 = b at *
 omega
theorem guess_more {q r b1 b2 X low U V : Nat} (hU : X * 4294967296 + low = U) (hV : b1 * 4294967296 + b2 = V) (hV0 : 0 < V) (e : q * b1 + r = X)
  (h : r * 4294967296 + low < q * b2) : guessN U V <= q - 1 := by
 refine guess_lt hV0 ?_
 have e1 := guess_parts hU hV e
 generalize q * V = a at *
 generalize q * b2 = b at *
 omega
theorem guess_small {q r b1 X high mid : Nat} (hX : high * 4294967296 + mid = X) (h1 : high <= b1) (hm : mid < 4294967296) (e : q * b1 + r = X) (hr : 4294967296 <= r) : q <= 4294967295 := by
 rcases Nat.lt_or_ge 4294967295 q with h3 | h3
 ·have h4 : 4294967296 * b1 <= q * b1 := Nat.mul_le_mul_right _ h3
  generalize q * b1 = a at *
  omega
 ·exact h3
theorem guess_fn (high mid low b1 b2 : Nat) (h1 : high <= b1) (hb : b1 < 4294967296) (hb' : 2147483648 <= b1) (hm : mid < 4294967296) (hlo : low < 4294967296) (hb2 : b2 < 4294967296) :
  Go.Ev.Fn CX 172 [limb high, limb mid, limb low, limb b1, limb b2] (.int .u64 (guessN ((high * 4294967296 + mid) * 4294967296 + low) (b1 * 4294967296 + b2))) := by
 refine fni Tryz.f172 ?_; unfold Tryz.f172; simp only [Option.get!_some]
 have hX : ∃ X, high * 4294967296 + mid = X := ⟨_, rfl⟩
 obtain ⟨X, hX⟩ := hX
 have hX1 : X < 18446744073709551616 := by omega
 rw [hX]
 have hU : ∃ U, X * 4294967296 + low = U := ⟨_, rfl⟩
 obtain ⟨U, hU⟩ := hU
 have hV : ∃ V, b1 * 4294967296 + b2 = V := ⟨_, rfl⟩
 obtain ⟨V, hV⟩ := hV
 have hV0 : 0 < V := by omega
 rw [hU, hV]
 have hq0 : X / b1 <= 4294967297 := by
  have h : X < 4294967298 * b1 := by omega
  exact Nat.le_of_lt_succ ((Nat.div_lt_iff_lt_mul (k := b1) (by omega)).2 h)
 have hr0 : X % b1 < b1 := Nat.mod_lt _ (by omega)
 have hqr := Nat.div_add_mod X b1
 generalize hQ : X / b1 = Q at *
 generalize hR : X % b1 = R at *
 have hT0 := guess_first hU hV hlo hV0 hqr hr0
 have hT1 := guess_le U V
 generalize hT : guessN U V = T at *
 repeat (first|simp only [go_sem, hX, hQ, hR]|simp (disch := first|exact oa|fail) only [AX, hX, hQ, hR]|refine wki ?_|refine wqn ?_|refine vpx [] ?_)
 refine vp_loop_inv (fun s' => s'.tmp 2 = .sv (limb low) /\ s'.tmp 3 = .sv (limb b1) /\ s'.tmp 4 = .sv (limb b2) /\
   ∃ q r : Nat, s'.tmp 12 = .sv (.int .u64 q) /\ s'.tmp 13 = .sv (.int .u64 r) /\ q * b1 + r = X /\ r < 4294967296 /\ T <= q /\ q <= 4294967297)
  (fun s => match s.tmp 12 with | .sv (.int _ i) => i.toNat | _ => 0) ?_ ?_
 ·exact ⟨rfl, rfl, rfl, Q, R, rfl, rfl, by rw [Nat.mul_comm]; exact hqr, by omega, hT0, hq0⟩
 rintro s' ⟨i2, i3, i4, q, r, i12, i13, e, hr, hTq, hq⟩
 have fin : 1 <= q -> 4294967296 <= r + b1 -> T <= q - 1 -> q - 1 = T := by
  intro hq1 hrB hl
  have e2 := guess_step e hq1
  have := guess_end hU hV hV0 hb2 e2 (guess_small hX h1 hm e2 hrB) (.inl hrB)
  rw [hT] at this
  omega
 by_cases hqB : 4294967296 <= q
 ·have e2 := guess_step e (by omega)
  by_cases hrB : 4294967296 <= r + b1
  ·have h5 := fin (by omega) hrB (by omega)
   clear fin e e2 hU hV hqr
   repeat (first|simp only [go_sem, i2, i3, i4, i12, i13]|simp (disch := first|exact oa|fail) only [AX, i2, i3, i4, i12, i13]|refine wki ?_|refine wqn ?_|refine vpx [] ?_)
   rw [h5]
  ·clear fin e hU hV hqr
   repeat (first|simp only [go_sem, i2, i3, i4, i12, i13]|simp (disch := first|exact oa|fail) only [AX, i2, i3, i4, i12, i13]|refine wki ?_|refine wqn ?_|refine vpx [] ?_)
   exact ⟨⟨q - 1, r + b1, rfl, rfl, e2, by omega, by omega, by omega⟩, by omega⟩
 ·have hp : q * b2 <= 18446744065119617025 := limb_mul (by omega) hb2
  have hub' := guess_end hU hV hV0 hb2 e (by omega)
  have hlb' := guess_more hU hV hV0 e
  rw [hT] at hub' hlb'
  generalize hP : q * b2 = P at *
  have hC : ∃ C, r * 4294967296 + low = C := ⟨_, rfl⟩
  obtain ⟨C, hC⟩ := hC
  have hj : bitsSV .or .u64 ((r * 4294967296 : Nat) : Int) (low : Int) = some (.int .u64 (C : Int)) := by
   rw [b_join (by omega) hlo, hC]
  rw [hC] at hub' hlb'
  by_cases hc : C < P
  ·have hq1 : 1 <= q := by
    rcases Nat.eq_zero_or_pos q with rfl | h
    ·rw [Nat.zero_mul] at hP; omega
    ·exact h
   have hl := hlb' hc
   have e2 := guess_step e hq1
   by_cases hrB : 4294967296 <= r + b1
   ·have h5 := fin hq1 hrB hl
    clear fin hub' hlb' e e2 hU hV hqr hC
    repeat (first|simp only [go_sem, i2, i3, i4, i12, i13, hP, hj]|simp (disch := first|exact oa|fail) only [AX, i2, i3, i4, i12, i13, hP, hj]|refine wki ?_|refine wqn ?_|refine vpx [] ?_)
    rw [h5]
   ·clear fin hub' hlb' e hU hV hqr hC
    repeat (first|simp only [go_sem, i2, i3, i4, i12, i13, hP, hj]|simp (disch := first|exact oa|fail) only [AX, i2, i3, i4, i12, i13, hP, hj]|refine wki ?_|refine wqn ?_|refine vpx [] ?_)
    exact ⟨⟨q - 1, r + b1, rfl, rfl, e2, by omega, by omega, by omega⟩, by omega⟩
  ·have h5 := hub' (.inr (by omega))
   clear fin hub' hlb' e hU hV hqr hC
   repeat (first|simp only [go_sem, i2, i3, i4, i12, i13, hP, hj]|simp (disch := first|exact oa|fail) only [AX, i2, i3, i4, i12, i13, hP, hj]|refine wki ?_|refine wqn ?_|refine vpx [] ?_)
   rw [Nat.le_antisymm h5 hTq]
end Go.Proofs.YtlojijllmadnoaaGreatDoor
namespace Go.Proofs.YtlojijllmadnoaaGreatDoor
open Go.Ev
def blen (x : Nat) : Nat := if x = 0 then 0 else x.log2 + 1
def tabOk (s : ByteArray) : Bool := (List.range 256).all fun i => match s[i]? with
 | some b => b.toNat == blen i
 | none => false
theorem vo_index_tab {C : Cx} {soft : Bool} {ops : Array Oper} {l : List Oper} {st : St} {Q : St -> Prop} {dst : Option Nat} {ty t : TypeId} {pos : String} {af : Array Edge} {s : ByteArray} {x : Operand} {k : IntKind} {i : Nat}
  (hu : C.P.underlying t = some .string) (hs : tabOk s = true) (hx : st.eval x = .sv (.int k (i : Int))) (hi : i < 256) (h : WO C soft ops l (st.putO dst (.sv (.int .u8 (blen i : Nat)))) Q) :
  WO C soft ops (⟨dst, .index t (.const (.string s)) x, ty, pos, af, none⟩ :: l) st Q := by
 rw [vo_index]
 have h1 := List.all_eq_true.1 hs i (List.mem_range.2 hi)
 have e : val C.P st (.index t (.const (.string s)) x) = some (.sv (.int .u8 (blen i : Nat))) := by
  have e0 : st.eval (.const (.string s)) = .sv (.str s) := rfl
  simp only [val, hx, e0, natTV, hu]
  rw [if_pos (by omega)]
  simp only [Int.toNat_natCast]
  split at h1
  ·rename_i b hb
   rw [hb]
   simp only
   rw [<- eq_of_beq h1]
  ·cases h1
 rw [e]
 exact h
theorem blen_shift {x k : Nat} (h : 2 ^ k <= x) : blen x = k + blen (x / 2 ^ k) := by
 have hp : 0 < 2 ^ k := Nat.pow_pos (by omega)
 have h0 : x ≠ 0 := by omega
 have h1 : x / 2 ^ k ≠ 0 := by
  have := Nat.div_pos h hp
  omega
 unfold blen
 rw [if_neg h0, if_neg h1]
 have e : x.log2 = k + (x / 2 ^ k).log2 := by
  have h2 := (Nat.le_log2 h0).2 h
  refine (Nat.log2_eq_iff h0).2 ⟨?_, ?_⟩
  ·have := Nat.log2_self_le h1
   rw [Nat.pow_add]
   calc 2 ^ k * 2 ^ (x / 2 ^ k).log2 <= 2 ^ k * (x / 2 ^ k) := Nat.mul_le_mul_left _ this
    _ <= x := Nat.mul_div_le _ _
  ·have := Nat.lt_log2_self (n := x / 2 ^ k)
   rw [Nat.div_lt_iff_lt_mul hp] at this
   rw [show k + (x / 2 ^ k).log2 + 1 = (x / 2 ^ k).log2 + 1 + k by omega, Nat.pow_add]
   exact this
 omega
theorem blen_le {x k : Nat} (h : x < 2 ^ k) : blen x <= k := by
 unfold blen
 split
 ·omega
 ·rename_i h0
  have := (Nat.log2_lt h0).2 h
  omega
theorem bits_Len32 (x : Nat) (hx : x < 4294967296) : Go.Ev.Fn CX 204 [limb x] (.int .i64 (blen x : Nat)) := by
 refine fni Tryz.f204 ?_; unfold Tryz.f204; simp only [Option.get!_some]
 repeat (first|simp only [go_sem]|simp (disch := first|exact oa|fail) only [AX]|refine wki ?_|refine wqn ?_|refine vpx [] ?_)
 refine vc_cut (Mid := fun s => ∃ y m : Nat, s.tmp 0 = .sv (limb y) /\ s.tmp 2 = .sv (.int .i64 m) /\ blen x = m + blen y /\ y < 65536 /\ m <= 16) ?_ ?_
 ·by_cases h : 65536 <= x
  ·repeat (first|simp only [go_sem]|simp (disch := first|exact oa|fail) only [AX]|refine wki ?_|refine wqn ?_|refine vpx [] ?_)
   exact ⟨x / 65536, 16, rfl, rfl, blen_shift (k := 16) h, by omega, by omega⟩
  ·repeat (first|simp only [go_sem]|simp (disch := first|exact oa|fail) only [AX]|refine wki ?_|refine wqn ?_|refine vpx [] ?_)
   exact ⟨x, 0, rfl, rfl, by omega, by omega, by omega⟩
 rintro s ⟨y, m, g0, g2, hb, hy, hm⟩
 repeat (first|simp only [go_sem, g0, g2]|simp (disch := first|exact oa|fail) only [AX, g0, g2]|refine wki ?_|refine wqn ?_|refine vpx [] ?_)
 refine vc_cut (Mid := fun s => ∃ y m : Nat, s.tmp 0 = .sv (limb y) /\ s.tmp 2 = .sv (.int .i64 m) /\ blen x = m + blen y /\ y < 256 /\ m <= 24) ?_ ?_
 ·by_cases h : 256 <= y
  ·repeat (first|simp only [go_sem, g0, g2]|simp (disch := first|exact oa|fail) only [AX, g0, g2]|refine wki ?_|refine wqn ?_|refine vpx [] ?_)
   exact ⟨y / 256, m + 8, rfl, rfl, by rw [hb, blen_shift (k := 8) h, Nat.add_assoc], by omega, by omega⟩
  ·repeat (first|simp only [go_sem, g0, g2]|simp (disch := first|exact oa|fail) only [AX, g0, g2]|refine wki ?_|refine wqn ?_|refine vpx [] ?_)
   exact ⟨y, m, rfl, rfl, hb, by omega, by omega⟩
 clear g0 g2 hb hy hm
 rintro s ⟨y, m, g0, g2, hb, hy, hm⟩
 repeat (first|simp only [go_sem, g0, g2]|simp (disch := first|exact oa|fail) only [AX, g0, g2]|refine wki ?_|refine wqn ?_|refine vpx [] ?_)
 refine vo_index_tab (i := y) (by kernel_rfl) (by kernel_rfl) rfl hy ?_
 have hbl : blen y <= 8 := blen_le (k := 8) hy
 repeat (first|simp only [go_sem, g0, g2]|simp (disch := first|exact oa|fail) only [AX, g0, g2]|refine wki ?_|refine wqn ?_|refine vpx [] ?_)
 rw [hb]
theorem bits_LeadingZeros32 (x : Nat) (hx : x < 4294967296) : Go.Ev.Fn CX 170 [limb x] (.int .i64 ((32 - blen x : Nat) : Int)) := by
 refine fni Tryz.f170 ?_; unfold Tryz.f170; simp only [Option.get!_some]
 have hbl : blen x <= 32 := blen_le (k := 32) hx
 repeat (first|simp only [go_sem]|simp (disch := first|exact oa|fail) only [AX]|refine wki ?_|refine wqn ?_|refine vpx [] ?_)
 refine vf_of (bits_Len32 x hx) ?_; repeat (first|simp only [go_sem]|simp (disch := first|exact oa|fail) only [AX]|refine wki ?_|refine wqn ?_|refine vpx [] ?_)
 rw [Int.natCast_sub hbl]
 rfl
end Go.Proofs.YtlojijllmadnoaaGreatDoor
namespace Go.Ev
def natP (l : List UInt8) : Option Nat := if l = [] \/ 400 < l.length \/ digs l = false then none else some (natD l)
def frontL (c : UInt8) (l : List UInt8) : List UInt8 := l.takeWhile (· != c)
def backL (c : UInt8) (l : List UInt8) : List UInt8 := (l.dropWhile (· != c)).tail
def negP (l : List UInt8) : Bool := l.head? == some 45
def absP (l : List UInt8) : List UInt8 := if negP l then l.tail else l
def decP (l : List UInt8) : Option Rat :=
 if (absP l).contains 46 then
  if frontL 46 (absP l) = [] then none else
  match natP (backL 46 (absP l)), natP (frontL 46 (absP l) ++ backL 46 (absP l)) with
  | some _, some n => some (mkRat (sgn (negP l) n) (10 ^ (backL 46 (absP l)).length))
  | _, _ => none
 else
  match natP (frontL 47 (absP l)), natP (if (absP l).contains 47 then backL 47 (absP l) else [49]) with
  | some n, some d => if d = 0 then none else some (mkRat (sgn (negP l) n) d)
  | _, _ => none
def isPM (b : UInt8) : Bool := b == 43 || b == 45
def expP (l : List UInt8) : Option Int :=
 if l.length - (l.dropWhile isPM).length > 1 \/ (l.dropWhile isPM).length < 1 \/ (l.dropWhile isPM).length > 2 \/ digs (l.dropWhile isPM) = false then none else
 if natD (l.dropWhile isPM) <= 30 then some (if l.head? = some 45 then - (natD (l.dropWhile isPM) : Int) else (natD (l.dropWhile isPM) : Int)) else none
def tenR (k : Int) : Rat := if k < 0 then 1 / (10 : Rat) ^ k.natAbs else (10 : Rat) ^ k.natAbs
def numP (l : List UInt8) : Nat × Rat :=
 if 60 < l.length then (3, 0) else
 if l.contains 101 then
  match decP (frontL 101 l), expP (backL 101 l) with
  | some q, some k => if l.contains 47 then (2, 0) else (0, q * tenR k)
  | _, _ => (2, 0)
 else match decP l with
  | some q => (0, q)
  | none => (2, 0)
def ratT (q : Rat) : List UInt8 := (if q.num < 0 then [45] else []) ++ dec q.num.natAbs ++ (if q.den = 1 then [] else 47 :: dec q.den)
def gapB (b : UInt8) : Bool := b == 32 || b == 44 || b == 10
def toks : List UInt8 -> List UInt8 -> List (List UInt8)
 | cur, [] => if cur = [] then [] else [cur.reverse]
 | cur, b :: r => if gapB b then (if cur = [] then toks [] r else cur.reverse :: toks [] r) else toks (b :: cur) r
def plainL : Bool -> List UInt8 -> List UInt8
 | _, [] => []
 | off, b :: r => if b == 10 then 10 :: plainL false r else if off || b == 35 then plainL true r else b :: plainL false r
def runP : List (List UInt8) -> Nat × List Rat
 | [] => (0, [])
 | t :: r => match numP t with
  | (0, q) => match runP r with
   | (0, l) => (0, q :: l)
   | (e, _) => (e, [])
  | (e, _) => (e, [])
def parseP (l : List UInt8) : Nat × List Rat :=
 match runP (toks [] (plainL false l)) with
 | (0, x) => if 256 < x.length then (3, []) else (0, x)
 | (e, _) => (e, [])
def joinW : List (List UInt8) -> List UInt8
 | [] => []
 | [t] => t
 | t :: u :: r => t ++ 32 :: joinW (u :: r)
theorem join_cons (t : List UInt8) (r : List (List UInt8)) : joinW (t :: r) = t ++ (r.map fun x => [32] ++ x).flatten := by
 induction r generalizing t with
 | nil => simp [joinW]
 | cons u r ih => rw [joinW, ih u]; simp

end Go.Ev
namespace Go.Proofs.YtlojijllmadnoaaGreatDoor
open Go.Ev
theorem idxB_bs {l : List UInt8} {i : Nat} : idxB (bs l) i = (l[i]?).map (fun b => .sv (.int .u8 (b.toNat : Int))) := by
 unfold idxB
 rw [bs_get]
 cases l[i]? <;> rfl
theorem mk_bs {l : List UInt8} : ByteArray.mk l.toArray = bs l := _root_.id rfl
theorem beq_nil {α : Type} [BEq α] {a : α} {l : List α} : ((a :: l) == []) = false := _root_.id rfl
theorem nil_beq {α : Type} [BEq α] : (([] : List α) == []) = true := _root_.id rfl
theorem u8_back (b : UInt8) : ((b.toNat : Int)).toNat.toUInt8 = b := by simp
theorem index_cases (c : UInt8) (l : List UInt8) : (l.contains c = false /\ Lib.indexByte l c = -1 /\ frontL c l = l /\ backL c l = []) \/
  ∃ i : Nat, l.contains c = true /\ Lib.indexByte l c = (i : Int) /\ i < l.length /\ l.take i = frontL c l /\ l.drop (i + 1) = backL c l := by
 induction l with
 | nil => exact .inl ⟨rfl, rfl, rfl, rfl⟩
 | cons b l ih =>
  by_cases hb : b = c
  ·subst hb
   refine .inr ⟨0, by simp, ?_, by simp, by simp [frontL], by simp [backL]⟩
   unfold Lib.indexByte
   simp
  ·have hb' : (b == c) = false := by simpa using hb
   have hn : (b != c) = true := by simpa using hb
   have hcb : (c == b) = false := by simpa using fun e : c = b => hb e.symm
   have hf : frontL c (b :: l) = b :: frontL c l := by unfold frontL; rw [List.takeWhile_cons, hn]; rfl
   have hk : backL c (b :: l) = backL c l := by unfold backL; rw [List.dropWhile_cons, hn]; rfl
   have hc : (b :: l).contains c = l.contains c := by rw [List.contains_cons, hcb, Bool.false_or]
   rcases ih with ⟨h1, h2, h3, h4⟩ | ⟨i, h1, h2, h3, h4, h5⟩
   ·refine .inl ⟨hc.trans h1, ?_, by rw [hf, h3], hk.trans h4⟩
    unfold Lib.indexByte
    simp [hb', h2]
   ·refine .inr ⟨i + 1, hc.trans h1, ?_, by simpa using h3, by rw [hf, List.take_succ_cons, h4], by rw [hk, List.drop_succ_cons, h5]⟩
    unfold Lib.indexByte
    have : ((i : Int) == -1) = false := by rw [beq_eq_false_iff_ne]; omega
    simp only [hb', h2, this, Bool.false_eq_true, if_false]
    omega
structure StrCx (C : Cx) : Prop where
 P : C.P = Tryz.prog
 good : C.good = good
 x1 : ∀ s c, C.X 247 [.sv (.str s), .sv (.int .u8 c)] = some (.sv (.int .i64 (Lib.indexByte s.data.toList c.toNat.toUInt8)), List.replicate 2 none)
 x2 : ∀ s c, C.X 358 [.sv (.str s), .sv (.int .u8 c)] = some (.sv (.int .i64 (Lib.countByte s.data.toList c.toNat.toUInt8)), List.replicate 2 none)
 n1 : ∀ ars, C.X 175 ars = none
 n2 : ∀ ars, C.X 126 ars = none
 n3 : ∀ ars, C.X 90 ars = none
 n4 : ∀ ars, C.X 343 ars = none
 n5 : ∀ ars, C.X 128 ars = none
 n6 : ∀ (s : ByteArray) (b : UInt8), C.X 93 [.sv (.str s), .sv (.str (bs [b]))] = none
theorem CB_str : StrCx CB := ⟨rfl, rfl, fun _ _ => rfl, fun _ _ => rfl, fun _ => rfl, fun _ => rfl, fun _ => rfl, fun _ => rfl, fun _ => rfl, fun _ _ => rfl⟩
theorem CX_str : StrCx CX := ⟨rfl, rfl, fun _ _ => rfl, fun _ _ => rfl, fun _ => rfl, fun _ => rfl, fun _ => rfl, fun _ => rfl, fun _ => rfl, fun _ _ => rfl⟩
section
variable {C : Cx}
theorem x_index (h : StrCx C) (s : ByteArray) (c : UInt8) : Go.Ev.Fn C 247 [.str s, .int .u8 (c.toNat : Int)] (.int .i64 (Lib.indexByte s.data.toList c)) := by
 refine ⟨1, List.replicate 2 none, ?_⟩
 have := h.x1 s (c.toNat : Int)
 rw [u8_back] at this
 show (match C.X _ _ with | some r => some r | none => _) = _
 rw [show ([SV.str s, SV.int .u8 (c.toNat : Int)].map Arg.sv) = [.sv (.str s), .sv (.int .u8 (c.toNat : Int))] from rfl, this]
theorem x_count (h : StrCx C) (s : ByteArray) (c : UInt8) : Go.Ev.Fn C 358 [.str s, .int .u8 (c.toNat : Int)] (.int .i64 (Lib.countByte s.data.toList c)) := by
 refine ⟨1, List.replicate 2 none, ?_⟩
 have := h.x2 s (c.toNat : Int)
 rw [u8_back] at this
 show (match C.X _ _ with | some r => some r | none => _) = _
 rw [show ([SV.str s, SV.int .u8 (c.toNat : Int)].map Arg.sv) = [.sv (.str s), .sv (.int .u8 (c.toNat : Int))] from rfl, this]
theorem lite_IndexByte (h : StrCx C) (s : ByteArray) (c : UInt8) : Go.Ev.Fn C 175 [.str s, .int .u8 (c.toNat : Int)] (.int .i64 (Lib.indexByte s.data.toList c)) := by
 have hx := x_index h s c
 obtain ⟨P, X, mu, gd⟩ := C
 obtain ⟨rfl, rfl, _, _, n1, n2, n3, n4, n5, n6⟩ := h
 refine Go.Ev.Fn.intro (fn := Tryz.f175) (body := (Tryz.f175).body.get!) (by kernel_rfl) (by kernel_rfl) (by kernel_rfl) n1 (Nat.le_of_ble_eq_true (by kernel_rfl)) ?_; unfold Tryz.f175; simp only [Option.get!_some]
 simp only [go_sem]
 refine vf_of (hx) ?_; simp only [go_sem]
theorem lite_Index (h : StrCx C) (l : List UInt8) (c : UInt8) : Go.Ev.Fn C 126 [.str (bs l), .str (bs [c])] (.int .i64 (Lib.indexByte l c)) := by
 have hx := lite_IndexByte h (bs l) c
 rw [bs_toList] at hx
 obtain ⟨P, X, mu, gd⟩ := C
 obtain ⟨rfl, rfl, _, _, n1, n2, n3, n4, n5, n6⟩ := h
 refine Go.Ev.Fn.intro (fn := Tryz.f126) (body := (Tryz.f126).body.get!) (by kernel_rfl) (by kernel_rfl) (by kernel_rfl) n2 (Nat.le_of_ble_eq_true (by kernel_rfl)) ?_; unfold Tryz.f126; simp only [Option.get!_some]
 by_cases he : [c] = l
 ·subst he
  have : Lib.indexByte [c] c = 0 := by unfold Lib.indexByte; simp
  rw [this]
  repeat (first|simp only [go_sem, bs_size, bs_eq, BEq.rfl]|simp (disch := first|exact oa|fail) only [AX, bs_size, bs_eq, BEq.rfl]|refine wki ?_|refine wqn ?_|refine vpx [] ?_)
 ·have he : ([c] == l) = false := by simpa using he
  repeat (first|simp only [go_sem, bs_size, vo_ix, idxB_bs, bs_eq, he]|simp (disch := first|exact oa|fail) only [AX, bs_size, vo_ix, idxB_bs, bs_eq, he]|refine wki ?_|refine wqn ?_|refine vpx [] ?_|refine vf_of (by first|exact hx) ?_)
theorem str_Index (h : StrCx C) (l : List UInt8) (c : UInt8) : Go.Ev.Fn C 90 [.str (bs l), .str (bs [c])] (.int .i64 (Lib.indexByte l c)) := by
 have hx := lite_Index h l c
 obtain ⟨P, X, mu, gd⟩ := C
 obtain ⟨rfl, rfl, _, _, n1, n2, n3, n4, n5, n6⟩ := h
 refine Go.Ev.Fn.intro (fn := Tryz.f90) (body := (Tryz.f90).body.get!) (by kernel_rfl) (by kernel_rfl) (by kernel_rfl) n3 (Nat.le_of_ble_eq_true (by kernel_rfl)) ?_; unfold Tryz.f90; simp only [Option.get!_some]
 simp only [go_sem]
 refine vf_of (hx) ?_; simp only [go_sem]
theorem str_Count (h : StrCx C) (l : List UInt8) (c : UInt8) : Go.Ev.Fn C 343 [.str (bs l), .str (bs [c])] (.int .i64 (l.count c)) := by
 have hx := x_count h (bs l) c
 rw [bs_toList, show Lib.countByte l c = l.count c from rfl] at hx
 obtain ⟨P, X, mu, gd⟩ := C
 obtain ⟨rfl, rfl, _, _, n1, n2, n3, n4, n5, n6⟩ := h
 refine Go.Ev.Fn.intro (fn := Tryz.f343) (body := (Tryz.f343).body.get!) (by kernel_rfl) (by kernel_rfl) (by kernel_rfl) n4 (Nat.le_of_ble_eq_true (by kernel_rfl)) ?_; unfold Tryz.f343; simp only [Option.get!_some]
 repeat (first|simp only [go_sem, bs_size, vo_ix, idxB_bs]|simp (disch := first|exact oa|fail) only [AX, bs_size, vo_ix, idxB_bs]|refine wki ?_|refine wqn ?_|refine vpx [] ?_)
 refine vf_of (hx) ?_; simp only [go_sem]
theorem lite_Cut (h : StrCx C) (l : List UInt8) (c : UInt8) (hl : l.length <= 1099511627776) : Go.Ev.Fn C 128 [.str (bs l), .str (bs [c])] (.tup [.str (bs (frontL c l)), .str (bs (backL c l)), .bool (l.contains c)]) := by
 have hx := lite_Index h l c
 obtain ⟨P, X, mu, gd⟩ := C
 obtain ⟨rfl, rfl, _, _, n1, n2, n3, n4, n5, n6⟩ := h
 refine Go.Ev.Fn.intro (fn := Tryz.f128) (body := (Tryz.f128).body.get!) (by kernel_rfl) (by kernel_rfl) (by kernel_rfl) n5 (Nat.le_of_ble_eq_true (by kernel_rfl)) ?_; unfold Tryz.f128; simp only [Option.get!_some]
 rcases index_cases c l with ⟨h1, h2, h3, h4⟩ | ⟨i, h1, h2, h3, h4, h5⟩
 ·rw [h2] at hx
  rw [h1, h3, h4]
  repeat (first|simp only [go_sem, bs_size]|simp (disch := first|exact oa|fail) only [AX, bs_size]|refine wki ?_|refine wqn ?_|refine vpx [] ?_|refine vf_of (by first|exact hx) ?_)
  rfl
 ·rw [h2] at hx
  rw [h1, <- h4, <- h5]
  repeat (first|simp only [go_sem, bs_size, bs_extract]|simp (disch := first|exact oa|fail) only [AX, bs_size, bs_extract]|refine wki ?_|refine wqn ?_|refine vpx [] ?_|refine vf_of (by first|exact hx) ?_)
  rw [List.take_of_length_le (by simp)]
theorem str_Cut (h : StrCx C) (l : List UInt8) (c : UInt8) (hl : l.length <= 1099511627776) : Go.Ev.Fn C 93 [.str (bs l), .str (bs [c])] (.tup [.str (bs (frontL c l)), .str (bs (backL c l)), .bool (l.contains c)]) := by
 have hx := lite_Cut h l c hl
 obtain ⟨P, X, mu, gd⟩ := C
 obtain ⟨rfl, rfl, _, _, n1, n2, n3, n4, n5, n6⟩ := h
 refine Go.Ev.Fn.introAt (fn := Tryz.f93) (body := (Tryz.f93).body.get!) (by kernel_rfl) (by kernel_rfl) (by kernel_rfl) (n6 _ _) (Nat.le_of_ble_eq_true (by kernel_rfl)) ?_; unfold Tryz.f93; simp only [Option.get!_some]
 simp only [go_sem]
 refine vf_of (hx) ?_; simp only [go_sem]
end
end Go.Proofs.YtlojijllmadnoaaGreatDoor
namespace Go.Proofs.YtlojijllmadnoaaGreatDoor
open Go.Ev
theorem split_none {c : UInt8} {l : List UInt8} (h : l.contains c = false) : splitB c l = [l] := by
 induction l with
 | nil => rfl
 | cons b l ih =>
  rw [List.contains_cons, Bool.or_eq_false_iff] at h
  have hb : (b == c) = false := by
   have := h.1
   simp only [beq_eq_false_iff_ne] at this ⊢
   exact fun e => this e.symm
  unfold splitB
  rw [hb, ih h.2]
  rfl
theorem split_some {c : UInt8} {l : List UInt8} (h : l.contains c = true) : splitB c l = frontL c l :: splitB c (backL c l) := by
 induction l with
 | nil => simp at h
 | cons b l ih =>
  by_cases hb : b = c
  ·subst hb
   rw [show frontL b (b :: l) = [] by simp [frontL], show backL b (b :: l) = l by simp [backL], splitB]
   simp
  ·have hb' : (b == c) = false := by simpa using hb
   have hn : (b != c) = true := by simpa using hb
   have hcb : (c == b) = false := by simpa using fun e : c = b => hb e.symm
   rw [List.contains_cons, hcb, Bool.false_or] at h
   have hf : frontL c (b :: l) = b :: frontL c l := by unfold frontL; rw [List.takeWhile_cons, hn]; rfl
   have hk : backL c (b :: l) = backL c l := by unfold backL; rw [List.dropWhile_cons, hn]; rfl
   rw [hf, hk, splitB, hb', ih h]
   rfl
theorem split_len (c : UInt8) (l : List UInt8) : (splitB c l).length = l.count c + 1 := by
 induction l with
 | nil => rfl
 | cons b l ih =>
  unfold splitB
  rw [List.count_cons]
  cases h : b == c with
  | true => simp [ih]
  | false =>
   simp only [Bool.false_eq_true, if_false, Nat.add_zero]
   cases hs : splitB c l with
   | nil => rw [hs] at ih; simp at ih
   | cons x xs => rw [hs] at ih; exact ih
theorem count_le {c : UInt8} {l : List UInt8} : l.count c <= l.length := List.count_le_length
theorem back_len {c : UInt8} {l : List UInt8} : (backL c l).length <= l.length := by
 unfold backL
 rw [List.length_tail]
 have := (List.dropWhile_sublist (l := l) (fun x => x != c)).length_le
 omega
theorem gen_row (l : List UInt8) (c : UInt8) (hl : l.length <= 1048576) :
  ∃ n, rowN CB.P CB.X CB.mu CB.good n 315 ([.str (bs l), .str (bs [c]), .int .i64 0, .int .i64 (-1)].map Arg.sv) = some (.row ((splitB c l).map strC) 1 0 (splitB c l).length, List.replicate 4 none) := by
 have hc := str_Count CB_str l c
 have hlen := split_len c l
 have hcl := count_le (c := c) (l := l)
 refine row_intro (fn := Tryz.f315) (body := (Tryz.f315).body.get!) (by kernel_rfl) (by kernel_rfl) (by kernel_rfl) (Nat.le_of_ble_eq_true (by kernel_rfl)) ?_
 unfold Tryz.f315
 simp only [Option.get!_some]
 generalize hm : l.count c = m at *
 repeat (first|simp only [go_sem, bs_size, bs_list, mk_bs, beq_nil]|simp (disch := first|exact oa|fail) only [AX, bs_size, bs_list, mk_bs, beq_nil]|refine wki ?_|refine wqn ?_|refine vpx [] ?_|refine vf_of (by first|exact hc) ?_)
 refine vp_loop_inv (fun s => s.tmp 1 = .sv (.str (bs [c])) /\ s.tmp 2 = .sv (.int .i64 0) /\ s.tmp 3 = .sv (.int .i64 (m : Int)) /\ s.tmp 9 = .ref 31 0 1 0 (m + 1) /\
   ∃ (i : Nat) (r : List UInt8) (cs : List SV), s.tmp 10 = .sv (.int .i64 (i : Int)) /\ s.tmp 0 = .sv (.str (bs r)) /\ s.obj 31 0 = some cs /\ i <= m /\ r.length <= l.length /\ splitB c r = (splitB c l).drop i /\ cs.length = m + 1 /\ cs.take i = ((splitB c l).take i).map strC)
  (fun s => match s.tmp 10 with | .sv (.int _ i) => m - i.toNat | _ => 0) ?_ ?_
 ·refine ⟨rfl, rfl, rfl, rfl, 0, l, _, rfl, rfl, rfl, by omega, by omega, rfl, by simp, rfl⟩
 rintro s2 ⟨i1, i2, i3, i9, i, r, cs, i10, i0, iO, hi, hr, hs, hcs, ht⟩
 by_cases hend : i = m
 ·subst hend
  have h1 : (splitB c r).length = 1 := by rw [hs, List.length_drop, hlen]; omega
  have hnc : r.contains c = false := by
   cases hb : r.contains c with
   | false => rfl
   | true =>
    rw [split_some hb] at h1
    have := split_len c (backL c r)
    simp at h1
    rw [h1] at this
    simp at this
  have hl1 : (splitB c l).drop i = [r] := by rw [<- hs, split_none hnc]
  have hall : cs.take i ++ [strC r] ++ cs.drop (i + 1) = (splitB c l).map strC := by
   rw [ht, List.drop_of_length_le (by omega), List.append_nil]
   have := List.take_append_drop i (splitB c l)
   rw [hl1] at this
   have e := congrArg (List.map strC) this
   rw [List.map_append] at e
   exact e
  unfold strC at hall
  repeat (first|simp only [go_sem, i1, i2, i3, i9, i10, i0, iO, bs_size, hcs, hall, hlen]|simp (disch := first|exact oa|fail) only [AX, i1, i2, i3, i9, i10, i0, iO, bs_size, hcs, hall, hlen]|refine wki ?_|refine wqn ?_|refine vpx [] ?_)
  rfl
 ·have hlt : i < m := by omega
  have h1 : (splitB c r).length = m + 1 - i := by rw [hs, List.length_drop, hlen]
  have hct : r.contains c = true := by
   cases hb : r.contains c with
   | true => rfl
   | false =>
    rw [split_none hb] at h1
    simp at h1
    omega
  have hix := str_Index CB_str r c
  rcases index_cases c r with ⟨h2, _⟩ | ⟨k, _, h3, h4, h5, h6⟩
  ·rw [hct] at h2; cases h2
  rw [h3] at hix
  rw [split_some hct] at hs
  have hd : (splitB c l).drop (i + 1) = splitB c (backL c r) := by
   rw [<- List.drop_drop, <- hs]
   rfl
  have hg : (splitB c l)[i]? = some (frontL c r) := by
   have := congrArg (fun x => x[0]?) hs
   simpa using this.symm
  have hn : cs.take i ++ [SV.str (bs (frontL c r))] ++ cs.drop (i + 1) = cs.set i (.str (bs (frontL c r))) := by
   rw [List.set_eq_take_append_cons_drop, if_pos (by omega)]
   simp
  have hbl := back_len (c := c) (l := r)
  repeat (first|simp only [go_sem, i1, i2, i3, i9, i10, i0, iO, bs_size, hcs, bs_list, mk_bs, Int.add_zero, Int.toNat_natCast, bs_extract, List.drop_zero, Nat.sub_zero, h5, h6, hn]|simp (disch := first|exact oa|fail) only [AX, i1, i2, i3, i9, i10, i0, iO, bs_size, hcs, bs_list, mk_bs, Int.add_zero, Int.toNat_natCast, bs_extract, List.drop_zero, Nat.sub_zero, h5, h6, hn]|refine wki ?_|refine wqn ?_|refine vpx [] ?_|refine vf_of (by first|exact hix) ?_)
  refine ⟨⟨i + 1, backL c r, cs.set i (.str (bs (frontL c r))), rfl, ?_, rfl, by omega, by omega, hd.symm, by rw [List.length_set]; exact hcs, ?_⟩, by omega⟩
  ·rw [<- h6]
   congr 3
   rw [List.take_of_length_le (by rw [List.length_drop]; omega)]
  ·rw [List.take_add_one, List.take_add_one, List.map_append, List.take_set_of_le (Nat.le_refl _), ht, List.getElem?_set_self (by omega), hg]
   rfl
theorem xT_ok {G : List (Nat × Value)} (hS : CallOk Tryz.prog G xS) : CallOk Tryz.prog G xT := by
 refine tab_row_ok (mu := CB.mu) (good := good) (tabOk_of hS xS_none) good_ok xT fun g args r exps hx => ?_
 unfold xT at hx
 split at hx
 ·rename_i hg
  have hg : g = 315 := Nat.eq_of_beq_eq_true hg
  subst hg
  unfold xGenSplit at hx
  split at hx
  ·rename_i s sep
   split at hx
   ·rename_i c hc
    split at hx
    ·rename_i hl
     cases hx
     have e1 : s = bs s.data.toList := rfl
     have e2 : sep = bs [c] := by rw [<- hc]; rfl
     rw [e2]
     have hl' : s.data.toList.length <= 1048576 := by rw [<- bs_size]; exact hl
     exact .inr (.inl (gen_row s.data.toList c hl'))
    ·cases hx
   ·cases hx
  ·cases hx
 ·exact .inl hx
theorem split_row (l : List UInt8) (c : UInt8) (hl : l.length <= 1048576) :
  ∃ n, rowN CZ.P CZ.X CZ.mu CZ.good n 254 ([.str (bs l), .str (bs [c])].map Arg.sv) = some (.row ((splitB c l).map strC) 1 0 (splitB c l).length, List.replicate 2 none) := by
 refine row_intro (fn := Tryz.f254) (body := (Tryz.f254).body.get!) (by kernel_rfl) (by kernel_rfl) (by kernel_rfl) (Nat.le_of_ble_eq_true (by kernel_rfl)) ?_
 unfold Tryz.f254
 simp only [Option.get!_some]
 have hg : FnR CZ 315 [.str (bs l), .str (bs [c]), .int .i64 0, .int .i64 (-1)] ((splitB c l).map strC) 1 0 (splitB c l).length := by
  refine ⟨1, List.replicate 4 none, ?_⟩
  have h : xT 315 [.sv (.str (bs l)), .sv (.str (bs [c])), .sv (.int .i64 0), .sv (.int .i64 (-1))] = some (.row ((splitB c l).map strC) 1 0 (splitB c l).length, List.replicate 4 none) := by
   unfold xT
   rw [if_pos (by rfl)]
   unfold xGenSplit
   simp only [bs_toList]
   rw [if_pos (by rw [bs_size]; exact hl)]
  unfold callN
  have h4 : CZ.X 315 ([SV.str (bs l), .str (bs [c]), .int .i64 0, .int .i64 (-1)].map Arg.sv) = some (.row ((splitB c l).map strC) 1 0 (splitB c l).length, List.replicate 4 none) := h
  rw [stq_sv, h4]
 simp only [go_sem]
 refine vf_row hg ?_
 simp only [go_sem]
end Go.Proofs.YtlojijllmadnoaaGreatDoor
namespace Go.Proofs.YtlojijllmadnoaaGreatDoor
open Go.Ev
theorem clone_ok {G : List (Nat × Value)} (hG : GMet G) : CallOk Tryz.prog G CZ.X := xT_ok (xS_ok hG)
theorem cz_none (f : FuncId) (k : Bool) (st : St) (vs : List TV) : CZ.X f [.st k st vs] = none := by
 show xT f [.st k st vs] = none
 unfold xT
 split
 ·rfl
 exact xS_none f k st vs
end Go.Proofs.YtlojijllmadnoaaGreatDoor
