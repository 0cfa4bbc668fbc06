/- Part 4 of the proof: the evaluator, contracts of functions and their plain laws (joined by program). No condition. -/
import Derived.Test.YtkkmnjhecjkhgaaGreatDoorPart3
import Derived.Lib.Bytealg
import Derived.Lib.Join
import Derived.Lib.SlTrimSet
import Derived.Lib.Atoi
import Derived.Laws.Externs
import Derived.Shelf.Strings.OnBuilder
import Derived.Shelf.Strings.SlTrimAscii
import Derived.Shelf.Strconv.Atoi
import Derived.Test.YtkkmnjhecjkhgaaGreatDoorProg
set_option linter.unusedVariables false
set_option linter.unusedSimpArgs false
set_option maxRecDepth 100000
namespace Go.Ev
open Go.RowKit
def CallAt (P : Program) (g : FuncId) (args : List Arg) (r : Ret) (exps : List (Option (List SV))) : Prop :=
  ∀ (w : World) (F : Nat → Prop) (B : Nat → Nat) (vals : Array Value), (∀ b, F b → b < w.heap.size) → vals.size = args.length →
    (∀ (i : Nat) (x : Arg), args[i]? = some x → ArgRep w F (vals.getD i undef) (B i) x) →
    (∀ (i j : Nat) (x y : Arg), args[i]? = some x → args[j]? = some y → isImp x = true → isImp y = true → B i = B j → i = j) →
    Invk P g vals w fun e w' => ∃ v, e = .returned v ∧ RetRep w w' F v r ∧ Ext (impB args B) w w' ∧ ∀ (i : Nat) (cs : List SV), exps[i]? = some (some cs) → Holds w' F (B i) cs
theorem sv_imp {ss : List SV} {B : Nat → Nat} {b : Nat} : ¬ impB (ss.map Arg.sv) B b := by
  rintro ⟨i, x, hx, hi, _⟩
  rw [List.getElem?_map] at hx
  cases hs : ss[i]? with
  | none => rw [hs] at hx; cases hx
  | some s => rw [hs] at hx; cases hx; cases hi
theorem ext_below {w w' : World} {J : Nat → Prop} (h : Below w.heap.size w w') (hJ : ∀ b, ¬ J b) : Ext J w w' :=
  ⟨h.os, h.tape, h.output, h.size, fun b hb _ => h.block b hb, fun b cs ty hb hi _ => (hJ b hi).elim⟩
theorem at_extern {P : Program} {g : FuncId} {ss : List SV} {s : SV} {exps : List (Option (List SV))} (he : ∀ i : Nat, exps[i]? ≠ some (some []) ∧ ∀ cs, exps[i]? ≠ some (some cs))
    (h : ∀ (w : World) (F : Nat → Prop) (vals : Array Value), vals.size = ss.length → (∀ (i : Nat) (x : SV), ss[i]? = some x → Rep w F (vals.getD i undef) x) → ∃ v, (callFunc g vals).run P w = .ok (.value v) w ∧ Rep w F v s) :
    CallAt P g (ss.map Arg.sv) (.sv s) exps := by
  intro w F B vals hF hsz hrep hinj
  obtain ⟨v, hv, hr⟩ := h w F vals (by simpa using hsz) (fun i x hx => by
    have := hrep i (.sv x) (by rw [List.getElem?_map, hx]; rfl)
    exact this)
  exact .inr ⟨v, hv, v, rfl, hr, ext_below (Below.refl _ _) (fun b => sv_imp), fun i cs hi => ((he i).2 cs hi).elim⟩
theorem at_calls {P : Program} {g : FuncId} {ss : List SV} {s : SV} {exps : List (Option (List SV))} (hE : Enters P g) (he : ∀ i : Nat, exps[i]? ≠ some (some []) ∧ ∀ cs, exps[i]? ≠ some (some cs))
    (h : ∀ (w : World) (F : Nat → Prop) (vals : Array Value), vals.size = ss.length → (∀ (i : Nat) (x : SV), ss[i]? = some x → Rep w F (vals.getD i undef) x) → Calls P g vals w fun e w' => ∃ v, e = .returned v ∧ Rep w' F v s ∧ Below w.heap.size w w') :
    CallAt P g (ss.map Arg.sv) (.sv s) exps := by
  intro w F B vals hF hsz hrep hinj
  refine .inl ⟨hE, (h w F vals (by simpa using hsz) (fun i x hx => hrep i (.sv x) (by rw [List.getElem?_map, hx]; rfl))).mono ?_⟩
  rintro e w' ⟨v, rfl, hr, hb⟩
  exact ⟨v, rfl, hr, ext_below hb (fun b => sv_imp), fun i cs hi => ((he i).2 cs hi).elim⟩
theorem none_exps {n : Nat} (i : Nat) : (List.replicate n (none : Option (List SV)))[i]? ≠ some (some []) ∧ ∀ cs, (List.replicate n (none : Option (List SV)))[i]? ≠ some (some cs) := by
  constructor
  · intro h
    rw [List.getElem?_replicate] at h
    split at h <;> simp at h
  · intro cs h
    rw [List.getElem?_replicate] at h
    split at h <;> simp at h
def xIndex : List Arg → Option (Ret × List (Option (List SV)))
  | [.sv (.str s), .sv (.int .u8 c)] => some (.sv (.int .i64 (Lib.indexByte s.data.toList c.toNat.toUInt8)), List.replicate 2 none)
  | _ => none
def xCount : List Arg → Option (Ret × List (Option (List SV)))
  | [.sv (.str s), .sv (.int .u8 c)] => some (.sv (.int .i64 (Lib.countByte s.data.toList c.toNat.toUInt8)), List.replicate 2 none)
  | _ => none
def xTrim : List Arg → Option (Ret × List (Option (List SV)))
  | [.sv (.str s), .sv (.str c)] => if s.size ≤ 9223372036854775807 ∧ c.size < 4294967281 ∧ c.data.toList.all (fun b => decide (b.toNat < 128)) = true then some (.sv (.str (bs (Lib.trimS s.data.toList c.data.toList))), List.replicate 2 none) else none
  | _ => none
def xTrimLeft : List Arg → Option (Ret × List (Option (List SV)))
  | [.sv (.str s), .sv (.str c)] => if c.size < 4294967281 ∧ c.data.toList.all (fun b => decide (b.toNat < 128)) = true then some (.sv (.str (bs (Lib.trimLeftS s.data.toList c.data.toList))), List.replicate 2 none) else none
  | _ => none
def xAtoi : List Arg → Option (Ret × List (Option (List SV)))
  | [.sv (.str s)] => match Lib.atoi s.data.toList with
    | some v => if s.size ≤ 18 then some (.sv (.tup [.int .i64 v, .con .nilIface]), List.replicate 1 none) else none
    | none => none
  | _ => none
def strsOf : List SV → Option (List (List UInt8))
  | [] => some []
  | .str s :: r => match strsOf r with
    | some l => some (s.data.toList :: l)
    | none => none
  | _ => none
def xJoin : List Arg → Option (Ret × List (Option (List SV)))
  | [.sv (.sl n cs), .sv (.str sep)] => match strsOf cs with
    | some xs => if xs.length = n ∧ n ≤ 140737488355328 ∧ (Lib.join xs sep.data.toList).length ≤ 140737488355328 then some (.sv (.str (bs (Lib.join xs sep.data.toList))), List.replicate 2 none) else none
    | none => none
  | _ => none
def splitB (c : UInt8) : List UInt8 → List (List UInt8)
  | [] => [[]]
  | b :: r => if b == c then [] :: splitB c r else match splitB c r with
    | x :: xs => (b :: x) :: xs
    | [] => [[b]]
def strC (l : List UInt8) : SV := .str (bs l)
def xGenSplit : List Arg → Option (Ret × List (Option (List SV)))
  | [.sv (.str s), .sv (.str sep), .sv (.int .i64 0), .sv (.int .i64 (-1))] => match sep.data.toList with
    | [c] => if s.size ≤ 1048576 then some (.row ((splitB c s.data.toList).map strC) 1 0 (splitB c s.data.toList).length, List.replicate 4 none) else none
    | _ => none
  | _ => none
def xSplit : List Arg → Option (Ret × List (Option (List SV)))
  | [.sv (.str s), .sv (.str sep)] => match sep.data.toList with
    | [c] => if s.size ≤ 1048576 then some (.row ((splitB c s.data.toList).map strC) 1 0 (splitB c s.data.toList).length, List.replicate 2 none) else none
    | _ => none
  | _ => none
section
variable {P : Program} {g : FuncId} {fn : Func} {args : List Arg} {r : Ret} {exps : List (Option (List SV))}
theorem rep_str2 {w : World} {F : Nat → Prop} {vals : Array Value} {s : ByteArray} {x : SV} (hsz : vals.size = 2) (h : ∀ (i : Nat) (y : SV), [SV.str s, x][i]? = some y → Rep w F (vals.getD i undef) y) : ∃ v, vals = #[.string s, v] ∧ Rep w F v x := by
  have h0 := h 0 _ rfl
  have h1 := h 1 _ rfl
  obtain ⟨l⟩ := vals
  match l, hsz, h0, h1 with
  | [a, b], _, h0, h1 =>
    have h0 : Rep w F a (.str s) := h0
    have h1 : Rep w F b x := h1
    rw [rep_str h0]
    exact ⟨b, rfl, h1⟩
theorem index_at (hf : P.funcs[g]? = some fn) (hname : (fn.name == "runtime.NumGoroutine") = false) (hb : fn.body.isNone = true) (hn : Extern.findNext fn = none) (he : Extern.find fn = some Extern.BytealgIndexByte.indexByte)
    (h : xIndex args = some (r, exps)) : CallAt P g args r exps := by
  unfold xIndex at h
  split at h
  · rename_i s c
    cases h
    refine at_extern (ss := [.str s, .int .u8 c]) none_exps fun w F vals hsz hrep => ?_
    obtain ⟨v, rfl, hv⟩ := rep_str2 hsz hrep
    rw [rep_int hv]
    refine ⟨_, ?_, .int _ _⟩
    rw [run_callFunc_extern hf hname hb hn he, Lib.run_indexByteString]
    rfl
  · cases h
theorem count_at (hf : P.funcs[g]? = some fn) (hname : (fn.name == "runtime.NumGoroutine") = false) (hb : fn.body.isNone = true) (hn : Extern.findNext fn = none) (he : Extern.find fn = some Extern.BytealgCount.count)
    (h : xCount args = some (r, exps)) : CallAt P g args r exps := by
  unfold xCount at h
  split at h
  · rename_i s c
    cases h
    refine at_extern (ss := [.str s, .int .u8 c]) none_exps fun w F vals hsz hrep => ?_
    obtain ⟨v, rfl, hv⟩ := rep_str2 hsz hrep
    rw [rep_int hv]
    refine ⟨_, ?_, .int _ _⟩
    rw [run_callFunc_extern hf hname hb hn he, Lib.run_countString]
    rfl
  · cases h
theorem trim_at (hE : Enters P g) (hC : ∀ (s c : ByteArray) (w : World), s.size ≤ 9223372036854775807 → c.size < 4294967281 → (∀ (j : Nat) b, c.data.toList[j]? = some b → b.toNat < 128) →
      Calls P g #[.string s, .string c] w fun e w' => e = .returned (.string ⟨(Lib.trimS s.data.toList c.data.toList).toArray⟩) ∧ Below w.heap.size w w')
    (h : xTrim args = some (r, exps)) : CallAt P g args r exps := by
  unfold xTrim at h
  split at h
  · rename_i s c
    split at h
    · rename_i hc
      cases h
      refine at_calls (ss := [.str s, .str c]) hE none_exps fun w F vals hsz hrep => ?_
      obtain ⟨v, rfl, hv⟩ := rep_str2 hsz hrep
      rw [rep_str hv]
      refine (hC s c w hc.1 hc.2.1 (fun j b hb => of_decide_eq_true (List.all_eq_true.1 hc.2.2 b (List.mem_of_getElem? hb)))).mono ?_
      rintro e w' ⟨rfl, hb⟩
      exact ⟨_, rfl, .str _, hb⟩
    · cases h
  · cases h
theorem trimLeft_at (hE : Enters P g) (hC : ∀ (s c : ByteArray) (w : World), c.size < 4294967281 → (∀ (j : Nat) b, c.data.toList[j]? = some b → b.toNat < 128) →
      Calls P g #[.string s, .string c] w fun e w' => e = .returned (.string ⟨(Lib.trimLeftS s.data.toList c.data.toList).toArray⟩) ∧ Below w.heap.size w w')
    (h : xTrimLeft args = some (r, exps)) : CallAt P g args r exps := by
  unfold xTrimLeft at h
  split at h
  · rename_i s c
    split at h
    · rename_i hc
      cases h
      refine at_calls (ss := [.str s, .str c]) hE none_exps fun w F vals hsz hrep => ?_
      obtain ⟨v, rfl, hv⟩ := rep_str2 hsz hrep
      rw [rep_str hv]
      refine (hC s c w hc.1 (fun j b hb => of_decide_eq_true (List.all_eq_true.1 hc.2 b (List.mem_of_getElem? hb)))).mono ?_
      rintro e w' ⟨rfl, hb⟩
      exact ⟨_, rfl, .str _, hb⟩
    · cases h
  · cases h
theorem atoi_at (hE : Enters P g) (hC : ∀ (s : ByteArray) (v : Int) (w : World), s.size ≤ 18 → Lib.atoi s.data.toList = some v →
      Calls P g #[.string s] w fun e w' => e = .returned (.tuple #[.int .i64 v, .nilIface]) ∧ Below w.heap.size w w')
    (h : xAtoi args = some (r, exps)) : CallAt P g args r exps := by
  unfold xAtoi at h
  split at h
  · rename_i s
    split at h
    · rename_i v hv
      split at h
      · rename_i hc
        cases h
        refine at_calls (ss := [.str s]) hE none_exps fun w F vals hsz hrep => ?_
        have h0 := hrep 0 _ rfl
        obtain ⟨l⟩ := vals
        match l, hsz, h0 with
        | [a], _, h0 =>
          have h0 : Rep w F a (.str s) := h0
          rw [rep_str h0]
          refine (hC s v w hc hv).mono ?_
          rintro e w' ⟨rfl, hb⟩
          refine ⟨_, rfl, .tup _ _ rfl (fun i x hx => ?_), hb⟩
          match i with
          | 0 => cases hx; exact .int _ _
          | 1 => cases hx; exact .con _ rfl
          | i + 2 => simp at hx
      · cases h
    · cases h
  · cases h
theorem strsOf_get : ∀ {cs : List SV} {xs : List (List UInt8)}, strsOf cs = some xs → cs = xs.map (fun l => .str (bs l))
  | [], xs, h => by cases h; rfl
  | c :: r, xs, h => by
    unfold strsOf at h
    split at h
    · rename_i heq; cases heq
    · rename_i s r' heq
      injection heq with e1 e2
      subst e1 e2
      split at h
      · rename_i l hl
        cases h
        rw [List.map_cons, ← strsOf_get hl]
        rfl
      · cases h
    · cases h
theorem join_at (hE : Enters P g)
    (h0 : ∀ (a : Option Addr) (c : Nat) (sep : ByteArray) (w : World), Calls P g #[.slice a 0 c, .string sep] w fun e w' => e = .returned (.string ⟨#[]⟩) ∧ w' = w)
    (hC : ∀ (bk o c : Nat) (xs : List ByteArray) (sep : ByteArray) (w : World), (∀ (j : Nat) x, xs[j]? = some x → w.cell? ⟨bk, o + j, none⟩ = some (.string x)) → bk < w.heap.size → xs.length ≤ 140737488355328 → xs.length ≤ c →
      (Lib.join (xs.map (·.data.toList)) sep.data.toList).length ≤ 140737488355328 →
      Calls P g #[.slice (some ⟨bk, o, none⟩) xs.length c, .string sep] w fun e w' => e = .returned (.string ⟨(Lib.join (xs.map (·.data.toList)) sep.data.toList).toArray⟩) ∧ Below w.heap.size w w')
    (h : xJoin args = some (r, exps)) : CallAt P g args r exps := by
  unfold xJoin at h
  split at h
  · rename_i n cs sep
    split at h
    · rename_i xs hxs
      split at h
      · rename_i hc
        cases h
        obtain ⟨hn, hm, hl⟩ := hc
        refine at_calls (ss := [.sl n cs, .str sep]) hE none_exps fun w F vals hsz hrep => ?_
        have r0 := hrep 0 _ rfl
        have r1 := hrep 1 _ rfl
        obtain ⟨l⟩ := vals
        match l, hsz, r0, r1 with
        | [a, b], _, r0, r1 =>
          have r0 : Rep w F a (.sl n cs) := r0
          have r1 : Rep w F b (.str sep) := r1
          rw [rep_str r1]
          have hcs := strsOf_get hxs
          have none_case : ∀ (A : Option Addr) (cap : Nat), xs = [] → Calls P g #[.slice A 0 cap, .string sep] w fun e w' => ∃ v, e = .returned v ∧ Rep w' F v (.str (bs (Lib.join xs sep.data.toList))) ∧ Below w.heap.size w w' := by
            intro A cap hx
            subst hx
            refine (h0 A cap sep w).mono ?_
            rintro e w' ⟨rfl, rfl⟩
            exact ⟨_, rfl, .str _, Below.refl _ _⟩
          cases r0 with
          | sl0 A _ cap _ =>
            have hx : xs = [] := by
              cases xs with
              | nil => rfl
              | cons x xs => simp at hcs
            subst hx
            cases hn
            exact none_case A cap rfl
          | sl p _ cap hle _ c hb hcell hr =>
            cases xs with
            | nil => cases hn; exact none_case _ cap rfl
            | cons x xs =>
              have hcell' : ∀ (j : Nat) (y : ByteArray), ((x :: xs).map bs)[j]? = some y → w.cell? (p.add j) = some (.string y) := by
                intro j y hy
                have hj : cs[j]? = some (.str y) := by
                  rw [hcs]
                  rw [List.getElem?_map] at hy ⊢
                  cases hz : (x :: xs)[j]? with
                  | none => rw [hz] at hy; cases hy
                  | some z => rw [hz] at hy; cases hy; rfl
                rw [hcell j _ hj, rep_str (hr j _ hj)]
              have hp : p = ⟨p.block, p.off, none⟩ := by
                have := hcell' 0 _ rfl
                rw [show p.add 0 = p from rfl] at this
                obtain ⟨pb, po, ps⟩ := p
                cases ps with
                | none => rfl
                | some _ =>
                  simp [World.cell?] at this
                  split at this <;> simp at this
              have hlt : p.block < w.heap.size := World.block_lt_of_cell? w p (hcell' 0 _ rfl)
              have key := hC p.block p.off cap ((x :: xs).map bs) sep w (fun j y hy => by
                have := hcell' j y hy
                rw [hp, add_mk] at this
                exact this) hlt (by rw [List.length_map]; omega) (by rw [List.length_map]; omega) (by
                  rw [List.map_map]
                  have : (x :: xs).map ((fun y : ByteArray => y.data.toList) ∘ bs) = x :: xs := by
                    rw [show ((fun y : ByteArray => y.data.toList) ∘ bs) = id from funext fun y => bs_toList y]
                    simp
                  rw [this]
                  exact hl)
              rw [List.length_map, hn, ← hp, List.map_map] at key
              have e1 : (x :: xs).map ((fun y : ByteArray => y.data.toList) ∘ bs) = x :: xs := by
                rw [show ((fun y : ByteArray => y.data.toList) ∘ bs) = id from funext fun y => bs_toList y]
                simp
              rw [e1] at key
              refine key.mono ?_
              rintro e w' ⟨rfl, hb⟩
              exact ⟨_, rfl, .str _, hb⟩
      · cases h
    · cases h
  · cases h
end
end Go.Ev
namespace Go.Proofs.YtkkmnjhecjkhgaaGreatDoor
open Go.Ev
noncomputable abbrev muF0 (f : Nat) : Bool := Nat.beq f 172
noncomputable abbrev muF1 (f : Nat) : Bool := Bool.rec (muF0 f) true (Nat.beq f 119)
noncomputable abbrev muF2 (f : Nat) : Bool := muF1 f
noncomputable abbrev muF3 (f : Nat) : Bool := muF2 f
noncomputable abbrev muF4 (f : Nat) : Bool := muF3 f
noncomputable abbrev muF5 (f : Nat) : Bool := muF4 f
noncomputable abbrev muF (f : Nat) : Bool := muF5 f
theorem muF_at0 : muF 172 = true := by kernel_rfl
attribute [go_sem] muF_at0
theorem muF_at1 : muF 119 = true := by kernel_rfl
attribute [go_sem] muF_at1
noncomputable def xS : Callf := fun g args =>
  if Nat.beq g 116 then xIndex args else
  if Nat.beq g 167 then xCount args else
  if Nat.beq g 68 then xTrim args else
  if Nat.beq g 90 then xTrimLeft args else
  if Nat.beq g 51 then xJoin args else
  if Nat.beq g 91 then xAtoi args else
  cloneX 142 g args
noncomputable def CB : Cx := { P := Tryz.prog, X := xS, mu := muF, good := good }
theorem CB_P : CB.P = Tryz.prog := _root_.id rfl
theorem CB_mu (f : Nat) : CB.mu f = muF f := _root_.id rfl
attribute [go_sem] CB_P CB_mu
noncomputable def xT : Callf := fun g args =>
  if Nat.beq g 115 then xGenSplit args else
  xS g args
noncomputable def CZ : Cx := { P := Tryz.prog, X := xT, mu := muF, good := good }
theorem CZ_P : CZ.P = Tryz.prog := _root_.id rfl
theorem CZ_mu (f : Nat) : CZ.mu f = muF f := _root_.id rfl
noncomputable def XL : Callf := fun g args => if Nat.beq g 170 then (match args with
    | [.sv s, .sv (.int .u64 (.ofNat k)), .sv (.int .i64 (.ofNat n))] => match decV s with
      | some xs => if k < 32 ∧ xs.length ≤ n ∧ n ≤ xs.length + 1 then some (.row ((limN n (wth xs * 2 ^ k)).map limb) 1 0 n, [none, none, none]) else none
      | none => none
    | _ => none) else
  if Nat.beq g 75 then xSplit args else
  CZ.X g args
noncomputable def CX : Cx := { CZ with X := XL }
theorem CX_P : CX.P = Tryz.prog := _root_.id rfl
theorem CX_mu (f : Nat) : CX.mu f = muF f := _root_.id rfl
attribute [go_sem] CZ_P CZ_mu CX_P CX_mu Nat.reduceBEq
end Go.Proofs.YtkkmnjhecjkhgaaGreatDoor
namespace Go.Proofs
open Go.Shelf
def Tryz.lays156_ren : Go.Shelf.Ren := ⟨fun | 156 => 51 | 165 => 82 | 166 => 83 | 169 => 84 | 240 => 121 | 241 => 122 | 276 => 145 | 277 => 146 | n => n, fun | 31 => 29 | 9 => 9 | 3 => 3 | 4 => 4 | 0 => 0 | 20 => 20 | 72 => 110 | 76 => 114 | 70 => 108 | 37 => 51 | 75 => 113 | 127 => 145 | 164 => 154 | 5 => 5 | 80 => 116 | n => n, fun | n => n⟩
theorem Tryz.lays156 : Go.Proofs.Lays.n156 Tryz.prog Tryz.lays156_ren := {
  mixed := by kernel_rfl
  f156 := Tryz.func51.trans (congrArg some (by kernel_rfl))
  f165 := Tryz.func82.trans (congrArg some (by kernel_rfl))
  f166 := Tryz.func83.trans (congrArg some (by kernel_rfl))
  f169 := Tryz.func84.trans (congrArg some (by kernel_rfl))
  f240 := Tryz.func121.trans (congrArg some (by kernel_rfl))
  f241 := Tryz.func122.trans (congrArg some (by kernel_rfl))
  f276 := Tryz.func145.trans (congrArg some (by kernel_rfl))
  f277 := Tryz.func146.trans (congrArg some (by kernel_rfl))
  t0 := Tryz.underlying0
  a0 := Tryz.isAgg0
  z0 := Tryz.sizeOf0
  v0 := Tryz.zeroValue0
  t3 := Tryz.underlying3
  a3 := Tryz.isAgg3
  z3 := Tryz.sizeOf3
  v3 := Tryz.zeroValue3
  t4 := Tryz.underlying4
  a4 := Tryz.isAgg4
  z4 := Tryz.sizeOf4
  v4 := Tryz.zeroValue4
  t9 := Tryz.underlying9
  a9 := Tryz.isAgg9
  z9 := Tryz.sizeOf9
  v9 := Tryz.zeroValue9
  t20 := Tryz.underlying20
  a20 := Tryz.isAgg20
  z20 := Tryz.sizeOf20
  v20 := Tryz.zeroValue20
  t31 := Tryz.underlying29
  a31 := Tryz.isAgg29
  z31 := Tryz.sizeOf29
  v31 := Tryz.zeroValue29
  t37 := Tryz.underlying51
  a37 := Tryz.isAgg51
  z37 := Tryz.sizeOf51
  v37 := Tryz.zeroValue51
  t70 := Tryz.underlying108
  a70 := Tryz.isAgg108
  z70 := Tryz.sizeOf108
  v70 := Tryz.zeroValue108
  t72 := Tryz.underlying110
  a72 := Tryz.isAgg110
  z72 := Tryz.sizeOf110
  v72 := Tryz.zeroValue110
  t75 := Tryz.underlying113
  a75 := Tryz.isAgg113
  z75 := Tryz.sizeOf113
  v75 := Tryz.zeroValue113
  t76 := Tryz.underlying114
  a76 := Tryz.isAgg114
  z76 := Tryz.sizeOf114
  v76 := Tryz.zeroValue114
  t127 := Tryz.underlying145
  a127 := Tryz.isAgg145
  z127 := Tryz.sizeOf145
  v127 := Tryz.zeroValue145
  t164 := Tryz.underlying154
  a164 := Tryz.isAgg154
  z164 := Tryz.sizeOf154
  v164 := Tryz.zeroValue154 }
theorem Tryz.Builder_Extra_156 : Builder.Extra Tryz.prog Tryz.lays156_ren := {
  sizeBuilder := by kernel_rfl
  liesBuilder := by kernel_rfl
  t5 := Tryz.underlying5
  a5 := Tryz.isAgg5
  z5 := Tryz.sizeOf5
  v5 := Tryz.zeroValue5
  infoByte := by kernel_rfl
  cellsByte := by kernel_rfl
  sizeByte := by kernel_rfl
  neB5 := by decide }
def Tryz.lays160_ren : Go.Shelf.Ren := ⟨fun | 160 => 68 | 232 => 101 | 231 => 100 | 227 => 102 | 234 => 104 | 233 => 103 | 236 => 106 | 235 => 105 | 228 => 132 | 271 => 135 | 151 => 134 | 197 => 133 | 120 => 161 | 152 => 160 | 260 => 159 | 137 => 49 | 119 => 178 | 224 => 148 | 225 => 147 | 217 => 76 | 266 => 116 | n => n, fun | 9 => 9 | 4 => 4 | 3 => 3 | 5 => 5 | 117 => 130 | 116 => 129 | 0 => 0 | 124 => 133 | 21 => 21 | 105 => 147 | 46 => 30 | 119 => 178 | 139 => 181 | 138 => 180 | n => n, fun | 3 => 4 | 4 => 5 | n => n⟩
theorem Tryz.lays160 : Go.Proofs.Lays.n160 Tryz.prog Tryz.lays160_ren := {
  mixed := by kernel_rfl
  f119 := Tryz.func178.trans (congrArg some (by kernel_rfl))
  f120 := Tryz.func161.trans (congrArg some (by kernel_rfl))
  f137 := Tryz.func49.trans (congrArg some (by kernel_rfl))
  f151 := Tryz.func134.trans (congrArg some (by kernel_rfl))
  f152 := Tryz.func160.trans (congrArg some (by kernel_rfl))
  f160 := Tryz.func68.trans (congrArg some (by kernel_rfl))
  f197 := Tryz.func133.trans (congrArg some (by kernel_rfl))
  f217 := Tryz.func76.trans (congrArg some (by kernel_rfl))
  f224 := Tryz.func148.trans (congrArg some (by kernel_rfl))
  f225 := Tryz.func147.trans (congrArg some (by kernel_rfl))
  f227 := Tryz.func102.trans (congrArg some (by kernel_rfl))
  f228 := Tryz.func132.trans (congrArg some (by kernel_rfl))
  f231 := Tryz.func100.trans (congrArg some (by kernel_rfl))
  f232 := Tryz.func101.trans (congrArg some (by kernel_rfl))
  f233 := Tryz.func103.trans (congrArg some (by kernel_rfl))
  f234 := Tryz.func104.trans (congrArg some (by kernel_rfl))
  f235 := Tryz.func105.trans (congrArg some (by kernel_rfl))
  f236 := Tryz.func106.trans (congrArg some (by kernel_rfl))
  f260 := Tryz.func159.trans (congrArg some (by kernel_rfl))
  f266 := Tryz.func116.trans (congrArg some (by kernel_rfl))
  f271 := Tryz.func135.trans (congrArg some (by kernel_rfl))
  t0 := Tryz.underlying0
  a0 := Tryz.isAgg0
  z0 := Tryz.sizeOf0
  v0 := Tryz.zeroValue0
  t3 := Tryz.underlying3
  a3 := Tryz.isAgg3
  z3 := Tryz.sizeOf3
  v3 := Tryz.zeroValue3
  t4 := Tryz.underlying4
  a4 := Tryz.isAgg4
  z4 := Tryz.sizeOf4
  v4 := Tryz.zeroValue4
  t5 := Tryz.underlying5
  a5 := Tryz.isAgg5
  z5 := Tryz.sizeOf5
  v5 := Tryz.zeroValue5
  t9 := Tryz.underlying9
  a9 := Tryz.isAgg9
  z9 := Tryz.sizeOf9
  v9 := Tryz.zeroValue9
  t21 := Tryz.underlying21
  a21 := Tryz.isAgg21
  z21 := Tryz.sizeOf21
  v21 := Tryz.zeroValue21
  t46 := Tryz.underlying30
  a46 := Tryz.isAgg30
  z46 := Tryz.sizeOf30
  v46 := Tryz.zeroValue30
  t105 := Tryz.underlying147
  a105 := Tryz.isAgg147
  z105 := Tryz.sizeOf147
  v105 := Tryz.zeroValue147
  t116 := Tryz.underlying129
  a116 := Tryz.isAgg129
  z116 := Tryz.sizeOf129
  t117 := Tryz.underlying130
  a117 := Tryz.isAgg130
  z117 := Tryz.sizeOf130
  v117 := Tryz.zeroValue130
  t119 := Tryz.underlying178
  a119 := Tryz.isAgg178
  z119 := Tryz.sizeOf178
  t124 := Tryz.underlying133
  a124 := Tryz.isAgg133
  z124 := Tryz.sizeOf133
  v124 := Tryz.zeroValue133
  t138 := Tryz.underlying180
  a138 := Tryz.isAgg180
  z138 := Tryz.sizeOf180
  v138 := Tryz.zeroValue180
  t139 := Tryz.underlying181
  a139 := Tryz.isAgg181
  z139 := Tryz.sizeOf181
  v139 := Tryz.zeroValue181
  g3 := by kernel_rfl
  g4 := by kernel_rfl }
def Tryz.lays161_ren : Go.Shelf.Ren := ⟨fun | 161 => 90 | 231 => 100 | 227 => 102 | 233 => 103 | 235 => 105 | 228 => 132 | 197 => 133 | 151 => 134 | 260 => 159 | 152 => 160 | 137 => 49 | 119 => 178 | 224 => 148 | 225 => 147 | 217 => 76 | 266 => 116 | n => n, fun | 9 => 9 | 4 => 4 | 3 => 3 | 5 => 5 | 117 => 130 | 116 => 129 | 0 => 0 | 124 => 133 | 105 => 147 | 21 => 21 | 119 => 178 | 46 => 30 | 139 => 181 | 138 => 180 | n => n, fun | 3 => 4 | 4 => 5 | n => n⟩
theorem Tryz.lays161 : Go.Proofs.Lays.n161 Tryz.prog Tryz.lays161_ren := {
  mixed := by kernel_rfl
  f119 := Tryz.func178.trans (congrArg some (by kernel_rfl))
  f137 := Tryz.func49.trans (congrArg some (by kernel_rfl))
  f151 := Tryz.func134.trans (congrArg some (by kernel_rfl))
  f152 := Tryz.func160.trans (congrArg some (by kernel_rfl))
  f161 := Tryz.func90.trans (congrArg some (by kernel_rfl))
  f197 := Tryz.func133.trans (congrArg some (by kernel_rfl))
  f217 := Tryz.func76.trans (congrArg some (by kernel_rfl))
  f224 := Tryz.func148.trans (congrArg some (by kernel_rfl))
  f225 := Tryz.func147.trans (congrArg some (by kernel_rfl))
  f227 := Tryz.func102.trans (congrArg some (by kernel_rfl))
  f228 := Tryz.func132.trans (congrArg some (by kernel_rfl))
  f231 := Tryz.func100.trans (congrArg some (by kernel_rfl))
  f233 := Tryz.func103.trans (congrArg some (by kernel_rfl))
  f235 := Tryz.func105.trans (congrArg some (by kernel_rfl))
  f260 := Tryz.func159.trans (congrArg some (by kernel_rfl))
  f266 := Tryz.func116.trans (congrArg some (by kernel_rfl))
  t0 := Tryz.underlying0
  a0 := Tryz.isAgg0
  z0 := Tryz.sizeOf0
  v0 := Tryz.zeroValue0
  t3 := Tryz.underlying3
  a3 := Tryz.isAgg3
  z3 := Tryz.sizeOf3
  v3 := Tryz.zeroValue3
  t4 := Tryz.underlying4
  a4 := Tryz.isAgg4
  z4 := Tryz.sizeOf4
  v4 := Tryz.zeroValue4
  t5 := Tryz.underlying5
  a5 := Tryz.isAgg5
  z5 := Tryz.sizeOf5
  v5 := Tryz.zeroValue5
  t9 := Tryz.underlying9
  a9 := Tryz.isAgg9
  z9 := Tryz.sizeOf9
  v9 := Tryz.zeroValue9
  t21 := Tryz.underlying21
  a21 := Tryz.isAgg21
  z21 := Tryz.sizeOf21
  v21 := Tryz.zeroValue21
  t46 := Tryz.underlying30
  a46 := Tryz.isAgg30
  z46 := Tryz.sizeOf30
  v46 := Tryz.zeroValue30
  t105 := Tryz.underlying147
  a105 := Tryz.isAgg147
  z105 := Tryz.sizeOf147
  v105 := Tryz.zeroValue147
  t116 := Tryz.underlying129
  a116 := Tryz.isAgg129
  z116 := Tryz.sizeOf129
  t117 := Tryz.underlying130
  a117 := Tryz.isAgg130
  z117 := Tryz.sizeOf130
  v117 := Tryz.zeroValue130
  t119 := Tryz.underlying178
  a119 := Tryz.isAgg178
  z119 := Tryz.sizeOf178
  t124 := Tryz.underlying133
  a124 := Tryz.isAgg133
  z124 := Tryz.sizeOf133
  v124 := Tryz.zeroValue133
  t138 := Tryz.underlying180
  a138 := Tryz.isAgg180
  z138 := Tryz.sizeOf180
  v138 := Tryz.zeroValue180
  t139 := Tryz.underlying181
  a139 := Tryz.isAgg181
  z139 := Tryz.sizeOf181
  v139 := Tryz.zeroValue181
  g3 := by kernel_rfl
  g4 := by kernel_rfl }
def Tryz.lays172_ren : Go.Shelf.Ren := ⟨fun | 172 => 91 | 244 => 128 | 245 => 129 | 247 => 152 | 279 => 153 | 280 => 154 | 281 => 155 | 282 => 156 | 287 => 174 | 316 => 175 | 171 => 177 | 205 => 176 | 321 => 182 | 322 => 183 | 243 => 184 | 246 => 185 | 283 => 186 | 284 => 187 | 285 => 188 | 286 => 189 | 129 => 191 | 317 => 190 | 318 => 192 | 319 => 193 | 320 => 194 | 337 => 195 | 338 => 196 | n => n, fun | 9 => 9 | 3 => 3 | 75 => 113 | 76 => 114 | 4 => 4 | 5 => 5 | 167 => 159 | 37 => 51 | 0 => 0 | 85 => 160 | 2 => 2 | 168 => 162 | 53 => 81 | 175 => 172 | 46 => 30 | 210 => 175 | 127 => 145 | 145 => 186 | 143 => 184 | 21 => 21 | 171 => 188 | 173 => 191 | 212 => 194 | 51 => 38 | 20 => 20 | 213 => 195 | 232 => 197 | 233 => 198 | 80 => 116 | n => n, fun | 15 => 2 | 16 => 3 | 17 => 6 | 18 => 7 | 19 => 8 | n => n⟩
theorem Tryz.lays172 : Go.Proofs.Lays.n172 Tryz.prog Tryz.lays172_ren := {
  mixed := by kernel_rfl
  f129 := Tryz.func191.trans (congrArg some (by kernel_rfl))
  f171 := Tryz.func177.trans (congrArg some (by kernel_rfl))
  f172 := Tryz.func91.trans (congrArg some (by kernel_rfl))
  f205 := Tryz.func176.trans (congrArg some (by kernel_rfl))
  f243 := Tryz.func184.trans (congrArg some (by kernel_rfl))
  f244 := Tryz.func128.trans (congrArg some (by kernel_rfl))
  f245 := Tryz.func129.trans (congrArg some (by kernel_rfl))
  f246 := Tryz.func185.trans (congrArg some (by kernel_rfl))
  f247 := Tryz.func152.trans (congrArg some (by kernel_rfl))
  f279 := Tryz.func153.trans (congrArg some (by kernel_rfl))
  f280 := Tryz.func154.trans (congrArg some (by kernel_rfl))
  f281 := Tryz.func155.trans (congrArg some (by kernel_rfl))
  f282 := Tryz.func156.trans (congrArg some (by kernel_rfl))
  f283 := Tryz.func186.trans (congrArg some (by kernel_rfl))
  f284 := Tryz.func187.trans (congrArg some (by kernel_rfl))
  f285 := Tryz.func188.trans (congrArg some (by kernel_rfl))
  f286 := Tryz.func189.trans (congrArg some (by kernel_rfl))
  f287 := Tryz.func174.trans (congrArg some (by kernel_rfl))
  f316 := Tryz.func175.trans (congrArg some (by kernel_rfl))
  f317 := Tryz.func190.trans (congrArg some (by kernel_rfl))
  f318 := Tryz.func192.trans (congrArg some (by kernel_rfl))
  f319 := Tryz.func193.trans (congrArg some (by kernel_rfl))
  f320 := Tryz.func194.trans (congrArg some (by kernel_rfl))
  f321 := Tryz.func182.trans (congrArg some (by kernel_rfl))
  f322 := Tryz.func183.trans (congrArg some (by kernel_rfl))
  f337 := Tryz.func195.trans (congrArg some (by kernel_rfl))
  f338 := Tryz.func196.trans (congrArg some (by kernel_rfl))
  t0 := Tryz.underlying0
  a0 := Tryz.isAgg0
  z0 := Tryz.sizeOf0
  v0 := Tryz.zeroValue0
  t2 := Tryz.underlying2
  a2 := Tryz.isAgg2
  z2 := Tryz.sizeOf2
  v2 := Tryz.zeroValue2
  t3 := Tryz.underlying3
  a3 := Tryz.isAgg3
  z3 := Tryz.sizeOf3
  v3 := Tryz.zeroValue3
  t4 := Tryz.underlying4
  a4 := Tryz.isAgg4
  z4 := Tryz.sizeOf4
  v4 := Tryz.zeroValue4
  t5 := Tryz.underlying5
  a5 := Tryz.isAgg5
  z5 := Tryz.sizeOf5
  v5 := Tryz.zeroValue5
  t9 := Tryz.underlying9
  a9 := Tryz.isAgg9
  z9 := Tryz.sizeOf9
  v9 := Tryz.zeroValue9
  t20 := Tryz.underlying20
  a20 := Tryz.isAgg20
  z20 := Tryz.sizeOf20
  v20 := Tryz.zeroValue20
  t21 := Tryz.underlying21
  a21 := Tryz.isAgg21
  z21 := Tryz.sizeOf21
  v21 := Tryz.zeroValue21
  t37 := Tryz.underlying51
  a37 := Tryz.isAgg51
  z37 := Tryz.sizeOf51
  v37 := Tryz.zeroValue51
  t46 := Tryz.underlying30
  a46 := Tryz.isAgg30
  z46 := Tryz.sizeOf30
  v46 := Tryz.zeroValue30
  t51 := Tryz.underlying38
  a51 := Tryz.isAgg38
  z51 := Tryz.sizeOf38
  v51 := Tryz.zeroValue38
  t53 := Tryz.underlying81
  a53 := Tryz.isAgg81
  z53 := Tryz.sizeOf81
  v53 := Tryz.zeroValue81
  t75 := Tryz.underlying113
  a75 := Tryz.isAgg113
  z75 := Tryz.sizeOf113
  v75 := Tryz.zeroValue113
  t76 := Tryz.underlying114
  a76 := Tryz.isAgg114
  z76 := Tryz.sizeOf114
  v76 := Tryz.zeroValue114
  t85 := Tryz.underlying160
  a85 := Tryz.isAgg160
  z85 := Tryz.sizeOf160
  v85 := Tryz.zeroValue160
  t127 := Tryz.underlying145
  a127 := Tryz.isAgg145
  z127 := Tryz.sizeOf145
  v127 := Tryz.zeroValue145
  t143 := Tryz.underlying184
  a143 := Tryz.isAgg184
  z143 := Tryz.sizeOf184
  v143 := Tryz.zeroValue184
  t145 := Tryz.underlying186
  a145 := Tryz.isAgg186
  z145 := Tryz.sizeOf186
  v145 := Tryz.zeroValue186
  t167 := Tryz.underlying159
  a167 := Tryz.isAgg159
  z167 := Tryz.sizeOf159
  v167 := Tryz.zeroValue159
  t168 := Tryz.underlying162
  a168 := Tryz.isAgg162
  z168 := Tryz.sizeOf162
  v168 := Tryz.zeroValue162
  t171 := Tryz.underlying188
  a171 := Tryz.isAgg188
  z171 := Tryz.sizeOf188
  v171 := Tryz.zeroValue188
  t173 := Tryz.underlying191
  a173 := Tryz.isAgg191
  z173 := Tryz.sizeOf191
  v173 := Tryz.zeroValue191
  t175 := Tryz.underlying172
  a175 := Tryz.isAgg172
  z175 := Tryz.sizeOf172
  v175 := Tryz.zeroValue172
  t210 := Tryz.underlying175
  a210 := Tryz.isAgg175
  z210 := Tryz.sizeOf175
  v210 := Tryz.zeroValue175
  t212 := Tryz.underlying194
  a212 := Tryz.isAgg194
  z212 := Tryz.sizeOf194
  v212 := Tryz.zeroValue194
  t213 := Tryz.underlying195
  a213 := Tryz.isAgg195
  z213 := Tryz.sizeOf195
  t232 := Tryz.underlying197
  a232 := Tryz.isAgg197
  z232 := Tryz.sizeOf197
  v232 := Tryz.zeroValue197
  t233 := Tryz.underlying198
  a233 := Tryz.isAgg198
  z233 := Tryz.sizeOf198
  v233 := Tryz.zeroValue198
  g15 := by kernel_rfl
  g16 := by kernel_rfl
  g17 := by kernel_rfl
  g18 := by kernel_rfl
  g19 := by kernel_rfl }
end Go.Proofs
namespace Go.Proofs.YtkkmnjhecjkhgaaGreatDoor
open Go.Ev Go.RowKit
noncomputable def C0 : Cx := { P := Tryz.prog, X := fun _ _ => none, mu := fun _ => false, good := fun _ => false }
theorem C0_P : C0.P = Tryz.prog := rfl
theorem clone_ok0 : CallOk Tryz.prog (cloneX 142) := by
  refine cloneX_ok (f := 142) (fn := Tryz.f142) (e := (38, 1, 4)) (by kernel_rfl) (by kernel_rfl) rfl (Nat.lt_of_lt_of_le (Nat.lt_succ_self 4) (Nat.le_of_ble_eq_true (by kernel_rfl))) (by kernel_rfl) fun n cs => ?_
  refine ⟨20, _, rfl, rfl, ⟨20, _, rfl, rfl⟩, fun h1 h2 h3 => ?_⟩
  have hC : ∀ m, CallOk Tryz.prog (callN C0.P C0.X C0.mu C0.good m) := fun m => callN_ok (fun g args r exps h => by cases h) (fun f fn h => by cases h) _ m
  suffices h : ∀ {c : Code} {st : St}, WP C0 c st (fun e s => e = .ret ∧ retOf Tryz.prog s Tryz.f142.results.toList = some (.sv (.sl n cs))) → ∃ call mu k st', CallOk Tryz.prog call ∧ exec Tryz.prog call mu k c st = some (.ret, st') ∧ retOf Tryz.prog st' Tryz.f142.results.toList = some (.sv (.sl n cs)) by
    refine h ?_
    have hlen : (List.length cs : Nat) = n * 1 := by omega
    have h2' : cs.all SV.one = true := h2
    have h5 : (5 < N0) = True := by simp [N0]
    have hr : Tryz.f142.results.toList = [.tmp 2] := by kernel_rfl
    rcases Nat.eq_zero_or_pos n with rfl | hn
    · have : cs = [] := List.eq_nil_of_length_eq_zero h1
      subst this
      simp only [go_sem, Nat.reduceEqDiff, Nat.reduceAdd, Nat.reduceSub, Nat.reduceMul, Nat.reduceLeDiff, Nat.reduceLT, reduceIte, reduceCtorEq, Nat.succ_ne_zero, elemsC, Int.reduceToNat, Nat.reducePow, C0_P, h1, h2, h2', h3, h5, hr, elemsC, Nat.zero_le, Nat.mul_one, Nat.zero_mul, Nat.zero_add, retOf, resTV, outSV]
    · have hn0 : ¬ n = 0 := by omega
      simp only [go_sem, Nat.reduceEqDiff, Nat.reduceAdd, Nat.reduceSub, Nat.reduceMul, Nat.reduceLeDiff, Nat.reduceLT, reduceIte, reduceCtorEq, Nat.succ_ne_zero, elemsC, Int.reduceToNat, Nat.reducePow, C0_P, h1, h2, h2', h3, h5, hn0, hr, elemsC, Nat.zero_le, Nat.mul_one, Nat.zero_mul, Nat.zero_add, retOf, resTV, outSV]
      rw [List.take_of_length_le (by omega)]
  rintro c st ⟨m, e, s, he, rfl, hr⟩
  exact ⟨_, _, m, s, hC m, he, hr⟩
theorem xS_ok : CallOk Tryz.prog xS := by
  intro g args r exps h
  unfold xS at h
  split at h
  · rename_i hg
    rw [show g = 116 from Nat.eq_of_beq_eq_true hg]
    exact index_at (fn := Tryz.f116) (by kernel_rfl) (by kernel_rfl) (by kernel_rfl) (by kernel_rfl) (by kernel_rfl) h
  split at h
  · rename_i hg
    rw [show g = 167 from Nat.eq_of_beq_eq_true hg]
    exact count_at (fn := Tryz.f167) (by kernel_rfl) (by kernel_rfl) (by kernel_rfl) (by kernel_rfl) (by kernel_rfl) h
  split at h
  · rename_i hg
    rw [show g = 68 from Nat.eq_of_beq_eq_true hg]
    exact trim_at (enters_of (fn := Tryz.f68) (c := (Tryz.f68).body.get!) (by kernel_rfl) (by kernel_rfl) (by kernel_rfl)) (fun s c w h1 h2 h3 => Any.strings_Trim_laid Tryz.lays160 (by kernel_rfl) s c w h1 h2 h3) h
  split at h
  · rename_i hg
    rw [show g = 90 from Nat.eq_of_beq_eq_true hg]
    exact trimLeft_at (enters_of (fn := Tryz.f90) (c := (Tryz.f90).body.get!) (by kernel_rfl) (by kernel_rfl) (by kernel_rfl)) (fun s c w h2 h3 => Any.strings_TrimLeft_laid Tryz.lays161 (by kernel_rfl) s c w h2 h3) h
  split at h
  · rename_i hg
    rw [show g = 51 from Nat.eq_of_beq_eq_true hg]
    exact join_at (enters_of (fn := Tryz.f51) (c := (Tryz.f51).body.get!) (by kernel_rfl) (by kernel_rfl) (by kernel_rfl)) (fun a c sep w => Any.strings_Join_none Tryz.lays156 Tryz.Builder_Extra_156 a c sep w) (fun bk o c xs sep w h1 h2 h3 h4 h5 => Any.strings_Join Tryz.lays156 Tryz.Builder_Extra_156 bk o c xs sep w h1 h2 h3 h4 h5) h
  split at h
  · rename_i hg
    rw [show g = 91 from Nat.eq_of_beq_eq_true hg]
    exact atoi_at (enters_of (fn := Tryz.f91) (c := (Tryz.f91).body.get!) (by kernel_rfl) (by kernel_rfl) (by kernel_rfl)) (fun s v w h1 h2 => (Any.strconv_Atoi Tryz.lays172 s v h1 h2 w).mono (by rintro e w' ⟨h3, t, rfl⟩; exact ⟨h3, ⟨rfl, rfl, rfl, by rw [Lib.bytesWorld_size]; omega, fun k hk => Lib.bytesWorld_at_old w _ t k hk⟩⟩)) h
  exact clone_ok0 g args r exps h
end Go.Proofs.YtkkmnjhecjkhgaaGreatDoor
namespace Go.Ev
def natP (l : List UInt8) : Option Nat := if l = [] ∨ 400 < l.length ∨ digs l = false then none else some (natD l)
def frontL (c : UInt8) (l : List UInt8) : List UInt8 := l.takeWhile (· != c)
def backL (c : UInt8) (l : List UInt8) : List UInt8 := (l.dropWhile (· != c)).tail
theorem front_back {c : UInt8} {a b : List UInt8} (h : ∀ x ∈ a, x ≠ c) : frontL c (a ++ c :: b) = a ∧ backL c (a ++ c :: b) = b := by
  unfold frontL backL
  induction a with
  | nil => simp
  | cons x a ih =>
    have hx : (x != c) = true := by simpa using h x List.mem_cons_self
    obtain ⟨h1, h2⟩ := ih fun y hy => h y (List.mem_cons_of_mem _ hy)
    rw [List.cons_append, List.takeWhile_cons, List.dropWhile_cons, hx]
    simp only [if_true]
    exact ⟨by rw [h1], h2⟩
theorem front_all {c : UInt8} {a : List UInt8} (h : ∀ x ∈ a, x ≠ c) : frontL c a = a ∧ backL c a = [] := by
  unfold frontL backL
  induction a with
  | nil => simp
  | cons x a ih =>
    have hx : (x != c) = true := by simpa using h x List.mem_cons_self
    obtain ⟨h1, h2⟩ := ih fun y hy => h y (List.mem_cons_of_mem _ hy)
    rw [List.takeWhile_cons, List.dropWhile_cons, hx]
    simp only [if_true]
    exact ⟨by rw [h1], h2⟩
def negP (l : List UInt8) : Bool := l.head? == some 45
def absP (l : List UInt8) : List UInt8 := if negP l then l.tail else l
def decP (l : List UInt8) : Option Rat :=
  if (absP l).contains 46 then
    if frontL 46 (absP l) = [] then none else
    match natP (backL 46 (absP l)), natP (frontL 46 (absP l) ++ backL 46 (absP l)) with
    | some _, some n => some (mkRat (sgn (negP l) n) (10 ^ (backL 46 (absP l)).length))
    | _, _ => none
  else
    match natP (frontL 47 (absP l)), natP (if (absP l).contains 47 then backL 47 (absP l) else [49]) with
    | some n, some d => if d = 0 then none else some (mkRat (sgn (negP l) n) d)
    | _, _ => none
def isPM (b : UInt8) : Bool := b == 43 || b == 45
def expP (l : List UInt8) : Option Int :=
  if l.length - (l.dropWhile isPM).length > 1 ∨ (l.dropWhile isPM).length < 1 ∨ (l.dropWhile isPM).length > 2 ∨ digs (l.dropWhile isPM) = false then none else
  if natD (l.dropWhile isPM) ≤ 30 then some (if l.head? = some 45 then - (natD (l.dropWhile isPM) : Int) else (natD (l.dropWhile isPM) : Int)) else none
def tenR (k : Int) : Rat := if k < 0 then 1 / (10 : Rat) ^ k.natAbs else (10 : Rat) ^ k.natAbs
def numP (l : List UInt8) : Nat × Rat :=
  if 60 < l.length then (3, 0) else
  if l.contains 101 then
    match decP (frontL 101 l), expP (backL 101 l) with
    | some q, some k => if l.contains 47 then (2, 0) else (0, q * tenR k)
    | _, _ => (2, 0)
  else match decP l with
    | some q => (0, q)
    | none => (2, 0)
def ratT (q : Rat) : List UInt8 := (if q.num < 0 then [45] else []) ++ dec q.num.natAbs ++ (if q.den = 1 then [] else 47 :: dec q.den)
theorem dec_dig {n : Nat} {b : UInt8} (h : b ∈ dec n) : 48 ≤ b.toNat ∧ b.toNat ≤ 57 := by
  have := digs_dec n
  unfold digs at this
  have := List.all_eq_true.1 this b h
  unfold dig at this
  simpa using this
theorem natP_dec {n : Nat} (h : (dec n).length ≤ 400) : natP (dec n) = some n := by
  unfold natP
  rw [if_neg (by rw [digs_dec]; simp [dec_ne]; exact h), natD_dec]
theorem dec_head (n : Nat) : (dec n).head? ≠ some 45 := by
  cases h : dec n with
  | nil => simp
  | cons b r =>
    intro e
    simp at e
    have := dec_dig (n := n) (b := b) (by rw [h]; exact List.mem_cons_self)
    rw [e] at this
    exact absurd this.1 (by decide)
theorem negP_ratT (q : Rat) : negP (ratT q) = decide (q.num < 0) := by
  unfold negP ratT
  by_cases h : q.num < 0
  · simp [h]
  · rw [if_neg h, List.nil_append, decide_eq_false h]
    cases hd : dec q.num.natAbs with
    | nil => exact absurd hd (dec_ne _)
    | cons b r =>
      have := dec_head q.num.natAbs
      rw [hd] at this
      simpa using this
theorem absP_ratT (q : Rat) : absP (ratT q) = dec q.num.natAbs ++ (if q.den = 1 then [] else 47 :: dec q.den) := by
  unfold absP
  rw [negP_ratT]
  unfold ratT
  by_cases h : q.num < 0
  · simp [h]
  · simp [h]
theorem contains_false {l : List UInt8} {c : UInt8} (h : ∀ b ∈ l, b ≠ c) : l.contains c = false := by
  rw [List.contains_eq_mem]
  simp
  intro hc
  exact h c hc rfl
theorem sgn_num (q : Rat) : mkRat (sgn (decide (q.num < 0)) q.num.natAbs) q.den = q := by
  have : sgn (decide (q.num < 0)) q.num.natAbs = q.num := by
    unfold sgn
    by_cases h : q.num < 0
    · simp [h]; omega
    · simp [h]; omega
  rw [this]
  exact Rat.mkRat_self q
theorem decP_ratT {q : Rat} (h : (ratT q).length ≤ 400) : decP (ratT q) = some q := by
  have hl1 : (dec q.num.natAbs).length ≤ 400 := by
    unfold ratT at h; simp only [List.length_append] at h; omega
  have hn : ∀ b ∈ dec q.num.natAbs, b ≠ 47 := fun b hb e => by
    have := dec_dig hb; subst e; exact absurd this.1 (by decide)
  unfold decP
  rw [absP_ratT, negP_ratT, contains_false (c := 46)]
  · simp only [Bool.false_eq_true, if_false]
    by_cases h1 : q.den = 1
    · simp only [h1, if_true, List.append_nil]
      rw [(front_all hn).1, natP_dec hl1, contains_false hn]
      have : natP [49] = some 1 := rfl
      simp only [Bool.false_eq_true, if_false, this]
      rw [if_neg (by omega)]
      have := sgn_num q
      rw [h1] at this
      rw [this]
    · simp only [h1, if_false]
      have hl2 : (dec q.den).length ≤ 400 := by
        unfold ratT at h; simp only [List.length_append, h1, if_false, List.length_cons] at h; omega
      rw [(front_back hn).1, (front_back hn).2, natP_dec hl1]
      have : (dec q.num.natAbs ++ 47 :: dec q.den).contains 47 = true := by simp
      rw [this]
      simp only [if_true, natP_dec hl2]
      rw [if_neg q.den_nz, sgn_num]
  · intro b hb e
    subst e
    rcases List.mem_append.1 hb with hb | hb
    · exact absurd (dec_dig hb).1 (by decide)
    · split at hb
      · simp at hb
      · rcases List.mem_cons.1 hb with hb | hb
        · exact absurd hb (by decide)
        · exact absurd (dec_dig hb).1 (by decide)
def gapB (b : UInt8) : Bool := b == 32 || b == 44 || b == 10
def toks : List UInt8 → List UInt8 → List (List UInt8)
  | cur, [] => if cur = [] then [] else [cur.reverse]
  | cur, b :: r => if gapB b then (if cur = [] then toks [] r else cur.reverse :: toks [] r) else toks (b :: cur) r
def plainL : Bool → List UInt8 → List UInt8
  | _, [] => []
  | off, b :: r => if b == 10 then 10 :: plainL false r else if off || b == 35 then plainL true r else b :: plainL false r
def runP : List (List UInt8) → Nat × List Rat
  | [] => (0, [])
  | t :: r => match numP t with
    | (0, q) => match runP r with
      | (0, l) => (0, q :: l)
      | (e, _) => (e, [])
    | (e, _) => (e, [])
def parseP (l : List UInt8) : Nat × List Rat :=
  match runP (toks [] (plainL false l)) with
  | (0, x) => if 256 < x.length then (3, []) else (0, x)
  | (e, _) => (e, [])
def joinW : List (List UInt8) → List UInt8
  | [] => []
  | [t] => t
  | t :: u :: r => t ++ 32 :: joinW (u :: r)
theorem join_cons (t : List UInt8) (r : List (List UInt8)) : joinW (t :: r) = t ++ (r.map fun x => [32] ++ x).flatten := by
  induction r generalizing t with
  | nil => simp [joinW]
  | cons u r ih => rw [joinW, ih u]; simp
    
end Go.Ev
namespace Go.Proofs.YtkkmnjhecjkhgaaGreatDoor
open Go.Ev
theorem idxB_bs {l : List UInt8} {i : Nat} : idxB (bs l) i = (l[i]?).map (fun b => .sv (.int .u8 (b.toNat : Int))) := by
  unfold idxB
  rw [bs_get]
  cases l[i]? <;> rfl
theorem mk_bs {l : List UInt8} : ByteArray.mk l.toArray = bs l := _root_.id rfl
theorem beq_nil {α : Type} [BEq α] {a : α} {l : List α} : ((a :: l) == []) = false := _root_.id rfl
theorem nil_beq {α : Type} [BEq α] : (([] : List α) == []) = true := _root_.id rfl
theorem u8_back (b : UInt8) : ((b.toNat : Int)).toNat.toUInt8 = b := by simp
theorem index_cases (c : UInt8) (l : List UInt8) : (l.contains c = false ∧ Lib.indexByte l c = -1 ∧ frontL c l = l ∧ backL c l = []) ∨
    ∃ i : Nat, l.contains c = true ∧ Lib.indexByte l c = (i : Int) ∧ i < l.length ∧ l.take i = frontL c l ∧ l.drop (i + 1) = backL c l := by
  induction l with
  | nil => exact .inl ⟨rfl, rfl, rfl, rfl⟩
  | cons b l ih =>
    by_cases hb : b = c
    · subst hb
      refine .inr ⟨0, by simp, ?_, by simp, by simp [frontL], by simp [backL]⟩
      unfold Lib.indexByte
      simp
    · have hb' : (b == c) = false := by simpa using hb
      have hn : (b != c) = true := by simpa using hb
      have hcb : (c == b) = false := by simpa using fun e : c = b => hb e.symm
      have hf : frontL c (b :: l) = b :: frontL c l := by unfold frontL; rw [List.takeWhile_cons, hn]; rfl
      have hk : backL c (b :: l) = backL c l := by unfold backL; rw [List.dropWhile_cons, hn]; rfl
      have hc : (b :: l).contains c = l.contains c := by rw [List.contains_cons, hcb, Bool.false_or]
      rcases ih with ⟨h1, h2, h3, h4⟩ | ⟨i, h1, h2, h3, h4, h5⟩
      · refine .inl ⟨hc.trans h1, ?_, by rw [hf, h3], hk.trans h4⟩
        unfold Lib.indexByte
        simp [hb', h2]
      · refine .inr ⟨i + 1, hc.trans h1, ?_, by simpa using h3, by rw [hf, List.take_succ_cons, h4], by rw [hk, List.drop_succ_cons, h5]⟩
        unfold Lib.indexByte
        have : ((i : Int) == -1) = false := by rw [beq_eq_false_iff_ne]; omega
        simp only [hb', h2, this, Bool.false_eq_true, if_false]
        omega
structure StrCx (C : Cx) : Prop where
  P : C.P = Tryz.prog
  good : C.good = good
  x1 : ∀ s c, C.X 116 [.sv (.str s), .sv (.int .u8 c)] = some (.sv (.int .i64 (Lib.indexByte s.data.toList c.toNat.toUInt8)), List.replicate 2 none)
  x2 : ∀ s c, C.X 167 [.sv (.str s), .sv (.int .u8 c)] = some (.sv (.int .i64 (Lib.countByte s.data.toList c.toNat.toUInt8)), List.replicate 2 none)
  n1 : ∀ ars, C.X 76 ars = none
  n2 : ∀ ars, C.X 123 ars = none
  n3 : ∀ ars, C.X 92 ars = none
  n4 : ∀ ars, C.X 141 ars = none
  n5 : ∀ ars, C.X 85 ars = none
  n6 : ∀ ars, C.X 54 ars = none
theorem CB_str : StrCx CB := ⟨rfl, rfl, fun _ _ => rfl, fun _ _ => rfl, fun _ => rfl, fun _ => rfl, fun _ => rfl, fun _ => rfl, fun _ => rfl, fun _ => rfl⟩
theorem CX_str : StrCx CX := ⟨rfl, rfl, fun _ _ => rfl, fun _ _ => rfl, fun _ => rfl, fun _ => rfl, fun _ => rfl, fun _ => rfl, fun _ => rfl, fun _ => rfl⟩
section
variable {C : Cx}
theorem x_index (h : StrCx C) (s : ByteArray) (c : UInt8) : Go.Ev.Fn C 116 [.str s, .int .u8 (c.toNat : Int)] (.int .i64 (Lib.indexByte s.data.toList c)) := by
  refine ⟨1, List.replicate 2 none, ?_⟩
  have := h.x1 s (c.toNat : Int)
  rw [u8_back] at this
  show (match C.X _ _ with | some r => some r | none => _) = _
  rw [show ([SV.str s, SV.int .u8 (c.toNat : Int)].map Arg.sv) = [.sv (.str s), .sv (.int .u8 (c.toNat : Int))] from rfl, this]
theorem x_count (h : StrCx C) (s : ByteArray) (c : UInt8) : Go.Ev.Fn C 167 [.str s, .int .u8 (c.toNat : Int)] (.int .i64 (Lib.countByte s.data.toList c)) := by
  refine ⟨1, List.replicate 2 none, ?_⟩
  have := h.x2 s (c.toNat : Int)
  rw [u8_back] at this
  show (match C.X _ _ with | some r => some r | none => _) = _
  rw [show ([SV.str s, SV.int .u8 (c.toNat : Int)].map Arg.sv) = [.sv (.str s), .sv (.int .u8 (c.toNat : Int))] from rfl, this]
theorem lite_IndexByte (h : StrCx C) (s : ByteArray) (c : UInt8) : Go.Ev.Fn C 76 [.str s, .int .u8 (c.toNat : Int)] (.int .i64 (Lib.indexByte s.data.toList c)) := by
  have hx := x_index h s c
  obtain ⟨P, X, mu, gd⟩ := C
  obtain ⟨rfl, rfl, _, _, n1, n2, n3, n4, n5, n6⟩ := h
  refine Go.Ev.Fn.intro (fn := Tryz.f76) (body := (Tryz.f76).body.get!) (by kernel_rfl) (by kernel_rfl) (by kernel_rfl) n1 (Nat.le_of_ble_eq_true (by kernel_rfl)) ?_; unfold Tryz.f76; simp only [Option.get!_some]
  simp only [go_sem, Nat.reduceEqDiff, Nat.reduceAdd, Nat.reduceSub, Nat.reduceMul, Nat.reduceLeDiff, Nat.reduceLT, reduceIte, reduceCtorEq, Nat.succ_ne_zero, elemsC, Int.reduceToNat, Nat.reducePow]
  refine vf_of (hx) ?_; simp only [go_sem, Nat.reduceEqDiff, Nat.reduceAdd, Nat.reduceSub, Nat.reduceMul, Nat.reduceLeDiff, Nat.reduceLT, reduceIte, reduceCtorEq, Nat.succ_ne_zero, elemsC, Int.reduceToNat, Nat.reducePow]
theorem lite_Index (h : StrCx C) (l : List UInt8) (c : UInt8) : Go.Ev.Fn C 123 [.str (bs l), .str (bs [c])] (.int .i64 (Lib.indexByte l c)) := by
  have hx := lite_IndexByte h (bs l) c
  rw [bs_toList] at hx
  obtain ⟨P, X, mu, gd⟩ := C
  obtain ⟨rfl, rfl, _, _, n1, n2, n3, n4, n5, n6⟩ := h
  refine Go.Ev.Fn.intro (fn := Tryz.f123) (body := (Tryz.f123).body.get!) (by kernel_rfl) (by kernel_rfl) (by kernel_rfl) n2 (Nat.le_of_ble_eq_true (by kernel_rfl)) ?_; unfold Tryz.f123; simp only [Option.get!_some]
  by_cases he : [c] = l
  · subst he
    have : Lib.indexByte [c] c = 0 := by unfold Lib.indexByte; simp
    rw [this]
    repeat (first | (simp only [go_sem, Nat.reduceEqDiff, Nat.reduceAdd, Nat.reduceSub, Nat.reduceMul, Nat.reduceLeDiff, Nat.reduceLT, reduceIte, reduceCtorEq, Nat.succ_ne_zero, elemsC, Int.reduceToNat, Nat.reducePow, bs_size, bs_eq, BEq.rfl]) | (simp (disch := (first | omega | (simp only [AL, List.length_map]; omega))) only [AR, AL, ifT, ifF, take_all, List.length_cons, List.length_nil, Int.reduceToNat, Int.reducePow, Nat.reducePow, bs_size, bs_eq, BEq.rfl]) | (refine wk_intro (by kernel_rfl) ?_) | (refine vp_draw (l := []) (by kernel_rfl) ?_))
  · have he : ([c] == l) = false := by simpa using he
    repeat (first | (simp only [go_sem, Nat.reduceEqDiff, Nat.reduceAdd, Nat.reduceSub, Nat.reduceMul, Nat.reduceLeDiff, Nat.reduceLT, reduceIte, reduceCtorEq, Nat.succ_ne_zero, elemsC, Int.reduceToNat, Nat.reducePow, bs_size, vo_ix, idxB_bs, bs_eq, he]) | (simp (disch := (first | omega | (simp only [AL, List.length_map]; omega))) only [AR, AL, ifT, ifF, take_all, List.length_cons, List.length_nil, Int.reduceToNat, Int.reducePow, Nat.reducePow, bs_size, vo_ix, idxB_bs, bs_eq, he]) | (refine wk_intro (by kernel_rfl) ?_) | (refine vp_draw (l := []) (by kernel_rfl) ?_) | (refine vf_of (by first | exact hx) ?_))
theorem str_Index (h : StrCx C) (l : List UInt8) (c : UInt8) : Go.Ev.Fn C 92 [.str (bs l), .str (bs [c])] (.int .i64 (Lib.indexByte l c)) := by
  have hx := lite_Index h l c
  obtain ⟨P, X, mu, gd⟩ := C
  obtain ⟨rfl, rfl, _, _, n1, n2, n3, n4, n5, n6⟩ := h
  refine Go.Ev.Fn.intro (fn := Tryz.f92) (body := (Tryz.f92).body.get!) (by kernel_rfl) (by kernel_rfl) (by kernel_rfl) n3 (Nat.le_of_ble_eq_true (by kernel_rfl)) ?_; unfold Tryz.f92; simp only [Option.get!_some]
  simp only [go_sem, Nat.reduceEqDiff, Nat.reduceAdd, Nat.reduceSub, Nat.reduceMul, Nat.reduceLeDiff, Nat.reduceLT, reduceIte, reduceCtorEq, Nat.succ_ne_zero, elemsC, Int.reduceToNat, Nat.reducePow]
  refine vf_of (hx) ?_; simp only [go_sem, Nat.reduceEqDiff, Nat.reduceAdd, Nat.reduceSub, Nat.reduceMul, Nat.reduceLeDiff, Nat.reduceLT, reduceIte, reduceCtorEq, Nat.succ_ne_zero, elemsC, Int.reduceToNat, Nat.reducePow]
theorem str_Count (h : StrCx C) (l : List UInt8) (c : UInt8) : Go.Ev.Fn C 141 [.str (bs l), .str (bs [c])] (.int .i64 (l.count c)) := by
  have hx := x_count h (bs l) c
  rw [bs_toList, show Lib.countByte l c = l.count c from rfl] at hx
  obtain ⟨P, X, mu, gd⟩ := C
  obtain ⟨rfl, rfl, _, _, n1, n2, n3, n4, n5, n6⟩ := h
  refine Go.Ev.Fn.intro (fn := Tryz.f141) (body := (Tryz.f141).body.get!) (by kernel_rfl) (by kernel_rfl) (by kernel_rfl) n4 (Nat.le_of_ble_eq_true (by kernel_rfl)) ?_; unfold Tryz.f141; simp only [Option.get!_some]
  repeat (first | (simp only [go_sem, Nat.reduceEqDiff, Nat.reduceAdd, Nat.reduceSub, Nat.reduceMul, Nat.reduceLeDiff, Nat.reduceLT, reduceIte, reduceCtorEq, Nat.succ_ne_zero, elemsC, Int.reduceToNat, Nat.reducePow, bs_size, vo_ix, idxB_bs]) | (simp (disch := (first | omega | (simp only [AL, List.length_map]; omega))) only [AR, AL, ifT, ifF, take_all, List.length_cons, List.length_nil, Int.reduceToNat, Int.reducePow, Nat.reducePow, bs_size, vo_ix, idxB_bs]) | (refine wk_intro (by kernel_rfl) ?_) | (refine vp_draw (l := []) (by kernel_rfl) ?_))
  refine vf_of (hx) ?_; simp only [go_sem, Nat.reduceEqDiff, Nat.reduceAdd, Nat.reduceSub, Nat.reduceMul, Nat.reduceLeDiff, Nat.reduceLT, reduceIte, reduceCtorEq, Nat.succ_ne_zero, elemsC, Int.reduceToNat, Nat.reducePow]
theorem lite_Cut (h : StrCx C) (l : List UInt8) (c : UInt8) (hl : l.length ≤ 1099511627776) : Go.Ev.Fn C 85 [.str (bs l), .str (bs [c])] (.tup [.str (bs (frontL c l)), .str (bs (backL c l)), .bool (l.contains c)]) := by
  have hx := lite_Index h l c
  obtain ⟨P, X, mu, gd⟩ := C
  obtain ⟨rfl, rfl, _, _, n1, n2, n3, n4, n5, n6⟩ := h
  refine Go.Ev.Fn.intro (fn := Tryz.f85) (body := (Tryz.f85).body.get!) (by kernel_rfl) (by kernel_rfl) (by kernel_rfl) n5 (Nat.le_of_ble_eq_true (by kernel_rfl)) ?_; unfold Tryz.f85; simp only [Option.get!_some]
  rcases index_cases c l with ⟨h1, h2, h3, h4⟩ | ⟨i, h1, h2, h3, h4, h5⟩
  · rw [h2] at hx
    rw [h1, h3, h4]
    repeat (first | (simp only [go_sem, Nat.reduceEqDiff, Nat.reduceAdd, Nat.reduceSub, Nat.reduceMul, Nat.reduceLeDiff, Nat.reduceLT, reduceIte, reduceCtorEq, Nat.succ_ne_zero, elemsC, Int.reduceToNat, Nat.reducePow, bs_size]) | (simp (disch := (first | omega | (simp only [AL, List.length_map]; omega))) only [AR, AL, ifT, ifF, take_all, List.length_cons, List.length_nil, Int.reduceToNat, Int.reducePow, Nat.reducePow, bs_size]) | (refine wk_intro (by kernel_rfl) ?_) | (refine vp_draw (l := []) (by kernel_rfl) ?_) | (refine vf_of (by first | exact hx) ?_))
    rfl
  · rw [h2] at hx
    rw [h1, ← h4, ← h5]
    repeat (first | (simp only [go_sem, Nat.reduceEqDiff, Nat.reduceAdd, Nat.reduceSub, Nat.reduceMul, Nat.reduceLeDiff, Nat.reduceLT, reduceIte, reduceCtorEq, Nat.succ_ne_zero, elemsC, Int.reduceToNat, Nat.reducePow, bs_size, bs_extract]) | (simp (disch := (first | omega | (simp only [AL, List.length_map]; omega))) only [AR, AL, ifT, ifF, take_all, List.length_cons, List.length_nil, Int.reduceToNat, Int.reducePow, Nat.reducePow, bs_size, bs_extract]) | (refine wk_intro (by kernel_rfl) ?_) | (refine vp_draw (l := []) (by kernel_rfl) ?_) | (refine vf_of (by first | exact hx) ?_))
    rw [List.take_of_length_le (by simp)]
theorem str_Cut (h : StrCx C) (l : List UInt8) (c : UInt8) (hl : l.length ≤ 1099511627776) : Go.Ev.Fn C 54 [.str (bs l), .str (bs [c])] (.tup [.str (bs (frontL c l)), .str (bs (backL c l)), .bool (l.contains c)]) := by
  have hx := lite_Cut h l c hl
  obtain ⟨P, X, mu, gd⟩ := C
  obtain ⟨rfl, rfl, _, _, n1, n2, n3, n4, n5, n6⟩ := h
  refine Go.Ev.Fn.intro (fn := Tryz.f54) (body := (Tryz.f54).body.get!) (by kernel_rfl) (by kernel_rfl) (by kernel_rfl) n6 (Nat.le_of_ble_eq_true (by kernel_rfl)) ?_; unfold Tryz.f54; simp only [Option.get!_some]
  simp only [go_sem, Nat.reduceEqDiff, Nat.reduceAdd, Nat.reduceSub, Nat.reduceMul, Nat.reduceLeDiff, Nat.reduceLT, reduceIte, reduceCtorEq, Nat.succ_ne_zero, elemsC, Int.reduceToNat, Nat.reducePow]
  refine vf_of (hx) ?_; simp only [go_sem, Nat.reduceEqDiff, Nat.reduceAdd, Nat.reduceSub, Nat.reduceMul, Nat.reduceLeDiff, Nat.reduceLT, reduceIte, reduceCtorEq, Nat.succ_ne_zero, elemsC, Int.reduceToNat, Nat.reducePow]
end
end Go.Proofs.YtkkmnjhecjkhgaaGreatDoor
namespace Go.Proofs.YtkkmnjhecjkhgaaGreatDoor
open Go.Ev
theorem split_none {c : UInt8} {l : List UInt8} (h : l.contains c = false) : splitB c l = [l] := by
  induction l with
  | nil => rfl
  | cons b l ih =>
    rw [List.contains_cons, Bool.or_eq_false_iff] at h
    have hb : (b == c) = false := by
      have := h.1
      simp only [beq_eq_false_iff_ne] at this ⊢
      exact fun e => this e.symm
    unfold splitB
    rw [hb, ih h.2]
    rfl
theorem split_some {c : UInt8} {l : List UInt8} (h : l.contains c = true) : splitB c l = frontL c l :: splitB c (backL c l) := by
  induction l with
  | nil => simp at h
  | cons b l ih =>
    by_cases hb : b = c
    · subst hb
      rw [show frontL b (b :: l) = [] by simp [frontL], show backL b (b :: l) = l by simp [backL], splitB]
      simp
    · have hb' : (b == c) = false := by simpa using hb
      have hn : (b != c) = true := by simpa using hb
      have hcb : (c == b) = false := by simpa using fun e : c = b => hb e.symm
      rw [List.contains_cons, hcb, Bool.false_or] at h
      have hf : frontL c (b :: l) = b :: frontL c l := by unfold frontL; rw [List.takeWhile_cons, hn]; rfl
      have hk : backL c (b :: l) = backL c l := by unfold backL; rw [List.dropWhile_cons, hn]; rfl
      rw [hf, hk, splitB, hb', ih h]
      rfl
theorem split_len (c : UInt8) (l : List UInt8) : (splitB c l).length = l.count c + 1 := by
  induction l with
  | nil => rfl
  | cons b l ih =>
    unfold splitB
    rw [List.count_cons]
    cases h : b == c with
    | true => simp [ih]
    | false =>
      simp only [Bool.false_eq_true, if_false, Nat.add_zero]
      cases hs : splitB c l with
      | nil => rw [hs] at ih; simp at ih
      | cons x xs => rw [hs] at ih; exact ih
theorem count_le {c : UInt8} {l : List UInt8} : l.count c ≤ l.length := List.count_le_length
theorem back_len {c : UInt8} {l : List UInt8} : (backL c l).length ≤ l.length := by
  unfold backL
  rw [List.length_tail]
  have := (List.dropWhile_sublist (l := l) (fun x => x != c)).length_le
  omega
theorem gen_row (l : List UInt8) (c : UInt8) (hl : l.length ≤ 1048576) :
    ∃ n, rowN CB.P CB.X CB.mu CB.good n 115 ([.str (bs l), .str (bs [c]), .int .i64 0, .int .i64 (-1)].map Arg.sv) = some (.row ((splitB c l).map strC) 1 0 (splitB c l).length, List.replicate 4 none) := by
  have hc := str_Count CB_str l c
  have hlen := split_len c l
  have hcl := count_le (c := c) (l := l)
  refine row_intro (fn := Tryz.f115) (body := (Tryz.f115).body.get!) (by kernel_rfl) (by kernel_rfl) (by kernel_rfl) (Nat.le_of_ble_eq_true (by kernel_rfl)) ?_
  unfold Tryz.f115
  simp only [Option.get!_some]
  generalize hm : l.count c = m at *
  repeat (first | (simp only [go_sem, Nat.reduceEqDiff, Nat.reduceAdd, Nat.reduceSub, Nat.reduceMul, Nat.reduceLeDiff, Nat.reduceLT, reduceIte, reduceCtorEq, Nat.succ_ne_zero, elemsC, Int.reduceToNat, Nat.reducePow, bs_size, bs_list, mk_bs, beq_nil]) | (simp (disch := (first | omega | (simp only [AL, List.length_map]; omega))) only [AR, AL, ifT, ifF, take_all, List.length_cons, List.length_nil, Int.reduceToNat, Int.reducePow, Nat.reducePow, bs_size, bs_list, mk_bs, beq_nil]) | (refine wk_intro (by kernel_rfl) ?_) | (refine vp_draw (l := []) (by kernel_rfl) ?_) | (refine vf_of (by first | exact hc) ?_))
  refine vp_loop_inv (fun s => s.tmp 1 = .sv (.str (bs [c])) ∧ s.tmp 2 = .sv (.int .i64 0) ∧ s.tmp 3 = .sv (.int .i64 (m : Int)) ∧ s.tmp 9 = .ref 31 0 1 0 (m + 1) ∧
      ∃ (i : Nat) (r : List UInt8) (cs : List SV), s.tmp 10 = .sv (.int .i64 (i : Int)) ∧ s.tmp 0 = .sv (.str (bs r)) ∧ s.obj 31 0 = some cs ∧ i ≤ m ∧ r.length ≤ l.length ∧ splitB c r = (splitB c l).drop i ∧ cs.length = m + 1 ∧ cs.take i = ((splitB c l).take i).map strC)
    (fun s => match s.tmp 10 with | .sv (.int _ i) => m - i.toNat | _ => 0) ?_ ?_
  · refine ⟨rfl, rfl, rfl, rfl, 0, l, _, rfl, rfl, rfl, by omega, by omega, rfl, by simp, rfl⟩
  rintro s2 ⟨i1, i2, i3, i9, i, r, cs, i10, i0, iO, hi, hr, hs, hcs, ht⟩
  by_cases hend : i = m
  · subst hend
    have h1 : (splitB c r).length = 1 := by rw [hs, List.length_drop, hlen]; omega
    have hnc : r.contains c = false := by
      cases hb : r.contains c with
      | false => rfl
      | true =>
        rw [split_some hb] at h1
        have := split_len c (backL c r)
        simp at h1
        rw [h1] at this
        simp at this
    have hl1 : (splitB c l).drop i = [r] := by rw [← hs, split_none hnc]
    have hall : cs.take i ++ [strC r] ++ cs.drop (i + 1) = (splitB c l).map strC := by
      rw [ht, List.drop_of_length_le (by omega), List.append_nil]
      have := List.take_append_drop i (splitB c l)
      rw [hl1] at this
      have e := congrArg (List.map strC) this
      rw [List.map_append] at e
      exact e
    unfold strC at hall
    repeat (first | (simp only [go_sem, Nat.reduceEqDiff, Nat.reduceAdd, Nat.reduceSub, Nat.reduceMul, Nat.reduceLeDiff, Nat.reduceLT, reduceIte, reduceCtorEq, Nat.succ_ne_zero, elemsC, Int.reduceToNat, Nat.reducePow, i1, i2, i3, i9, i10, i0, iO, bs_size, hcs, hall, hlen]) | (simp (disch := (first | omega | (simp only [AL, List.length_map]; omega))) only [AR, AL, ifT, ifF, take_all, List.length_cons, List.length_nil, Int.reduceToNat, Int.reducePow, Nat.reducePow, i1, i2, i3, i9, i10, i0, iO, bs_size, hcs, hall, hlen]) | (refine wk_intro (by kernel_rfl) ?_) | (refine vp_draw (l := []) (by kernel_rfl) ?_))
    rfl
  · have hlt : i < m := by omega
    have h1 : (splitB c r).length = m + 1 - i := by rw [hs, List.length_drop, hlen]
    have hct : r.contains c = true := by
      cases hb : r.contains c with
      | true => rfl
      | false =>
        rw [split_none hb] at h1
        simp at h1
        omega
    have hix := str_Index CB_str r c
    rcases index_cases c r with ⟨h2, _⟩ | ⟨k, _, h3, h4, h5, h6⟩
    · rw [hct] at h2; cases h2
    rw [h3] at hix
    rw [split_some hct] at hs
    have hd : (splitB c l).drop (i + 1) = splitB c (backL c r) := by
      rw [← List.drop_drop, ← hs]
      rfl
    have hg : (splitB c l)[i]? = some (frontL c r) := by
      have := congrArg (fun x => x[0]?) hs
      simpa using this.symm
    have hn : cs.take i ++ [SV.str (bs (frontL c r))] ++ cs.drop (i + 1) = cs.set i (.str (bs (frontL c r))) := by
      rw [List.set_eq_take_append_cons_drop, if_pos (by omega)]
      simp
    have hbl := back_len (c := c) (l := r)
    repeat (first | (simp only [go_sem, Nat.reduceEqDiff, Nat.reduceAdd, Nat.reduceSub, Nat.reduceMul, Nat.reduceLeDiff, Nat.reduceLT, reduceIte, reduceCtorEq, Nat.succ_ne_zero, elemsC, Int.reduceToNat, Nat.reducePow, i1, i2, i3, i9, i10, i0, iO, bs_size, hcs, bs_list, mk_bs, Int.add_zero, Int.toNat_natCast, bs_extract, List.drop_zero, Nat.sub_zero, h5, h6, hn]) | (simp (disch := (first | omega | (simp only [AL, List.length_map]; omega))) only [AR, AL, ifT, ifF, take_all, List.length_cons, List.length_nil, Int.reduceToNat, Int.reducePow, Nat.reducePow, i1, i2, i3, i9, i10, i0, iO, bs_size, hcs, bs_list, mk_bs, Int.add_zero, Int.toNat_natCast, bs_extract, List.drop_zero, Nat.sub_zero, h5, h6, hn]) | (refine wk_intro (by kernel_rfl) ?_) | (refine vp_draw (l := []) (by kernel_rfl) ?_) | (refine vf_of (by first | exact hix) ?_))
    refine ⟨⟨i + 1, backL c r, cs.set i (.str (bs (frontL c r))), rfl, ?_, rfl, by omega, by omega, hd.symm, by rw [List.length_set]; exact hcs, ?_⟩, by omega⟩
    · rw [← h6]
      congr 3
      rw [List.take_of_length_le (by rw [List.length_drop]; omega)]
    · rw [List.take_add_one, List.take_add_one, List.map_append, List.take_set_of_le (Nat.le_refl _), ht, List.getElem?_set_self (by omega), hg]
      rfl
theorem xT_ok (hS : CallOk Tryz.prog xS) : CallOk Tryz.prog xT := by
  refine tab_row_ok (mu := CB.mu) (good := good) hS good_ok xT fun g args r exps hx => ?_
  unfold xT at hx
  split at hx
  · rename_i hg
    have hg : g = 115 := Nat.eq_of_beq_eq_true hg
    subst hg
    unfold xGenSplit at hx
    split at hx
    · rename_i s sep
      split at hx
      · rename_i c hc
        split at hx
        · rename_i hl
          cases hx
          have e1 : s = bs s.data.toList := rfl
          have e2 : sep = bs [c] := by rw [← hc]; rfl
          rw [e2]
          have hl' : s.data.toList.length ≤ 1048576 := by rw [← bs_size]; exact hl
          exact .inr (gen_row s.data.toList c hl')
        · cases hx
      · cases hx
    · cases hx
  · exact .inl hx
theorem split_row (l : List UInt8) (c : UInt8) (hl : l.length ≤ 1048576) :
    ∃ n, rowN CZ.P CZ.X CZ.mu CZ.good n 75 ([.str (bs l), .str (bs [c])].map Arg.sv) = some (.row ((splitB c l).map strC) 1 0 (splitB c l).length, List.replicate 2 none) := by
  refine row_intro (fn := Tryz.f75) (body := (Tryz.f75).body.get!) (by kernel_rfl) (by kernel_rfl) (by kernel_rfl) (Nat.le_of_ble_eq_true (by kernel_rfl)) ?_
  unfold Tryz.f75
  simp only [Option.get!_some]
  have hg : FnR CZ 115 [.str (bs l), .str (bs [c]), .int .i64 0, .int .i64 (-1)] ((splitB c l).map strC) 1 0 (splitB c l).length := by
    refine ⟨1, List.replicate 4 none, ?_⟩
    have h : xT 115 [.sv (.str (bs l)), .sv (.str (bs [c])), .sv (.int .i64 0), .sv (.int .i64 (-1))] = some (.row ((splitB c l).map strC) 1 0 (splitB c l).length, List.replicate 4 none) := by
      unfold xT
      rw [if_pos (by rfl)]
      unfold xGenSplit
      simp only [bs_toList]
      rw [if_pos (by rw [bs_size]; exact hl)]
    unfold callN
    have h4 : CZ.X 115 ([SV.str (bs l), .str (bs [c]), .int .i64 0, .int .i64 (-1)].map Arg.sv) = some (.row ((splitB c l).map strC) 1 0 (splitB c l).length, List.replicate 4 none) := h
    rw [h4]
  simp only [go_sem, Nat.reduceEqDiff, Nat.reduceAdd, Nat.reduceSub, Nat.reduceMul, Nat.reduceLeDiff, Nat.reduceLT, reduceIte, reduceCtorEq, Nat.succ_ne_zero, elemsC, Int.reduceToNat, Nat.reducePow]
  refine vf_row hg ?_
  simp only [go_sem, Nat.reduceEqDiff, Nat.reduceAdd, Nat.reduceSub, Nat.reduceMul, Nat.reduceLeDiff, Nat.reduceLT, reduceIte, reduceCtorEq, Nat.succ_ne_zero, elemsC, Int.reduceToNat, Nat.reducePow]
end Go.Proofs.YtkkmnjhecjkhgaaGreatDoor
namespace Go.Proofs.YtkkmnjhecjkhgaaGreatDoor
open Go.Ev
theorem clone_ok : CallOk Tryz.prog CZ.X := xT_ok xS_ok
end Go.Proofs.YtkkmnjhecjkhgaaGreatDoor
namespace Go.Proofs.YtkkmnjhecjkhgaaGreatDoor
open Go.Ev
theorem or_low {h k m : Nat} (hh : h < 2 ^ k) : h ||| 2 ^ k * m = h + 2 ^ k * m := by
  rw [Nat.or_comm, ← Nat.two_pow_add_eq_or_of_lt hh, Nat.add_comm]
theorem mod_shift {v k : Nat} (hk : k < 32) : v * 2 ^ k % 4294967296 = 2 ^ k * (v % 2 ^ (32 - k)) := by
  rw [Nat.mul_comm v, show 4294967296 = 2 ^ k * 2 ^ (32 - k) by rw [← Nat.pow_add, show k + (32 - k) = 32 by omega], Nat.mul_mod_mul_left]
theorem getD_set_self {xs : List Nat} {i v : Nat} (h : i < xs.length) : (xs.set i v).getD i 0 = v := by
  simp [List.getD_eq_getElem?_getD, h]
theorem getD_set_ne' {xs : List Nat} {i j v : Nat} (h : j ≠ i) : (xs.set i v).getD j 0 = xs.getD j 0 := by
  rw [List.getD_eq_getElem?_getD, List.getD_eq_getElem?_getD, List.getElem?_set_ne (fun e => h e.symm)]
theorem left_row (xs : List Nat) (k n : Nat) (hx : okL xs) (hl : xs.length ≤ 1073741824) (hk : k < 32) (hn : xs.length ≤ n) (hn' : n ≤ xs.length + 1) :
    ∃ m, rowN CZ.P CZ.X CZ.mu CZ.good m 170 ([natV xs, .int .u64 k, .int .i64 n].map Arg.sv) = some (.row ((limN n (wth xs * 2 ^ k)).map limb) 1 0 n, [none, none, none]) := by
  refine row_intro (fn := Tryz.f170) (body := (Tryz.f170).body.get!) (by kernel_rfl) (by kernel_rfl) (by kernel_rfl) (Nat.le_of_ble_eq_true (by kernel_rfl)) ?_
  unfold Tryz.f170
  simp only [Option.get!_some]
  repeat (first | (simp only [go_sem, Nat.reduceEqDiff, Nat.reduceAdd, Nat.reduceSub, Nat.reduceMul, Nat.reduceLeDiff, Nat.reduceLT, reduceIte, reduceCtorEq, Nat.succ_ne_zero, elemsC, Int.reduceToNat, Nat.reducePow]) | (simp (disch := (first | omega | (simp only [AL, List.length_map]; omega))) only [AR, AL, ifT, ifF, take_all, List.length_cons, List.length_nil, Int.reduceToNat, Int.reducePow, Nat.reducePow]) | (refine wk_intro (by kernel_rfl) ?_))
  have hD1 : 2 ^ k ≤ 2 ^ 31 := Nat.pow_le_pow_right (by omega) (by omega)
  refine vp_loop_inv (fun s' => s'.tmp 1 = .sv (.int .u64 k) ∧ s'.tmp 2 = .sv (.int .i64 n) ∧ s'.tmp 7 = .ref 12 0 1 0 n ∧ s'.tmp 13 = .sv (natV xs) ∧ s'.tmp 14 = .sv (.int .i64 xs.length) ∧
      ∃ c : List Nat, ∃ i h : Nat, s'.obj 12 0 = some (c.map limb) ∧ s'.tmp 15 = .sv (.int .i64 i) ∧ c.length = n ∧ okL c ∧ i ≤ xs.length ∧ h < 2 ^ k ∧ wth (xs.take i) * 2 ^ k = wth (c.take i) + 4294967296 ^ i * h ∧
        (i < n → c.getD i 0 = h) ∧ ∀ j, i < j → c.getD j 0 = 0)
    (fun s => match s.tmp 15 with | .sv (.int _ i) => xs.length - i.toNat | _ => 0) ?_ ?_
  · refine ⟨rfl, rfl, rfl, rfl, rfl, List.replicate n 0, 0, 0, rfl, rfl, List.length_replicate .., okL_replicate _, by omega, Nat.pow_pos (by omega), by simp [wth], fun _ => ?_, fun j _ => ?_⟩ <;>
    · simp only [List.getD_eq_getElem?_getD, List.getElem?_replicate]
      split <;> rfl
  rintro s' ⟨i1, i2, i7, i13, i14, c, i, h, iO, i15, hc, hok, hi, hh, hv, hci, hz⟩
  by_cases hend : i = xs.length
  · subst hend
    have e : c = limN n (wth xs * 2 ^ k) := by
      refine limN_unique hok hc ?_
      rw [List.take_of_length_le (Nat.le_refl _)] at hv
      rcases Nat.lt_or_ge xs.length n with h1 | h1
      · have e1 : wth c = wth (c.take (xs.length + 1)) := by rw [List.take_of_length_le (by omega)]
        rw [wth_take_succ, hci h1, ← hv] at e1
        have := wth_lt hok
        rw [hc] at this
        rw [Nat.mod_eq_of_lt (by omega), e1]
      · have hn2 : n = xs.length := by omega
        subst hn2
        rw [hv, List.take_of_length_le (by omega), Nat.add_mul_mod_self_left]
        have := wth_lt hok
        rw [hc] at this
        rw [Nat.mod_eq_of_lt this]
    repeat (first | (simp only [go_sem, Nat.reduceEqDiff, Nat.reduceAdd, Nat.reduceSub, Nat.reduceMul, Nat.reduceLeDiff, Nat.reduceLT, reduceIte, reduceCtorEq, Nat.succ_ne_zero, elemsC, Int.reduceToNat, Nat.reducePow, i1, i2, i7, i13, i14, iO, i15]) | (simp (disch := (first | omega | (simp only [AL, List.length_map]; omega))) only [AR, AL, ifT, ifF, take_all, List.length_cons, List.length_nil, Int.reduceToNat, Int.reducePow, Nat.reducePow, i1, i2, i7, i13, i14, iO, i15]) | (refine wk_intro (by kernel_rfl) ?_) | (refine vp_draw (l := []) (by kernel_rfl) ?_))
    rw [e]
  · have h1 := getD_lt hx i
    have hin : i < n := by omega
    have hci := hci hin
    generalize hvv : xs.getD i 0 = v at *
    have hw1 : v * 2 ^ k < 18446744073709551616 := by
      have : v * 2 ^ k ≤ 4294967295 * 2 ^ 31 := Nat.mul_le_mul (by omega) hD1
      omega
    have hwq : v * 2 ^ k / 4294967296 < 2 ^ k := by
      rw [Nat.div_lt_iff_lt_mul (by omega), Nat.mul_comm (2 ^ k)]
      exact Nat.mul_lt_mul_of_pos_right h1 (Nat.pow_pos (by omega))
    have hor : h ||| v * 2 ^ k % 4294967296 = h + v * 2 ^ k % 4294967296 := by
      rw [mod_shift hk]; exact or_low hh
    have hsum : h + v * 2 ^ k % 4294967296 < 4294967296 := by
      rw [mod_shift hk]
      have e1 : v % 2 ^ (32 - k) + 1 ≤ 2 ^ (32 - k) := Nat.mod_lt _ (Nat.pow_pos (by omega))
      have e2 : 2 ^ k * (v % 2 ^ (32 - k) + 1) ≤ 2 ^ k * 2 ^ (32 - k) := Nat.mul_le_mul_left _ e1
      rw [← Nat.pow_add, show k + (32 - k) = 32 by omega, Nat.mul_add, Nat.mul_one] at e2
      omega
    have hval : wth (xs.take (i + 1)) * 2 ^ k = (wth (c.take i) + 4294967296 ^ i * (h + v * 2 ^ k % 4294967296)) + 4294967296 ^ (i + 1) * (v * 2 ^ k / 4294967296) := by
      rw [wth_take_succ, hvv, Nat.add_mul, hv, Nat.mul_add, Nat.pow_succ, Nat.mul_assoc (4294967296 ^ i) 4294967296, Nat.mul_assoc (4294967296 ^ i) v]
      have := Nat.mod_add_div (v * 2 ^ k) 4294967296
      have e3 : 4294967296 ^ i * (v * 2 ^ k) = 4294967296 ^ i * (v * 2 ^ k % 4294967296) + 4294967296 ^ i * (4294967296 * (v * 2 ^ k / 4294967296)) := by
        rw [← Nat.mul_add, this]
      omega
    generalize hD : 2 ^ k = D at *
    generalize hW : v * D = w at *
    by_cases hin2 : i + 1 < n
    · repeat (first | (simp only [go_sem, Nat.reduceEqDiff, Nat.reduceAdd, Nat.reduceSub, Nat.reduceMul, Nat.reduceLeDiff, Nat.reduceLT, reduceIte, reduceCtorEq, Nat.succ_ne_zero, elemsC, Int.reduceToNat, Nat.reducePow, i1, i2, i7, i13, i14, iO, i15, hci, hvv, hD, hW, hor]) | (simp (disch := (first | omega | (simp only [AL, List.length_map]; omega))) only [AR, AL, ifT, ifF, take_all, List.length_cons, List.length_nil, Int.reduceToNat, Int.reducePow, Nat.reducePow, i1, i2, i7, i13, i14, iO, i15, hci, hvv, hD, hW, hor]) | (refine wk_intro (by kernel_rfl) ?_) | (refine vp_draw (l := []) (by kernel_rfl) ?_))
      refine ⟨⟨(c.set i (h + w % 4294967296)).set (i + 1) (w / 4294967296), i + 1, w / 4294967296, rfl, rfl, by rw [List.length_set, List.length_set]; exact hc, okL_set (okL_set hok _ _ hsum) _ _ (by omega), by omega, hwq, ?_, fun _ => getD_set_self (by rw [List.length_set]; omega), fun j hj => ?_⟩, by omega⟩
      · rw [List.take_set_of_le (Nat.le_refl _), wth_set_take (by omega), hval]
      · rw [getD_set_ne' (by omega), getD_set_ne' (by omega)]
        exact hz j (by omega)
    · repeat (first | (simp only [go_sem, Nat.reduceEqDiff, Nat.reduceAdd, Nat.reduceSub, Nat.reduceMul, Nat.reduceLeDiff, Nat.reduceLT, reduceIte, reduceCtorEq, Nat.succ_ne_zero, elemsC, Int.reduceToNat, Nat.reducePow, i1, i2, i7, i13, i14, iO, i15, hci, hvv, hD, hW, hor]) | (simp (disch := (first | omega | (simp only [AL, List.length_map]; omega))) only [AR, AL, ifT, ifF, take_all, List.length_cons, List.length_nil, Int.reduceToNat, Int.reducePow, Nat.reducePow, i1, i2, i7, i13, i14, iO, i15, hci, hvv, hD, hW, hor]) | (refine wk_intro (by kernel_rfl) ?_) | (refine vp_draw (l := []) (by kernel_rfl) ?_))
      refine ⟨⟨c.set i (h + w % 4294967296), i + 1, w / 4294967296, rfl, rfl, by rw [List.length_set]; exact hc, okL_set hok _ _ hsum, by omega, hwq, ?_, fun hlt => absurd hlt hin2, fun j hj => ?_⟩, by omega⟩
      · rw [wth_set_take (by omega), hval]
      · rw [getD_set_ne' (by omega)]
        exact hz j (by omega)
theorem XL_ok : CallOk Tryz.prog CX.X := by
  refine tab_row_ok (mu := CZ.mu) (good := good) clone_ok good_ok XL fun g args r exps hx => ?_
  unfold XL at hx
  split at hx
  · rename_i hg
    have hg : g = 170 := Nat.eq_of_beq_eq_true hg
    subst hg
    split at hx
    · rename_i s k n
      split at hx
      · rename_i xs hd
        split at hx
        · rename_i hc
          obtain ⟨rfl, h1, h2⟩ := decV_some hd
          cases hx
          exact .inr (left_row xs k n h1 h2 hc.1 hc.2.1 hc.2.2)
        · cases hx
      · cases hx
    · cases hx
  split at hx
  · rename_i hg
    have hg : g = 75 := Nat.eq_of_beq_eq_true hg
    subst hg
    unfold xSplit at hx
    split at hx
    · rename_i s sep
      split at hx
      · rename_i c hc
        split at hx
        · rename_i hl
          cases hx
          have e2 : sep = bs [c] := by rw [← hc]; rfl
          rw [e2]
          have hl' : s.data.toList.length ≤ 1048576 := by rw [← bs_size]; exact hl
          exact .inr (split_row s.data.toList c hl')
        · cases hx
      · cases hx
    · cases hx
  · exact .inl hx
theorem nat_left (xs : List Nat) (k n : Nat) (hx : okL xs) (hl : xs.length ≤ 1073741824) (hk : k < 32) (hn : xs.length ≤ n) (hn' : n ≤ xs.length + 1) :
    FnR CX 170 [natV xs, .int .u64 k, .int .i64 n] ((limN n (wth xs * 2 ^ k)).map limb) 1 0 n := by
  refine ⟨1, [none, none, none], ?_⟩
  have h : XL 170 [.sv (natV xs), .sv (.int .u64 (.ofNat k)), .sv (.int .i64 (.ofNat n))] = some (.row ((limN n (wth xs * 2 ^ k)).map limb) 1 0 n, [none, none, none]) := by
    unfold XL
    rw [if_pos (by rfl)]
    simp only [decV_nat hx hl]
    rw [if_pos ⟨hk, hn, hn'⟩]
  unfold callN
  have h4 : CX.X 170 ([natV xs, .int .u64 k, .int .i64 n].map Arg.sv) = some (.row ((limN n (wth xs * 2 ^ k)).map limb) 1 0 n, [none, none, none]) := h
  rw [h4]
end Go.Proofs.YtkkmnjhecjkhgaaGreatDoor
namespace Go.Proofs.YtkkmnjhecjkhgaaGreatDoor
open Go.Ev
theorem split_cons (c : UInt8) (l : List UInt8) : ∃ x xs, splitB c l = x :: xs := by
  cases h : splitB c l with
  | nil => have := split_len c l; rw [h] at this; simp at this
  | cons x xs => exact ⟨x, xs, rfl⟩
theorem plain_split : ∀ (l : List UInt8) (x : List UInt8) (xs : List (List UInt8)), splitB 10 l = x :: xs →
    plainL false l = frontL 35 x ++ Lib.joinTail [10] (xs.map (frontL 35)) ∧ plainL true l = Lib.joinTail [10] (xs.map (frontL 35)) := by
  intro l
  induction l with
  | nil =>
    intro x xs h
    simp [splitB] at h
    obtain ⟨rfl, rfl⟩ := h
    exact ⟨rfl, rfl⟩
  | cons b l ih =>
    intro x xs h
    obtain ⟨y, ys, hy⟩ := split_cons 10 l
    obtain ⟨h1, h2⟩ := ih y ys hy
    by_cases hb : b = 10
    · subst hb
      rw [splitB] at h
      simp only [BEq.rfl, if_true] at h
      injection h with e1 e2
      subst e1
      rw [← e2, hy, plainL, plainL]
      simp only [BEq.rfl, if_true]
      rw [h1]
      unfold Lib.joinTail
      simp [frontL]
    · have hb' : (b == 10) = false := by simpa using hb
      rw [splitB, hb', hy] at h
      simp only [Bool.false_eq_true, if_false] at h
      injection h with e1 e2
      subst e1 e2
      rw [plainL, plainL, hb']
      simp only [Bool.false_eq_true, if_false, Bool.false_or, Bool.true_or, if_true]
      refine ⟨?_, h2⟩
      by_cases hc : b = 35
      · subst hc
        simp only [BEq.rfl, if_true]
        rw [h2]
        simp [frontL]
      · have hc' : (b == 35) = false := by simpa using hc
        have hn : (b != 35) = true := by simpa using hc
        rw [hc']
        simp only [Bool.false_eq_true, if_false]
        rw [h1, show frontL 35 (b :: y) = b :: frontL 35 y by unfold frontL; rw [List.takeWhile_cons, hn]; rfl]
        rfl
theorem plain_join (l : List UInt8) : Lib.join ((splitB 10 l).map (frontL 35)) [10] = plainL false l := by
  obtain ⟨x, xs, h⟩ := split_cons 10 l
  rw [(plain_split l x xs h).1, h, List.map_cons, Lib.join_cons]
theorem plain_len (l : List UInt8) : ∀ off, (plainL off l).length ≤ l.length := by
  induction l with
  | nil => intro off; cases off <;> simp [plainL]
  | cons b l ih =>
    intro off
    have h1 := ih false
    have h2 := ih true
    rw [plainL]
    split
    · simpa using h1
    · split
      · simp; omega
      · simpa using h1
theorem x_join {xs : List (List UInt8)} {n : Nat} (sep : List UInt8) (hn : xs.length = n) (h1 : n ≤ 140737488355328) (h2 : (Lib.join xs sep).length ≤ 140737488355328) :
    Go.Ev.Fn CX 51 [.sl n (xs.map strC), .str (bs sep)] (.str (bs (Lib.join xs sep))) := by
  refine ⟨1, List.replicate 2 none, ?_⟩
  have e : ∀ ys : List (List UInt8), strsOf (ys.map strC) = some ys := by
    intro ys
    induction ys with
    | nil => rfl
    | cons y ys ih =>
      rw [List.map_cons]
      show (match strsOf (ys.map strC) with | some l => some ((bs y).data.toList :: l) | none => none) = _
      rw [ih, bs_toList]
  have h : xJoin [.sv (.sl n (xs.map strC)), .sv (.str (bs sep))] = some (.sv (.str (bs (Lib.join xs sep))), List.replicate 2 none) := by
    unfold xJoin
    simp only [e, bs_toList]
    rw [if_pos ⟨hn, h1, h2⟩]
  have h4 : CX.X 51 ([SV.sl n (xs.map strC), .str (bs sep)].map Arg.sv) = some (.sv (.str (bs (Lib.join xs sep))), List.replicate 2 none) := h
  unfold callN
  rw [h4]
theorem str_Split (l : List UInt8) (c : UInt8) (hl : l.length ≤ 1048576) :
    FnR CX 75 [.str (bs l), .str (bs [c])] ((splitB c l).map strC) 1 0 (splitB c l).length := by
  refine ⟨1, List.replicate 2 none, ?_⟩
  have h : xSplit [.sv (.str (bs l)), .sv (.str (bs [c]))] = some (.row ((splitB c l).map strC) 1 0 (splitB c l).length, List.replicate 2 none) := by
    unfold xSplit
    simp only [bs_toList]
    rw [if_pos (by rw [bs_size]; exact hl)]
  have h4 : CX.X 75 ([SV.str (bs l), .str (bs [c])].map Arg.sv) = some (.row ((splitB c l).map strC) 1 0 (splitB c l).length, List.replicate 2 none) := h
  unfold callN
  rw [h4]
theorem data_plain (l : List UInt8) (hl : l.length ≤ 1048576) : Go.Ev.Fn CX 48 [.str (bs l)] (.str (bs (plainL false l))) := by
  have hsp := str_Split l 10 hl
  have hlen := split_len 10 l
  have hcl := count_le (c := 10) (l := l)
  have hj := x_join (xs := (splitB 10 l).map (frontL 35)) (n := (splitB 10 l).length) [10] (by rw [List.length_map]) (by omega) (by rw [plain_join]; have := plain_len l false; omega)
  rw [plain_join] at hj
  have hlin : ∀ x ∈ splitB 10 l, x.length ≤ 1099511627776 := by
    have key : ∀ (l : List UInt8), ∀ x ∈ splitB 10 l, x.length ≤ l.length := by
      intro l
      induction l with
      | nil => intro x hx; simp [splitB] at hx; subst hx; simp
      | cons b l ih =>
        intro x hx
        obtain ⟨y, ys, hy⟩ := split_cons 10 l
        rw [splitB, hy] at hx
        split at hx
        · rcases List.mem_cons.1 hx with h | h
          · subst h; simp
          · have := ih x (by rw [hy]; exact h)
            simp; omega
        · rcases List.mem_cons.1 hx with h | h
          · subst h
            have := ih y (by rw [hy]; exact List.mem_cons_self)
            simp; omega
          · have := ih x (by rw [hy]; exact List.mem_cons_of_mem _ h)
            simp; omega
    intro x hx
    have := key l x hx
    omega
  generalize hL : splitB 10 l = L at *
  generalize hn : L.length = n at *
  refine Go.Ev.Fn.intro (fn := Tryz.f48) (body := (Tryz.f48).body.get!) (by kernel_rfl) (by kernel_rfl) (by kernel_rfl) (fun _ => rfl) (Nat.le_of_ble_eq_true (by kernel_rfl)) ?_; unfold Tryz.f48; simp only [Option.get!_some]
  repeat (first | (simp only [go_sem, Nat.reduceEqDiff, Nat.reduceAdd, Nat.reduceSub, Nat.reduceMul, Nat.reduceLeDiff, Nat.reduceLT, reduceIte, reduceCtorEq, Nat.succ_ne_zero, elemsC, Int.reduceToNat, Nat.reducePow, mk_bs]) | (simp (disch := (first | omega | (simp only [AL, List.length_map]; omega))) only [AR, AL, ifT, ifF, take_all, List.length_cons, List.length_nil, Int.reduceToNat, Int.reducePow, Nat.reducePow, mk_bs]) | (refine wk_intro (by kernel_rfl) ?_))
  refine vf_row hsp ?_
  repeat (first | (simp only [go_sem, Nat.reduceEqDiff, Nat.reduceAdd, Nat.reduceSub, Nat.reduceMul, Nat.reduceLeDiff, Nat.reduceLT, reduceIte, reduceCtorEq, Nat.succ_ne_zero, elemsC, Int.reduceToNat, Nat.reducePow]) | (simp (disch := (first | omega | (simp only [AL, List.length_map]; omega))) only [AR, AL, ifT, ifF, take_all, List.length_cons, List.length_nil, Int.reduceToNat, Int.reducePow, Nat.reducePow]) | (refine wk_intro (by kernel_rfl) ?_))
  refine vp_loop_inv (fun s => s.tmp 3 = .ref 7 0 1 0 n ∧ s.tmp 8 = .ref 7 0 1 0 n ∧ s.tmp 9 = .sv (.int .i64 (n : Int)) ∧
      ∃ (i : Nat) (cs : List SV), s.tmp 10 = .sv (.int .i64 (i : Int)) ∧ s.obj 7 0 = some cs ∧ i ≤ n ∧ cs.length = n ∧ cs.take i = ((L.map (frontL 35)).take i).map strC ∧ cs.drop i = (L.drop i).map strC)
    (fun s => match s.tmp 10 with | .sv (.int _ i) => n - i.toNat | _ => 0) ?_ ?_
  · exact ⟨rfl, rfl, rfl, 0, _, rfl, rfl, by omega, by rw [List.length_map]; exact hn, rfl, rfl⟩
  rintro s2 ⟨i3, i8, i9, i, cs, i10, iO, hi, hcs, ht, hd⟩
  by_cases hend : i = n
  · subst hend
    have e : cs = (L.map (frontL 35)).map strC := by
      rw [List.take_of_length_le (by omega), List.take_of_length_le (by rw [List.length_map]; omega)] at ht
      exact ht
    have e2 : cs.take i = (L.map (frontL 35)).map strC := by rw [← e, List.take_of_length_le (by omega)]
    repeat (first | (simp only [go_sem, Nat.reduceEqDiff, Nat.reduceAdd, Nat.reduceSub, Nat.reduceMul, Nat.reduceLeDiff, Nat.reduceLT, reduceIte, reduceCtorEq, Nat.succ_ne_zero, elemsC, Int.reduceToNat, Nat.reducePow, i3, i8, i9, i10, iO, mk_bs, e2]) | (simp (disch := (first | omega | (simp only [AL, List.length_map]; omega))) only [AR, AL, ifT, ifF, take_all, List.length_cons, List.length_nil, Int.reduceToNat, Int.reducePow, Nat.reducePow, i3, i8, i9, i10, iO, mk_bs, e2]) | (refine wk_intro (by kernel_rfl) ?_) | (refine vf_of (by first | exact hj) ?_))
  · have hlt : i < L.length := by omega
    have hx := str_Cut CX_str L[i] 35 (hlin _ (List.getElem_mem hlt))
    have hh : (cs.drop i).head? = some (.str (bs L[i])) := by
      rw [hd, List.drop_eq_getElem_cons hlt]
      rfl
    have hn2 : cs.take i ++ [SV.str (bs (frontL 35 L[i]))] ++ cs.drop (i + 1) = cs.set i (.str (bs (frontL 35 L[i]))) := by
      rw [List.set_eq_take_append_cons_drop, if_pos (by omega)]
      simp
    repeat (first | (simp only [go_sem, Nat.reduceEqDiff, Nat.reduceAdd, Nat.reduceSub, Nat.reduceMul, Nat.reduceLeDiff, Nat.reduceLT, reduceIte, reduceCtorEq, Nat.succ_ne_zero, elemsC, Int.reduceToNat, Nat.reducePow, i3, i8, i9, i10, iO, mk_bs, hh, hcs, hn2]) | (simp (disch := (first | omega | (simp only [AL, List.length_map]; omega))) only [AR, AL, ifT, ifF, take_all, List.length_cons, List.length_nil, Int.reduceToNat, Int.reducePow, Nat.reducePow, i3, i8, i9, i10, iO, mk_bs, hh, hcs, hn2]) | (refine wk_intro (by kernel_rfl) ?_) | (refine vf_of (by first | exact hx) ?_))
    refine ⟨⟨i + 1, cs.set i (.str (bs (frontL 35 L[i]))), rfl, rfl, by omega, by rw [List.length_set]; exact hcs, ?_, ?_⟩, by omega⟩
    · rw [List.take_add_one, List.take_add_one, List.map_append, List.take_set_of_le (Nat.le_refl _), ht, List.getElem?_set_self (by omega), List.getElem?_map, List.getElem?_eq_getElem hlt]
      rfl
    · have := congrArg (List.drop 1) hd
      rw [List.drop_drop, ← List.map_drop, List.drop_drop] at this
      rw [List.drop_set_of_lt (by omega)]
      exact this
end Go.Proofs.YtkkmnjhecjkhgaaGreatDoor
namespace Go.Proofs.YtkkmnjhecjkhgaaGreatDoor
open Go.Ev
theorem nat_Is (xs : List Nat) (hl : xs.length ≤ 1099511627776) : Go.Ev.Fn CX 144 [natV xs] (.bool (isT xs)) := by
  refine Go.Ev.Fn.intro (fn := Tryz.f144) (body := (Tryz.f144).body.get!) (by kernel_rfl) (by kernel_rfl) (by kernel_rfl) (fun _ => rfl) (Nat.le_of_ble_eq_true (by kernel_rfl)) ?_; unfold Tryz.f144; simp only [Option.get!_some]
  by_cases h0 : xs.length = 0
  · have e : isT xs = true := by simp [isT, h0]
    rw [e]
    repeat (first | (simp only [go_sem, Nat.reduceEqDiff, Nat.reduceAdd, Nat.reduceSub, Nat.reduceMul, Nat.reduceLeDiff, Nat.reduceLT, reduceIte, reduceCtorEq, Nat.succ_ne_zero, elemsC, Int.reduceToNat, Nat.reducePow]) | (simp (disch := (first | omega | (simp only [AL, List.length_map]; omega))) only [AR, AL, ifT, ifF, take_all, List.length_cons, List.length_nil, Int.reduceToNat, Int.reducePow, Nat.reducePow]) | (refine wk_intro (by kernel_rfl) ?_) | (refine vp_draw (l := []) (by kernel_rfl) ?_))
  · have e : isT xs = (xs.getD (xs.length - 1) 0 != 0) := by simp [isT, h0]
    rw [e]
    repeat (first | (simp only [go_sem, Nat.reduceEqDiff, Nat.reduceAdd, Nat.reduceSub, Nat.reduceMul, Nat.reduceLeDiff, Nat.reduceLT, reduceIte, reduceCtorEq, Nat.succ_ne_zero, elemsC, Int.reduceToNat, Nat.reducePow]) | (simp (disch := (first | omega | (simp only [AL, List.length_map]; omega))) only [AR, AL, ifT, ifF, take_all, List.length_cons, List.length_nil, Int.reduceToNat, Int.reducePow, Nat.reducePow]) | (refine wk_intro (by kernel_rfl) ?_) | (refine vp_draw (l := []) (by kernel_rfl) ?_))
    rw [bne_nat]
theorem lim_dropLast {xs : List Nat} (h : isT xs = false) : xs.length ≠ 0 ∧ lim (wth (xs.take (xs.length - 1))) = lim (wth xs) := by
  unfold isT at h
  simp only [Bool.or_eq_false_iff, beq_eq_false_iff_ne, bne_eq_false_iff_eq] at h
  refine ⟨h.1, ?_⟩
  rcases xs.eq_nil_or_concat with rfl | ⟨ys, z, rfl⟩
  · rfl
  · rw [List.concat_eq_append] at h ⊢
    have e : z = 0 := by simpa using h.2
    subst e
    simp [lim_snoc0]
theorem nat_trim (xs : List Nat) (hx : okL xs) (hl : xs.length ≤ 1099511627776) : Go.Ev.Fn CX 120 [natV xs] (natV (lim (wth xs))) := by
  refine Go.Ev.Fn.intro (fn := Tryz.f120) (body := (Tryz.f120).body.get!) (by kernel_rfl) (by kernel_rfl) (by kernel_rfl) (fun _ => rfl) (Nat.le_of_ble_eq_true (by kernel_rfl)) ?_; unfold Tryz.f120; simp only [Option.get!_some]
  simp only [go_sem, Nat.reduceEqDiff, Nat.reduceAdd, Nat.reduceSub, Nat.reduceMul, Nat.reduceLeDiff, Nat.reduceLT, reduceIte, reduceCtorEq, Nat.succ_ne_zero, elemsC, Int.reduceToNat, Nat.reducePow]
  refine vp_loop_inv (fun s => ∃ ys, s.tmp 0 = .sv (natV ys) ∧ okL ys ∧ ys.length ≤ xs.length ∧ lim (wth ys) = lim (wth xs)) (fun s => (lenTV (s.tmp 0)).getD 0) ⟨xs, rfl, hx, Nat.le_refl _, rfl⟩ ?_
  rintro s ⟨ys, h0, hy, hle, he⟩
  repeat (first | (simp only [go_sem, Nat.reduceEqDiff, Nat.reduceAdd, Nat.reduceSub, Nat.reduceMul, Nat.reduceLeDiff, Nat.reduceLT, reduceIte, reduceCtorEq, Nat.succ_ne_zero, elemsC, Int.reduceToNat, Nat.reducePow, h0]) | (simp (disch := (first | omega | (simp only [AL, List.length_map]; omega))) only [AR, AL, ifT, ifF, take_all, List.length_cons, List.length_nil, Int.reduceToNat, Int.reducePow, Nat.reducePow, h0]) | (refine wk_intro (by kernel_rfl) ?_) | (refine vp_draw (l := []) (by kernel_rfl) ?_))
  refine vf_of (nat_Is ys (by omega)) ?_; simp only [go_sem, Nat.reduceEqDiff, Nat.reduceAdd, Nat.reduceSub, Nat.reduceMul, Nat.reduceLeDiff, Nat.reduceLT, reduceIte, reduceCtorEq, Nat.succ_ne_zero, elemsC, Int.reduceToNat, Nat.reducePow, h0]
  by_cases hT : isT ys = true
  · repeat (first | (simp only [go_sem, Nat.reduceEqDiff, Nat.reduceAdd, Nat.reduceSub, Nat.reduceMul, Nat.reduceLeDiff, Nat.reduceLT, reduceIte, reduceCtorEq, Nat.succ_ne_zero, elemsC, Int.reduceToNat, Nat.reducePow, h0, hT, Bool.not_true]) | (simp (disch := (first | omega | (simp only [AL, List.length_map]; omega))) only [AR, AL, ifT, ifF, take_all, List.length_cons, List.length_nil, Int.reduceToNat, Int.reducePow, Nat.reducePow, h0, hT, Bool.not_true]) | (refine wk_intro (by kernel_rfl) ?_) | (refine vp_draw (l := []) (by kernel_rfl) ?_))
    rw [← he, ← lim_unique hy (isT_iff.1 hT)]
  · have hT : isT ys = false := by simpa using hT
    obtain ⟨h1, h2⟩ := lim_dropLast hT
    repeat (first | (simp only [go_sem, Nat.reduceEqDiff, Nat.reduceAdd, Nat.reduceSub, Nat.reduceMul, Nat.reduceLeDiff, Nat.reduceLT, reduceIte, reduceCtorEq, Nat.succ_ne_zero, elemsC, Int.reduceToNat, Nat.reducePow, h0, hT, Bool.not_false]) | (simp (disch := (first | omega | (simp only [AL, List.length_map]; omega))) only [AR, AL, ifT, ifF, take_all, List.length_cons, List.length_nil, Int.reduceToNat, Int.reducePow, Nat.reducePow, h0, hT, Bool.not_false]) | (refine wk_intro (by kernel_rfl) ?_) | (refine vp_draw (l := []) (by kernel_rfl) ?_))
    refine ⟨⟨ys.take (ys.length - 1), ?_, okL_take hy _, ?_, h2.trans he⟩, ?_⟩
    · rw [natV_cut (by omega)]
    · rw [List.length_take]; omega
    · simp only [lenTV, Option.getD_some]; omega
theorem nat_Trim (xs : List Nat) (hx : okL xs) (hl : xs.length ≤ 274877906944) : Go.Ev.Fn CX 117 [natV xs] (natV (lim (wth xs))) := by
  have hc : Go.Ev.Fn CX 142 [natV (lim (wth xs))] (natV (lim (wth xs))) := by
    refine ⟨1, [none], ?_⟩
    have h1 := lim_length_le hx
    have h2 := natV_one (lim (wth xs))
    have h3 : cloneX 142 142 [.sv (natV (lim (wth xs)))] = some (.sv (natV (lim (wth xs))), [none]) := by
      simp only [cloneX, if_true]
      rw [if_pos ⟨natV_len _, h2, by omega⟩]
    have h4 : CX.X 142 [.sv (natV (lim (wth xs)))] = some (.sv (natV (lim (wth xs))), [none]) := h3
    unfold callN
    rw [List.map_cons, List.map_nil, h4]
  refine Go.Ev.Fn.intro (fn := Tryz.f117) (body := (Tryz.f117).body.get!) (by kernel_rfl) (by kernel_rfl) (by kernel_rfl) (fun _ => rfl) (Nat.le_of_ble_eq_true (by kernel_rfl)) ?_; unfold Tryz.f117; simp only [Option.get!_some]
  simp only [go_sem, Nat.reduceEqDiff, Nat.reduceAdd, Nat.reduceSub, Nat.reduceMul, Nat.reduceLeDiff, Nat.reduceLT, reduceIte, reduceCtorEq, Nat.succ_ne_zero, elemsC, Int.reduceToNat, Nat.reducePow]
  refine vf_of (nat_trim xs hx (by omega)) ?_; simp only [go_sem, Nat.reduceEqDiff, Nat.reduceAdd, Nat.reduceSub, Nat.reduceMul, Nat.reduceLeDiff, Nat.reduceLT, reduceIte, reduceCtorEq, Nat.succ_ne_zero, elemsC, Int.reduceToNat, Nat.reducePow]
  refine vf_of (hc) ?_; simp only [go_sem, Nat.reduceEqDiff, Nat.reduceAdd, Nat.reduceSub, Nat.reduceMul, Nat.reduceLeDiff, Nat.reduceLT, reduceIte, reduceCtorEq, Nat.succ_ne_zero, elemsC, Int.reduceToNat, Nat.reducePow]
theorem nat_Of (n : Nat) (hn : n < 18446744073709551616) : Go.Ev.Fn CX 81 [.int .u64 n] (natV (lim n)) := by
  refine Go.Ev.Fn.intro (fn := Tryz.f81) (body := (Tryz.f81).body.get!) (by kernel_rfl) (by kernel_rfl) (by kernel_rfl) (fun _ => rfl) (Nat.le_of_ble_eq_true (by kernel_rfl)) ?_; unfold Tryz.f81; simp only [Option.get!_some]
  repeat (first | (simp only [go_sem, Nat.reduceEqDiff, Nat.reduceAdd, Nat.reduceSub, Nat.reduceMul, Nat.reduceLeDiff, Nat.reduceLT, reduceIte, reduceCtorEq, Nat.succ_ne_zero, elemsC, Int.reduceToNat, Nat.reducePow]) | (simp (disch := (first | omega | (simp only [AL, List.length_map]; omega))) only [AR, AL, ifT, ifF, take_all, List.length_cons, List.length_nil, Int.reduceToNat, Int.reducePow, Nat.reducePow]) | (refine wk_intro (by kernel_rfl) ?_) | (refine vp_draw (l := []) (by kernel_rfl) ?_))
  have e : wth [n % 4294967296, n / 4294967296] = n := by simp only [wth]; omega
  refine vf_of (nat_trim [n % 4294967296, n / 4294967296] (by simp [okL]; omega) (by simp)) ?_; repeat (first | (simp only [go_sem, Nat.reduceEqDiff, Nat.reduceAdd, Nat.reduceSub, Nat.reduceMul, Nat.reduceLeDiff, Nat.reduceLT, reduceIte, reduceCtorEq, Nat.succ_ne_zero, elemsC, Int.reduceToNat, Nat.reducePow]) | (simp (disch := (first | omega | (simp only [AL, List.length_map]; omega))) only [AR, AL, ifT, ifF, take_all, List.length_cons, List.length_nil, Int.reduceToNat, Int.reducePow, Nat.reducePow]) | (refine wk_intro (by kernel_rfl) ?_) | (refine vp_draw (l := []) (by kernel_rfl) ?_))
  rw [e]
end Go.Proofs.YtkkmnjhecjkhgaaGreatDoor
namespace Go.Proofs.YtkkmnjhecjkhgaaGreatDoor
open Go.Ev
def cmpN (a b : Nat) : Int := if a < b then -1 else if a = b then 0 else 1
theorem wth_lt_of {xs ys : List Nat} (hx : okL xs) (hy : okL ys) (hl : xs.length = ys.length) {i : Nat} (hi : i < xs.length) (hd : xs.drop (i + 1) = ys.drop (i + 1)) (h : xs.getD i 0 < ys.getD i 0) : wth xs < wth ys := by
  have h1 : ∀ (zs : List Nat), i < zs.length → wth zs = wth (zs.take i) + 4294967296 ^ i * (zs.getD i 0 + 4294967296 * wth (zs.drop (i + 1))) := by
    intro zs hz
    conv => lhs; rw [← List.take_append_drop i zs]
    rw [wth_append, List.length_take, Nat.min_eq_left (by omega), List.drop_eq_getElem_cons hz, wth_cons, List.getD_eq_getElem?_getD, List.getElem?_eq_getElem hz]
    rfl
  rw [h1 xs hi, h1 ys (by omega), hd]
  have h2 := wth_lt (okL_take hx i)
  rw [List.length_take, Nat.min_eq_left (by omega)] at h2
  have h3 : 4294967296 ^ i * (xs.getD i 0 + 4294967296 * wth (ys.drop (i + 1)) + 1) ≤ 4294967296 ^ i * (ys.getD i 0 + 4294967296 * wth (ys.drop (i + 1))) := Nat.mul_le_mul_left _ (by omega)
  rw [Nat.mul_add _ _ 1, Nat.mul_one] at h3
  omega
theorem lim_length_lt {a b : Nat} (h : (lim a).length < (lim b).length) : a < b := by
  rcases Nat.lt_or_ge a b with h1 | h1
  · exact h1
  · have := trimL_length (okL_lim b) (okL_lim a) (trimL_lim b) (by rw [wth_lim, wth_lim]; exact h1)
    omega
theorem nat_Cmp (xs ys : List Nat) (hx : okL xs) (hy : okL ys) (hl : xs.length ≤ 1099511627776) (hm : ys.length ≤ 1099511627776) : Go.Ev.Fn CX 80 [natV xs, natV ys] (.int .i64 (cmpN (wth xs) (wth ys))) := by
  refine Go.Ev.Fn.intro (fn := Tryz.f80) (body := (Tryz.f80).body.get!) (by kernel_rfl) (by kernel_rfl) (by kernel_rfl) (fun _ => rfl) (Nat.le_of_ble_eq_true (by kernel_rfl)) ?_; unfold Tryz.f80; simp only [Option.get!_some]
  have lx := lim_length_le hx
  have ly := lim_length_le hy
  repeat (first | (simp only [go_sem, Nat.reduceEqDiff, Nat.reduceAdd, Nat.reduceSub, Nat.reduceMul, Nat.reduceLeDiff, Nat.reduceLT, reduceIte, reduceCtorEq, Nat.succ_ne_zero, elemsC, Int.reduceToNat, Nat.reducePow]) | (simp (disch := (first | omega | (simp only [AL, List.length_map]; omega))) only [AR, AL, ifT, ifF, take_all, List.length_cons, List.length_nil, Int.reduceToNat, Int.reducePow, Nat.reducePow]) | (refine wk_intro (by kernel_rfl) ?_) | (refine vp_draw (l := []) (by kernel_rfl) ?_))
  refine vf_of (nat_trim xs hx (by omega)) ?_; repeat (first | (simp only [go_sem, Nat.reduceEqDiff, Nat.reduceAdd, Nat.reduceSub, Nat.reduceMul, Nat.reduceLeDiff, Nat.reduceLT, reduceIte, reduceCtorEq, Nat.succ_ne_zero, elemsC, Int.reduceToNat, Nat.reducePow]) | (simp (disch := (first | omega | (simp only [AL, List.length_map]; omega))) only [AR, AL, ifT, ifF, take_all, List.length_cons, List.length_nil, Int.reduceToNat, Int.reducePow, Nat.reducePow]) | (refine wk_intro (by kernel_rfl) ?_) | (refine vp_draw (l := []) (by kernel_rfl) ?_))
  refine vf_of (nat_trim ys hy (by omega)) ?_; repeat (first | (simp only [go_sem, Nat.reduceEqDiff, Nat.reduceAdd, Nat.reduceSub, Nat.reduceMul, Nat.reduceLeDiff, Nat.reduceLT, reduceIte, reduceCtorEq, Nat.succ_ne_zero, elemsC, Int.reduceToNat, Nat.reducePow]) | (simp (disch := (first | omega | (simp only [AL, List.length_map]; omega))) only [AR, AL, ifT, ifF, take_all, List.length_cons, List.length_nil, Int.reduceToNat, Int.reducePow, Nat.reducePow]) | (refine wk_intro (by kernel_rfl) ?_) | (refine vp_draw (l := []) (by kernel_rfl) ?_))
  by_cases h1 : (lim (wth xs)).length = (lim (wth ys)).length
  · repeat (first | (simp only [go_sem, Nat.reduceEqDiff, Nat.reduceAdd, Nat.reduceSub, Nat.reduceMul, Nat.reduceLeDiff, Nat.reduceLT, reduceIte, reduceCtorEq, Nat.succ_ne_zero, elemsC, Int.reduceToNat, Nat.reducePow]) | (simp (disch := (first | omega | (simp only [AL, List.length_map]; omega))) only [AR, AL, ifT, ifF, take_all, List.length_cons, List.length_nil, Int.reduceToNat, Int.reducePow, Nat.reducePow]) | (refine wk_intro (by kernel_rfl) ?_))
    refine vp_loop_inv (fun s => s.tmp 0 = .sv (natV (lim (wth xs))) ∧ s.tmp 1 = .sv (natV (lim (wth ys))) ∧ ∃ i : Nat, s.tmp 5 = .sv (.int .i64 ((i : Int) - 1)) ∧ i ≤ (lim (wth xs)).length ∧ (lim (wth xs)).drop i = (lim (wth ys)).drop i)
      (fun s => match s.tmp 5 with | .sv (.int _ i) => (i + 1).toNat | _ => 0) ⟨rfl, rfl, (lim (wth xs)).length, rfl, Nat.le_refl _, ?_⟩ ?_
    · rw [List.drop_length, h1, List.drop_length]
    rintro s ⟨g0, g1, i, g5, hi, hd⟩
    rcases Nat.eq_zero_or_pos i with rfl | hi0
    · have e : cmpN (wth xs) (wth ys) = 0 := by
        have := congrArg wth hd
        rw [List.drop_zero, List.drop_zero, wth_lim, wth_lim] at this
        rw [this]
        simp [cmpN]
      rw [e]
      repeat (first | (simp only [go_sem, Nat.reduceEqDiff, Nat.reduceAdd, Nat.reduceSub, Nat.reduceMul, Nat.reduceLeDiff, Nat.reduceLT, reduceIte, reduceCtorEq, Nat.succ_ne_zero, elemsC, Int.reduceToNat, Nat.reducePow, g0, g1, g5]) | (simp (disch := (first | omega | (simp only [AL, List.length_map]; omega))) only [AR, AL, ifT, ifF, take_all, List.length_cons, List.length_nil, Int.reduceToNat, Int.reducePow, Nat.reducePow, g0, g1, g5]) | (refine wk_intro (by kernel_rfl) ?_) | (refine vp_draw (l := []) (by kernel_rfl) ?_))
    · repeat (first | (simp only [go_sem, Nat.reduceEqDiff, Nat.reduceAdd, Nat.reduceSub, Nat.reduceMul, Nat.reduceLeDiff, Nat.reduceLT, reduceIte, reduceCtorEq, Nat.succ_ne_zero, elemsC, Int.reduceToNat, Nat.reducePow, g0, g1, g5]) | (simp (disch := (first | omega | (simp only [AL, List.length_map]; omega))) only [AR, AL, ifT, ifF, take_all, List.length_cons, List.length_nil, Int.reduceToNat, Int.reducePow, Nat.reducePow, g0, g1, g5]) | (refine wk_intro (by kernel_rfl) ?_) | (refine vp_draw (l := []) (by kernel_rfl) ?_))
      have hdr : ∀ zs : List Nat, i ≤ zs.length → zs.drop (i - 1) = zs.getD (i - 1) 0 :: zs.drop i := by
        intro zs hz
        rw [List.drop_eq_getElem_cons (show i - 1 < zs.length by omega), List.getD_eq_getElem?_getD, List.getElem?_eq_getElem (show i - 1 < zs.length by omega), show i - 1 + 1 = i by omega]
        rfl
      rcases Nat.lt_trichotomy ((lim (wth xs)).getD (i - 1) 0) ((lim (wth ys)).getD (i - 1) 0) with hc | hc | hc
      · have := wth_lt_of (okL_lim _) (okL_lim _) h1 (i := i - 1) (by omega) (by rw [show i - 1 + 1 = i by omega]; exact hd) hc
        rw [wth_lim, wth_lim] at this
        have e : cmpN (wth xs) (wth ys) = -1 := by simp [cmpN, this]
        rw [e]
        repeat (first | (simp only [go_sem, Nat.reduceEqDiff, Nat.reduceAdd, Nat.reduceSub, Nat.reduceMul, Nat.reduceLeDiff, Nat.reduceLT, reduceIte, reduceCtorEq, Nat.succ_ne_zero, elemsC, Int.reduceToNat, Nat.reducePow, g0, g1, g5]) | (simp (disch := (first | omega | (simp only [AL, List.length_map]; omega))) only [AR, AL, ifT, ifF, take_all, List.length_cons, List.length_nil, Int.reduceToNat, Int.reducePow, Nat.reducePow, g0, g1, g5]) | (refine wk_intro (by kernel_rfl) ?_) | (refine vp_draw (l := []) (by kernel_rfl) ?_))
      · repeat (first | (simp only [go_sem, Nat.reduceEqDiff, Nat.reduceAdd, Nat.reduceSub, Nat.reduceMul, Nat.reduceLeDiff, Nat.reduceLT, reduceIte, reduceCtorEq, Nat.succ_ne_zero, elemsC, Int.reduceToNat, Nat.reducePow, g0, g1, g5]) | (simp (disch := (first | omega | (simp only [AL, List.length_map]; omega))) only [AR, AL, ifT, ifF, take_all, List.length_cons, List.length_nil, Int.reduceToNat, Int.reducePow, Nat.reducePow, g0, g1, g5]) | (refine wk_intro (by kernel_rfl) ?_) | (refine vp_draw (l := []) (by kernel_rfl) ?_))
        refine ⟨⟨i - 1, ?_, by omega, ?_⟩, by omega⟩
        · simp only [Int.natCast_sub hi0]
        · rw [hdr _ hi, hdr _ (by omega), hc, hd]
      · have := wth_lt_of (okL_lim _) (okL_lim _) h1.symm (i := i - 1) (by omega) (by rw [show i - 1 + 1 = i by omega]; exact hd.symm) hc
        rw [wth_lim, wth_lim] at this
        have e : cmpN (wth xs) (wth ys) = 1 := by unfold cmpN; rw [if_neg (by omega), if_neg (by omega)]
        rw [e]
        repeat (first | (simp only [go_sem, Nat.reduceEqDiff, Nat.reduceAdd, Nat.reduceSub, Nat.reduceMul, Nat.reduceLeDiff, Nat.reduceLT, reduceIte, reduceCtorEq, Nat.succ_ne_zero, elemsC, Int.reduceToNat, Nat.reducePow, g0, g1, g5]) | (simp (disch := (first | omega | (simp only [AL, List.length_map]; omega))) only [AR, AL, ifT, ifF, take_all, List.length_cons, List.length_nil, Int.reduceToNat, Int.reducePow, Nat.reducePow, g0, g1, g5]) | (refine wk_intro (by kernel_rfl) ?_) | (refine vp_draw (l := []) (by kernel_rfl) ?_))
  · by_cases h2 : (lim (wth xs)).length < (lim (wth ys)).length
    · have := lim_length_lt h2
      have e : cmpN (wth xs) (wth ys) = -1 := by simp [cmpN, this]
      rw [e]
      repeat (first | (simp only [go_sem, Nat.reduceEqDiff, Nat.reduceAdd, Nat.reduceSub, Nat.reduceMul, Nat.reduceLeDiff, Nat.reduceLT, reduceIte, reduceCtorEq, Nat.succ_ne_zero, elemsC, Int.reduceToNat, Nat.reducePow]) | (simp (disch := (first | omega | (simp only [AL, List.length_map]; omega))) only [AR, AL, ifT, ifF, take_all, List.length_cons, List.length_nil, Int.reduceToNat, Int.reducePow, Nat.reducePow]) | (refine wk_intro (by kernel_rfl) ?_) | (refine vp_draw (l := []) (by kernel_rfl) ?_))
    · have := lim_length_lt (a := wth ys) (b := wth xs) (by omega)
      have e : cmpN (wth xs) (wth ys) = 1 := by unfold cmpN; rw [if_neg (by omega), if_neg (by omega)]
      rw [e]
      repeat (first | (simp only [go_sem, Nat.reduceEqDiff, Nat.reduceAdd, Nat.reduceSub, Nat.reduceMul, Nat.reduceLeDiff, Nat.reduceLT, reduceIte, reduceCtorEq, Nat.succ_ne_zero, elemsC, Int.reduceToNat, Nat.reducePow]) | (simp (disch := (first | omega | (simp only [AL, List.length_map]; omega))) only [AR, AL, ifT, ifF, take_all, List.length_cons, List.length_nil, Int.reduceToNat, Int.reducePow, Nat.reducePow]) | (refine wk_intro (by kernel_rfl) ?_) | (refine vp_draw (l := []) (by kernel_rfl) ?_))
end Go.Proofs.YtkkmnjhecjkhgaaGreatDoor
namespace Go.Proofs.YtkkmnjhecjkhgaaGreatDoor
open Go.Ev
theorem nat_Add (xs ys : List Nat) (hx : okL xs) (hy : okL ys) (hl : xs.length ≤ 1073741824) (hm : ys.length ≤ 1073741824) : Go.Ev.Fn CX 125 [natV xs, natV ys] (natV (lim (wth xs + wth ys))) := by
  refine Go.Ev.Fn.intro (fn := Tryz.f125) (body := (Tryz.f125).body.get!) (by kernel_rfl) (by kernel_rfl) (by kernel_rfl) (fun _ => rfl) (Nat.le_of_ble_eq_true (by kernel_rfl)) ?_; unfold Tryz.f125; simp only [Option.get!_some]
  have lx := lim_length_le hx
  have ly := lim_length_le hy
  repeat (first | (simp only [go_sem, Nat.reduceEqDiff, Nat.reduceAdd, Nat.reduceSub, Nat.reduceMul, Nat.reduceLeDiff, Nat.reduceLT, reduceIte, reduceCtorEq, Nat.succ_ne_zero, elemsC, Int.reduceToNat, Nat.reducePow]) | (simp (disch := (first | omega | (simp only [AL, List.length_map]; omega))) only [AR, AL, ifT, ifF, take_all, List.length_cons, List.length_nil, Int.reduceToNat, Int.reducePow, Nat.reducePow]) | (refine wk_intro (by kernel_rfl) ?_) | (refine vp_draw (l := []) (by kernel_rfl) ?_))
  refine vf_of (nat_trim xs hx (by omega)) ?_; repeat (first | (simp only [go_sem, Nat.reduceEqDiff, Nat.reduceAdd, Nat.reduceSub, Nat.reduceMul, Nat.reduceLeDiff, Nat.reduceLT, reduceIte, reduceCtorEq, Nat.succ_ne_zero, elemsC, Int.reduceToNat, Nat.reducePow]) | (simp (disch := (first | omega | (simp only [AL, List.length_map]; omega))) only [AR, AL, ifT, ifF, take_all, List.length_cons, List.length_nil, Int.reduceToNat, Int.reducePow, Nat.reducePow]) | (refine wk_intro (by kernel_rfl) ?_) | (refine vp_draw (l := []) (by kernel_rfl) ?_))
  refine vf_of (nat_trim ys hy (by omega)) ?_; repeat (first | (simp only [go_sem, Nat.reduceEqDiff, Nat.reduceAdd, Nat.reduceSub, Nat.reduceMul, Nat.reduceLeDiff, Nat.reduceLT, reduceIte, reduceCtorEq, Nat.succ_ne_zero, elemsC, Int.reduceToNat, Nat.reducePow]) | (simp (disch := (first | omega | (simp only [AL, List.length_map]; omega))) only [AR, AL, ifT, ifF, take_all, List.length_cons, List.length_nil, Int.reduceToNat, Int.reducePow, Nat.reducePow]) | (refine wk_intro (by kernel_rfl) ?_) | (refine vp_draw (l := []) (by kernel_rfl) ?_))
  refine vc_cut (Mid := fun s => ∃ a b, s.tmp 0 = .sv (natV a) ∧ s.tmp 1 = .sv (natV b) ∧ okL a ∧ okL b ∧ b.length ≤ a.length ∧ a.length ≤ 1073741824 ∧ wth a + wth b = wth xs + wth ys) ?_ ?_
  · by_cases h1 : (lim (wth xs)).length < (lim (wth ys)).length
    · repeat (first | (simp only [go_sem, Nat.reduceEqDiff, Nat.reduceAdd, Nat.reduceSub, Nat.reduceMul, Nat.reduceLeDiff, Nat.reduceLT, reduceIte, reduceCtorEq, Nat.succ_ne_zero, elemsC, Int.reduceToNat, Nat.reducePow]) | (simp (disch := (first | omega | (simp only [AL, List.length_map]; omega))) only [AR, AL, ifT, ifF, take_all, List.length_cons, List.length_nil, Int.reduceToNat, Int.reducePow, Nat.reducePow]) | (refine wk_intro (by kernel_rfl) ?_) | (refine vp_draw (l := []) (by kernel_rfl) ?_))
      exact ⟨_, _, rfl, rfl, okL_lim _, okL_lim _, by omega, by omega, by rw [wth_lim, wth_lim]; omega⟩
    · repeat (first | (simp only [go_sem, Nat.reduceEqDiff, Nat.reduceAdd, Nat.reduceSub, Nat.reduceMul, Nat.reduceLeDiff, Nat.reduceLT, reduceIte, reduceCtorEq, Nat.succ_ne_zero, elemsC, Int.reduceToNat, Nat.reducePow]) | (simp (disch := (first | omega | (simp only [AL, List.length_map]; omega))) only [AR, AL, ifT, ifF, take_all, List.length_cons, List.length_nil, Int.reduceToNat, Int.reducePow, Nat.reducePow]) | (refine wk_intro (by kernel_rfl) ?_) | (refine vp_draw (l := []) (by kernel_rfl) ?_))
      exact ⟨_, _, rfl, rfl, okL_lim _, okL_lim _, by omega, by omega, by rw [wth_lim, wth_lim]⟩
  rintro s ⟨a, b, g0, g1, ha, hb, hab, hla, hsum⟩
  repeat (first | (simp only [go_sem, Nat.reduceEqDiff, Nat.reduceAdd, Nat.reduceSub, Nat.reduceMul, Nat.reduceLeDiff, Nat.reduceLT, reduceIte, reduceCtorEq, Nat.succ_ne_zero, elemsC, Int.reduceToNat, Nat.reducePow, g0, g1]) | (simp (disch := (first | omega | (simp only [AL, List.length_map]; omega))) only [AR, AL, ifT, ifF, take_all, List.length_cons, List.length_nil, Int.reduceToNat, Int.reducePow, Nat.reducePow, g0, g1]) | (refine wk_intro (by kernel_rfl) ?_))
  generalize hg : s.gen 23 = g
  refine vp_loop_inv (fun s' => s'.tmp 0 = .sv (natV a) ∧ s'.tmp 1 = .sv (natV b) ∧ s'.tmp 5 = .ref 23 g 1 0 (a.length + 1) ∧ s'.tmp 24 = .sv (natV a) ∧ s'.tmp 25 = .sv (.int .i64 a.length) ∧
      ∃ c : List Nat, ∃ i carry : Nat, s'.obj 23 g = some (c.map limb) ∧ s'.tmp 6 = .sv (.int .u64 carry) ∧ s'.tmp 26 = .sv (.int .i64 i) ∧ c.length = a.length + 1 ∧ okL c ∧ i ≤ a.length ∧ carry ≤ 1 ∧
        wth (c.take i) + 4294967296 ^ i * carry = wth (a.take i) + wth (b.take i))
    (fun s => match s.tmp 26 with | .sv (.int _ i) => a.length - i.toNat | _ => 0) ?_ ?_
  · refine ⟨g0, g1, rfl, rfl, rfl, List.replicate (a.length + 1) 0, 0, 0, ?_, rfl, rfl, List.length_replicate .., okL_replicate _, by omega, by omega, rfl⟩
    simp [St.put, St.new, hg]
  rintro s' ⟨i0, i1, i5, i24, i25, c, i, carry, iO, i6, i26, hc, hok, hi, hcar, hw⟩
  by_cases hend : i = a.length
  · subst hend
    repeat (first | (simp only [go_sem, Nat.reduceEqDiff, Nat.reduceAdd, Nat.reduceSub, Nat.reduceMul, Nat.reduceLeDiff, Nat.reduceLT, reduceIte, reduceCtorEq, Nat.succ_ne_zero, elemsC, Int.reduceToNat, Nat.reducePow, i0, i1, i5, i24, i25, iO, i6, i26]) | (simp (disch := (first | omega | (simp only [AL, List.length_map]; omega))) only [AR, AL, ifT, ifF, take_all, List.length_cons, List.length_nil, Int.reduceToNat, Int.reducePow, Nat.reducePow, i0, i1, i5, i24, i25, iO, i6, i26]) | (refine wk_intro (by kernel_rfl) ?_) | (refine vp_draw (l := []) (by kernel_rfl) ?_))
    refine vf_of (fn_natV (nat_trim (c.set a.length carry) (okL_set hok _ _ (by omega)) (by rw [List.length_set]; omega)) (by rw [List.length_set]; omega)) ?_; repeat (first | (simp only [go_sem, Nat.reduceEqDiff, Nat.reduceAdd, Nat.reduceSub, Nat.reduceMul, Nat.reduceLeDiff, Nat.reduceLT, reduceIte, reduceCtorEq, Nat.succ_ne_zero, elemsC, Int.reduceToNat, Nat.reducePow]) | (simp (disch := (first | omega | (simp only [AL, List.length_map]; omega))) only [AR, AL, ifT, ifF, take_all, List.length_cons, List.length_nil, Int.reduceToNat, Int.reducePow, Nat.reducePow]) | (refine wk_intro (by kernel_rfl) ?_) | (refine vp_draw (l := []) (by kernel_rfl) ?_))
    have e : wth (c.set a.length carry) = wth xs + wth ys := by
      rw [← List.take_of_length_le (l := c.set a.length carry) (i := a.length + 1) (by rw [List.length_set]; omega), wth_set_take (by omega), hw, List.take_of_length_le (Nat.le_refl _), List.take_of_length_le hab, hsum]
    rw [e]
  · have h1 := getD_lt ha i
    have h2 := getD_lt hb i
    have key : ∀ x : Nat, x = carry + a.getD i 0 + b.getD i 0 → wth ((c.set i (x % 4294967296)).take (i + 1)) + 4294967296 ^ (i + 1) * (x / 4294967296) = wth (a.take (i + 1)) + wth (b.take (i + 1)) := by
      intro x hx
      rw [wth_set_take (by omega), wth_take_succ, wth_take_succ]
      have e1 : 4294967296 ^ i * (x % 4294967296) + 4294967296 ^ (i + 1) * (x / 4294967296) = 4294967296 ^ i * x := by
        rw [Nat.pow_succ, Nat.mul_assoc, ← Nat.mul_add, Nat.mod_add_div]
      have e2 : 4294967296 ^ i * x = 4294967296 ^ i * carry + 4294967296 ^ i * a.getD i 0 + 4294967296 ^ i * b.getD i 0 := by
        rw [hx, Nat.mul_add, Nat.mul_add]
      omega
    by_cases hib : i < b.length
    · repeat (first | (simp only [go_sem, Nat.reduceEqDiff, Nat.reduceAdd, Nat.reduceSub, Nat.reduceMul, Nat.reduceLeDiff, Nat.reduceLT, reduceIte, reduceCtorEq, Nat.succ_ne_zero, elemsC, Int.reduceToNat, Nat.reducePow, i0, i1, i5, i24, i25, iO, i6, i26]) | (simp (disch := (first | omega | (simp only [AL, List.length_map]; omega))) only [AR, AL, ifT, ifF, take_all, List.length_cons, List.length_nil, Int.reduceToNat, Int.reducePow, Nat.reducePow, i0, i1, i5, i24, i25, iO, i6, i26]) | (refine wk_intro (by kernel_rfl) ?_) | (refine vp_draw (l := []) (by kernel_rfl) ?_))
      exact ⟨⟨c.set i ((carry + a.getD i 0 + b.getD i 0) % 4294967296), i + 1, (carry + a.getD i 0 + b.getD i 0) / 4294967296, rfl, rfl, rfl, by rw [List.length_set]; exact hc, okL_set hok _ _ (by omega), by omega, by omega, key _ rfl⟩, by omega⟩
    · have e0 : b.getD i 0 = 0 := by rw [List.getD_eq_getElem?_getD, List.getElem?_eq_none (by omega)]; rfl
      repeat (first | (simp only [go_sem, Nat.reduceEqDiff, Nat.reduceAdd, Nat.reduceSub, Nat.reduceMul, Nat.reduceLeDiff, Nat.reduceLT, reduceIte, reduceCtorEq, Nat.succ_ne_zero, elemsC, Int.reduceToNat, Nat.reducePow, i0, i1, i5, i24, i25, iO, i6, i26]) | (simp (disch := (first | omega | (simp only [AL, List.length_map]; omega))) only [AR, AL, ifT, ifF, take_all, List.length_cons, List.length_nil, Int.reduceToNat, Int.reducePow, Nat.reducePow, i0, i1, i5, i24, i25, iO, i6, i26]) | (refine wk_intro (by kernel_rfl) ?_) | (refine vp_draw (l := []) (by kernel_rfl) ?_))
      exact ⟨⟨c.set i ((carry + a.getD i 0) % 4294967296), i + 1, (carry + a.getD i 0) / 4294967296, rfl, rfl, rfl, by rw [List.length_set]; exact hc, okL_set hok _ _ (by omega), by omega, by omega, key _ (by omega)⟩, by omega⟩
end Go.Proofs.YtkkmnjhecjkhgaaGreatDoor
namespace Go.Proofs.YtkkmnjhecjkhgaaGreatDoor
open Go.Ev
theorem bits_Add32 (x y c : Nat) (hx : x < 4294967296) (hy : y < 4294967296) (hc : c < 4294967296) :
    Go.Ev.Fn CX 181 [limb x, limb y, limb c] (.tup [limb ((x + y + c) % 4294967296), limb ((x + y + c) / 4294967296)]) := by
  refine Go.Ev.Fn.intro (fn := Tryz.f181) (body := (Tryz.f181).body.get!) (by kernel_rfl) (by kernel_rfl) (by kernel_rfl) (fun _ => rfl) (Nat.le_of_ble_eq_true (by kernel_rfl)) ?_; unfold Tryz.f181; simp only [Option.get!_some]
  repeat (first | (simp only [go_sem, Nat.reduceEqDiff, Nat.reduceAdd, Nat.reduceSub, Nat.reduceMul, Nat.reduceLeDiff, Nat.reduceLT, reduceIte, reduceCtorEq, Nat.succ_ne_zero, elemsC, Int.reduceToNat, Nat.reducePow]) | (simp (disch := (first | omega | (simp only [AL, List.length_map]; omega))) only [AR, AL, ifT, ifF, take_all, List.length_cons, List.length_nil, Int.reduceToNat, Int.reducePow, Nat.reducePow]) | (refine wk_intro (by kernel_rfl) ?_) | (refine vp_draw (l := []) (by kernel_rfl) ?_))
theorem bits_Sub32 (x y b : Nat) (hx : x < 4294967296) (hy : y < 4294967296) (hb : b ≤ 1) :
    Go.Ev.Fn CX 180 [limb x, limb y, limb b] (.tup [limb (((x + (4294967296 - y)) % 4294967296 + (4294967296 - b)) % 4294967296), limb (if x < y + b then 1 else 0)]) := by
  refine Go.Ev.Fn.intro (fn := Tryz.f180) (body := (Tryz.f180).body.get!) (by kernel_rfl) (by kernel_rfl) (by kernel_rfl) (fun _ => rfl) (Nat.le_of_ble_eq_true (by kernel_rfl)) ?_; unfold Tryz.f180; simp only [Option.get!_some]
  have hd : ∃ d, d = ((x + (4294967296 - y)) % 4294967296 + (4294967296 - b)) % 4294967296 := ⟨_, rfl⟩
  obtain ⟨d, hd⟩ := hd
  rw [← hd, ← sub32_bit hx hy hb hd]
  have hd' : d < 4294967296 := by omega
  have h0 : 4294967295 ^^^ x < 4294967296 := Nat.xor_lt_two_pow (n := 32) (by decide) hx
  have h1 : (4294967295 ^^^ x) &&& y < 4294967296 := Nat.lt_of_le_of_lt Nat.and_le_right hy
  have h2 : x ^^^ y < 4294967296 := Nat.xor_lt_two_pow (n := 32) hx hy
  have h3 : 4294967295 ^^^ (x ^^^ y) < 4294967296 := Nat.xor_lt_two_pow (n := 32) (by decide) h2
  have h4 : (4294967295 ^^^ (x ^^^ y)) &&& d < 4294967296 := Nat.lt_of_le_of_lt Nat.and_le_right hd'
  repeat (first | (simp only [go_sem, Nat.reduceEqDiff, Nat.reduceAdd, Nat.reduceSub, Nat.reduceMul, Nat.reduceLeDiff, Nat.reduceLT, reduceIte, reduceCtorEq, Nat.succ_ne_zero, elemsC, Int.reduceToNat, Nat.reducePow, u32_sub, ← hd]) | (simp (disch := (first | omega | (simp only [AL, List.length_map]; omega))) only [AR, AL, ifT, ifF, take_all, List.length_cons, List.length_nil, Int.reduceToNat, Int.reducePow, Nat.reducePow, u32_sub, ← hd]) | (refine wk_intro (by kernel_rfl) ?_) | (refine vp_draw (l := []) (by kernel_rfl) ?_))
theorem bits_Div32 (hi lo y : Nat) (h : hi < y) (hy : y < 4294967296) (hlo : lo < 4294967296) :
    Go.Ev.Fn CX 143 [limb hi, limb lo, limb y] (.tup [limb ((hi * 4294967296 + lo) / y), limb ((hi * 4294967296 + lo) % y)]) := by
  refine Go.Ev.Fn.intro (fn := Tryz.f143) (body := (Tryz.f143).body.get!) (by kernel_rfl) (by kernel_rfl) (by kernel_rfl) (fun _ => rfl) (Nat.le_of_ble_eq_true (by kernel_rfl)) ?_; unfold Tryz.f143; simp only [Option.get!_some]
  have hq : (hi * 4294967296 + lo) / y < 4294967296 := by
    rw [Nat.div_lt_iff_lt_mul (by omega)]
    have : (hi + 1) * 4294967296 ≤ y * 4294967296 := Nat.mul_le_mul_right _ h
    omega
  have hr : (hi * 4294967296 + lo) % y < 4294967296 := Nat.lt_trans (Nat.mod_lt _ (by omega)) hy
  have hX : ∃ X, hi * 4294967296 + lo = X := ⟨_, rfl⟩
  obtain ⟨X, hX⟩ := hX
  rw [hX] at hq hr ⊢
  generalize hQ : X / y = Q at *
  generalize hR : X % y = R at *
  repeat (first | (simp only [go_sem, Nat.reduceEqDiff, Nat.reduceAdd, Nat.reduceSub, Nat.reduceMul, Nat.reduceLeDiff, Nat.reduceLT, reduceIte, reduceCtorEq, Nat.succ_ne_zero, elemsC, Int.reduceToNat, Nat.reducePow, hX, hQ, hR]) | (simp (disch := (first | omega | (simp only [AL, List.length_map]; omega))) only [AR, AL, ifT, ifF, take_all, List.length_cons, List.length_nil, Int.reduceToNat, Int.reducePow, Nat.reducePow, hX, hQ, hR]) | (refine wk_intro (by kernel_rfl) ?_) | (refine vp_draw (l := []) (by kernel_rfl) ?_))
end Go.Proofs.YtkkmnjhecjkhgaaGreatDoor
namespace Go.Proofs.YtkkmnjhecjkhgaaGreatDoor
open Go.Ev
end Go.Proofs.YtkkmnjhecjkhgaaGreatDoor
namespace Go.Proofs.YtkkmnjhecjkhgaaGreatDoor
open Go.Ev
theorem getD_set_ne {xs : List Nat} {i j v : Nat} (h : j ≠ i) : (xs.set i v).getD j 0 = xs.getD j 0 := by
  rw [List.getD_eq_getElem?_getD, List.getD_eq_getElem?_getD, List.getElem?_set_ne (fun e => h e.symm)]
theorem limb_mul {v w : Nat} (hv : v < 4294967296) (hw : w < 4294967296) : v * w ≤ 18446744065119617025 :=
  Nat.le_trans (Nat.mul_le_mul (show v ≤ 4294967295 by omega) (show w ≤ 4294967295 by omega)) (by decide)
theorem nat_Mul (xs ys : List Nat) (hx : okL xs) (hy : okL ys) (hl : xs.length ≤ 1073741824) (hm : ys.length ≤ 1073741824) :
    Go.Ev.Fn CX 93 [natV xs, natV ys] (natV (lim (wth xs * wth ys))) := by
  refine Go.Ev.Fn.intro (fn := Tryz.f93) (body := (Tryz.f93).body.get!) (by kernel_rfl) (by kernel_rfl) (by kernel_rfl) (fun _ => rfl) (Nat.le_of_ble_eq_true (by kernel_rfl)) ?_; unfold Tryz.f93; simp only [Option.get!_some]
  have lx := lim_length_le hx
  have ly := lim_length_le hy
  repeat (first | (simp only [go_sem, Nat.reduceEqDiff, Nat.reduceAdd, Nat.reduceSub, Nat.reduceMul, Nat.reduceLeDiff, Nat.reduceLT, reduceIte, reduceCtorEq, Nat.succ_ne_zero, elemsC, Int.reduceToNat, Nat.reducePow]) | (simp (disch := (first | omega | (simp only [AL, List.length_map]; omega))) only [AR, AL, ifT, ifF, take_all, List.length_cons, List.length_nil, Int.reduceToNat, Int.reducePow, Nat.reducePow]) | (refine wk_intro (by kernel_rfl) ?_) | (refine vp_draw (l := []) (by kernel_rfl) ?_))
  refine vf_of (nat_trim xs hx (by omega)) ?_; repeat (first | (simp only [go_sem, Nat.reduceEqDiff, Nat.reduceAdd, Nat.reduceSub, Nat.reduceMul, Nat.reduceLeDiff, Nat.reduceLT, reduceIte, reduceCtorEq, Nat.succ_ne_zero, elemsC, Int.reduceToNat, Nat.reducePow]) | (simp (disch := (first | omega | (simp only [AL, List.length_map]; omega))) only [AR, AL, ifT, ifF, take_all, List.length_cons, List.length_nil, Int.reduceToNat, Int.reducePow, Nat.reducePow]) | (refine wk_intro (by kernel_rfl) ?_) | (refine vp_draw (l := []) (by kernel_rfl) ?_))
  refine vf_of (nat_trim ys hy (by omega)) ?_; repeat (first | (simp only [go_sem, Nat.reduceEqDiff, Nat.reduceAdd, Nat.reduceSub, Nat.reduceMul, Nat.reduceLeDiff, Nat.reduceLT, reduceIte, reduceCtorEq, Nat.succ_ne_zero, elemsC, Int.reduceToNat, Nat.reducePow]) | (simp (disch := (first | omega | (simp only [AL, List.length_map]; omega))) only [AR, AL, ifT, ifF, take_all, List.length_cons, List.length_nil, Int.reduceToNat, Int.reducePow, Nat.reducePow]) | (refine wk_intro (by kernel_rfl) ?_) | (refine vp_draw (l := []) (by kernel_rfl) ?_))
  have ha := okL_lim (wth xs)
  have hb := okL_lim (wth ys)
  have va := wth_lim (wth xs)
  have vb := wth_lim (wth ys)
  generalize lim (wth xs) = a at *
  generalize lim (wth ys) = b at *
  refine vp_loop_inv (fun s' => s'.tmp 0 = .sv (natV a) ∧ s'.tmp 1 = .sv (natV b) ∧ s'.tmp 5 = .ref 20 0 1 0 (a.length + b.length) ∧ s'.tmp 21 = .sv (natV a) ∧ s'.tmp 22 = .sv (.int .i64 a.length) ∧
      ∃ c : List Nat, ∃ i : Nat, s'.obj 20 0 = some (c.map limb) ∧ s'.tmp 23 = .sv (.int .i64 i) ∧ c.length = a.length + b.length ∧ okL c ∧ i ≤ a.length ∧
        wth (c.take (i + b.length)) = wth (a.take i) * wth b)
    (fun s => match s.tmp 23 with | .sv (.int _ i) => a.length - i.toNat | _ => 0) ?_ ?_
  · refine ⟨rfl, rfl, rfl, rfl, rfl, List.replicate (a.length + b.length) 0, 0, rfl, rfl, List.length_replicate .., okL_replicate _, by omega, ?_⟩
    rw [List.take_replicate, wth_replicate]; simp [wth]
  rintro s' ⟨i0, i1, i5, i21, i22, c0, i, iO, i23, hc0, hok0, hi, hv⟩
  by_cases hend : i = a.length
  · subst hend
    repeat (first | (simp only [go_sem, Nat.reduceEqDiff, Nat.reduceAdd, Nat.reduceSub, Nat.reduceMul, Nat.reduceLeDiff, Nat.reduceLT, reduceIte, reduceCtorEq, Nat.succ_ne_zero, elemsC, Int.reduceToNat, Nat.reducePow, i0, i1, i5, i21, i22, iO, i23]) | (simp (disch := (first | omega | (simp only [AL, List.length_map]; omega))) only [AR, AL, ifT, ifF, take_all, List.length_cons, List.length_nil, Int.reduceToNat, Int.reducePow, Nat.reducePow, i0, i1, i5, i21, i22, iO, i23]) | (refine wk_intro (by kernel_rfl) ?_) | (refine vp_draw (l := []) (by kernel_rfl) ?_))
    refine vf_of (fn_natV (nat_trim c0 hok0 (by omega)) hc0) ?_; repeat (first | (simp only [go_sem, Nat.reduceEqDiff, Nat.reduceAdd, Nat.reduceSub, Nat.reduceMul, Nat.reduceLeDiff, Nat.reduceLT, reduceIte, reduceCtorEq, Nat.succ_ne_zero, elemsC, Int.reduceToNat, Nat.reducePow]) | (simp (disch := (first | omega | (simp only [AL, List.length_map]; omega))) only [AR, AL, ifT, ifF, take_all, List.length_cons, List.length_nil, Int.reduceToNat, Int.reducePow, Nat.reducePow]) | (refine wk_intro (by kernel_rfl) ?_) | (refine vp_draw (l := []) (by kernel_rfl) ?_))
    have e : wth c0 = wth xs * wth ys := by
      rw [List.take_of_length_le (by omega), List.take_of_length_le (Nat.le_refl _), va, vb] at hv
      exact hv
    rw [e]
  · have h1 := getD_lt ha i
    repeat (first | (simp only [go_sem, Nat.reduceEqDiff, Nat.reduceAdd, Nat.reduceSub, Nat.reduceMul, Nat.reduceLeDiff, Nat.reduceLT, reduceIte, reduceCtorEq, Nat.succ_ne_zero, elemsC, Int.reduceToNat, Nat.reducePow, i0, i1, i5, i21, i22, iO, i23]) | (simp (disch := (first | omega | (simp only [AL, List.length_map]; omega))) only [AR, AL, ifT, ifF, take_all, List.length_cons, List.length_nil, Int.reduceToNat, Int.reducePow, Nat.reducePow, i0, i1, i5, i21, i22, iO, i23]) | (refine wk_intro (by kernel_rfl) ?_) | (refine vp_draw (l := []) (by kernel_rfl) ?_))
    generalize hvv : a.getD i 0 = v at *
    refine vp_loop_inv (fun s' => s'.tmp 0 = .sv (natV a) ∧ s'.tmp 1 = .sv (natV b) ∧ s'.tmp 5 = .ref 20 0 1 0 (a.length + b.length) ∧ s'.tmp 21 = .sv (natV a) ∧ s'.tmp 22 = .sv (.int .i64 a.length) ∧ s'.tmp 23 = .sv (.int .i64 i) ∧
        s'.tmp 6 = .sv (.int .i64 i) ∧ s'.tmp 7 = .sv (.int .u32 v) ∧ s'.tmp 28 = .sv (natV b) ∧ s'.tmp 29 = .sv (.int .i64 b.length) ∧
        ∃ c : List Nat, ∃ k carry : Nat, s'.obj 20 0 = some (c.map limb) ∧ s'.tmp 30 = .sv (.int .i64 k) ∧ s'.tmp 8 = .sv (.int .u64 carry) ∧ c.length = a.length + b.length ∧ okL c ∧ k ≤ b.length ∧ carry < 4294967296 ∧
          (∀ j, i + k ≤ j → c.getD j 0 = c0.getD j 0) ∧ wth (c.take (i + k)) + 4294967296 ^ (i + k) * carry = wth (c0.take (i + k)) + 4294967296 ^ i * (v * wth (b.take k)))
      (fun s => match s.tmp 30 with | .sv (.int _ i) => b.length - i.toNat | _ => 0) ?_ ?_
    · refine ⟨i0, i1, i5, i21, i22, i23, rfl, rfl, rfl, rfl, c0, 0, 0, iO, rfl, rfl, hc0, hok0, by omega, by omega, fun _ _ => rfl, ?_⟩
      simp [wth]
    rintro s2 ⟨j0, j1, j5, j21, j22, j23, j6, j7, j28, j29, c, k, carry, jO, j30, j8, hc, hok, hk, hcar, hsame, hw⟩
    by_cases hend2 : k = b.length
    · subst hend2
      repeat (first | (simp only [go_sem, Nat.reduceEqDiff, Nat.reduceAdd, Nat.reduceSub, Nat.reduceMul, Nat.reduceLeDiff, Nat.reduceLT, reduceIte, reduceCtorEq, Nat.succ_ne_zero, elemsC, Int.reduceToNat, Nat.reducePow, j0, j1, j5, j21, j22, j23, j6, j7, j28, j29, jO, j30, j8]) | (simp (disch := (first | omega | (simp only [AL, List.length_map]; omega))) only [AR, AL, ifT, ifF, take_all, List.length_cons, List.length_nil, Int.reduceToNat, Int.reducePow, Nat.reducePow, j0, j1, j5, j21, j22, j23, j6, j7, j28, j29, jO, j30, j8]) | (refine wk_intro (by kernel_rfl) ?_) | (refine vp_draw (l := []) (by kernel_rfl) ?_))
      refine ⟨⟨c.set (i + b.length) carry, i + 1, rfl, rfl, by rw [List.length_set]; exact hc, okL_set hok _ _ hcar, by omega, ?_⟩, by omega⟩
      rw [show i + 1 + b.length = i + b.length + 1 by omega, wth_set_take (by omega), hw, hv, wth_take_succ, hvv, List.take_of_length_le (Nat.le_refl _)]
      rw [Nat.add_mul, Nat.mul_assoc]
    · have h2 := getD_lt hb k
      have h3 := getD_lt hok (i + k)
      have h4 := limb_mul h1 h2
      have hs := hsame (i + k) (Nat.le_refl _)
      generalize hww : b.getD k 0 = w at *
      generalize hu : c.getD (i + k) 0 = u at *
      generalize hp : v * w = p at *
      repeat (first | (simp only [go_sem, Nat.reduceEqDiff, Nat.reduceAdd, Nat.reduceSub, Nat.reduceMul, Nat.reduceLeDiff, Nat.reduceLT, reduceIte, reduceCtorEq, Nat.succ_ne_zero, elemsC, Int.reduceToNat, Nat.reducePow, j0, j1, j5, j21, j22, j23, j6, j7, j28, j29, jO, j30, j8, hww, hu, hp]) | (simp (disch := (first | omega | (simp only [AL, List.length_map]; omega))) only [AR, AL, ifT, ifF, take_all, List.length_cons, List.length_nil, Int.reduceToNat, Int.reducePow, Nat.reducePow, j0, j1, j5, j21, j22, j23, j6, j7, j28, j29, jO, j30, j8, hww, hu, hp]) | (refine wk_intro (by kernel_rfl) ?_) | (refine vp_draw (l := []) (by kernel_rfl) ?_))
      refine ⟨⟨c.set (i + k) ((carry + (p + u)) % 4294967296), k + 1, (carry + (p + u)) / 4294967296, rfl, rfl, rfl, by rw [List.length_set]; exact hc, okL_set hok _ _ (by omega), by omega, by omega, fun j hj => (getD_set_ne (by omega)).trans (hsame j (by omega)), ?_⟩, by omega⟩
      rw [show i + (k + 1) = i + k + 1 by omega, wth_set_take (by omega), wth_take_succ c0, ← hs, wth_take_succ b, hww]
      generalize hx : carry + (p + u) = x
      have e1 : 4294967296 ^ (i + k) * (x % 4294967296) + 4294967296 ^ (i + k + 1) * (x / 4294967296) = 4294967296 ^ (i + k) * x := by
        rw [Nat.pow_succ, Nat.mul_assoc, ← Nat.mul_add, Nat.mod_add_div]
      have e2 : 4294967296 ^ (i + k) * x = 4294967296 ^ (i + k) * carry + (4294967296 ^ (i + k) * p + 4294967296 ^ (i + k) * u) := by
        rw [← hx, Nat.mul_add, Nat.mul_add]
      have e3 : 4294967296 ^ i * (v * (wth (b.take k) + 4294967296 ^ k * w)) = 4294967296 ^ i * (v * wth (b.take k)) + 4294967296 ^ (i + k) * p := by
        rw [Nat.mul_add, Nat.mul_add, ← hp, Nat.pow_add, Nat.mul_left_comm v, ← Nat.mul_assoc (4294967296 ^ i) (4294967296 ^ k)]
      rw [e3]
      omega
end Go.Proofs.YtkkmnjhecjkhgaaGreatDoor
namespace Go.Proofs.YtkkmnjhecjkhgaaGreatDoor
open Go.Ev
theorem wth_drop {xs : List Nat} {i : Nat} (h : i < xs.length) : wth (xs.drop i) = xs.getD i 0 + 4294967296 * wth (xs.drop (i + 1)) := by
  rw [List.drop_eq_getElem_cons h, wth_cons, List.getD_eq_getElem?_getD, List.getElem?_eq_getElem h]
  rfl
theorem wth_set_drop {xs : List Nat} {i : Nat} (h : i < xs.length) (v : Nat) : wth ((xs.set i v).drop i) = v + 4294967296 * wth (xs.drop (i + 1)) := by
  rw [wth_drop (by rw [List.length_set]; exact h), List.drop_set_of_lt (by omega)]
  simp [List.getD_eq_getElem?_getD, h]
theorem nat_small (xs : List Nat) (b : Nat) (hx : okL xs) (hl : xs.length ≤ 1073741824) (hb0 : 0 < b) (hb : b < 4294967296) :
    Go.Ev.Fn CX 118 [natV xs, limb b] (.tup [natV (lim (wth xs / b)), limb (wth xs % b)]) := by
  refine Go.Ev.Fn.intro (fn := Tryz.f118) (body := (Tryz.f118).body.get!) (by kernel_rfl) (by kernel_rfl) (by kernel_rfl) (fun _ => rfl) (Nat.le_of_ble_eq_true (by kernel_rfl)) ?_; unfold Tryz.f118; simp only [Option.get!_some]
  repeat (first | (simp only [go_sem, Nat.reduceEqDiff, Nat.reduceAdd, Nat.reduceSub, Nat.reduceMul, Nat.reduceLeDiff, Nat.reduceLT, reduceIte, reduceCtorEq, Nat.succ_ne_zero, elemsC, Int.reduceToNat, Nat.reducePow]) | (simp (disch := (first | omega | (simp only [AL, List.length_map]; omega))) only [AR, AL, ifT, ifF, take_all, List.length_cons, List.length_nil, Int.reduceToNat, Int.reducePow, Nat.reducePow]) | (refine wk_intro (by kernel_rfl) ?_))
  refine vp_loop_inv (fun s' => s'.tmp 0 = .sv (natV xs) ∧ s'.tmp 1 = .sv (limb b) ∧ s'.tmp 6 = .ref 11 0 1 0 xs.length ∧
      ∃ q : List Nat, ∃ i rest : Nat, s'.obj 11 0 = some (q.map limb) ∧ s'.tmp 8 = .sv (.int .i64 ((i : Int) - 1)) ∧ s'.tmp 7 = .sv (limb rest) ∧ q.length = xs.length ∧ okL q ∧ i ≤ xs.length ∧ rest < b ∧
        wth (xs.drop i) = b * wth (q.drop i) + rest)
    (fun s => match s.tmp 8 with | .sv (.int _ i) => (i + 1).toNat | _ => 0) ?_ ?_
  · refine ⟨rfl, rfl, rfl, List.replicate xs.length 0, xs.length, 0, rfl, rfl, rfl, List.length_replicate .., okL_replicate _, by omega, hb0, ?_⟩
    rw [List.drop_length, List.drop_of_length_le (by simp)]
    simp [wth]
  rintro s' ⟨i0, i1, i6, q, i, rest, iO, i8, i7, hq, hok, hi, hrest, hv⟩
  rcases Nat.eq_zero_or_pos i with rfl | hi0
  · repeat (first | (simp only [go_sem, Nat.reduceEqDiff, Nat.reduceAdd, Nat.reduceSub, Nat.reduceMul, Nat.reduceLeDiff, Nat.reduceLT, reduceIte, reduceCtorEq, Nat.succ_ne_zero, elemsC, Int.reduceToNat, Nat.reducePow, i0, i1, i6, iO, i8, i7]) | (simp (disch := (first | omega | (simp only [AL, List.length_map]; omega))) only [AR, AL, ifT, ifF, take_all, List.length_cons, List.length_nil, Int.reduceToNat, Int.reducePow, Nat.reducePow, i0, i1, i6, iO, i8, i7]) | (refine wk_intro (by kernel_rfl) ?_) | (refine vp_draw (l := []) (by kernel_rfl) ?_))
    rw [List.drop_zero, List.drop_zero] at hv
    have e1 : wth xs / b = wth q := by
      rw [hv, Nat.mul_add_div hb0, Nat.div_eq_of_lt hrest, Nat.add_zero]
    have e2 : wth xs % b = rest := by
      rw [hv, Nat.mul_add_mod, Nat.mod_eq_of_lt hrest]
    refine vf_of (fn_natV (nat_trim q hok (by omega)) hq) ?_; repeat (first | (simp only [go_sem, Nat.reduceEqDiff, Nat.reduceAdd, Nat.reduceSub, Nat.reduceMul, Nat.reduceLeDiff, Nat.reduceLT, reduceIte, reduceCtorEq, Nat.succ_ne_zero, elemsC, Int.reduceToNat, Nat.reducePow, i0, i1, i6, iO, i8, i7]) | (simp (disch := (first | omega | (simp only [AL, List.length_map]; omega))) only [AR, AL, ifT, ifF, take_all, List.length_cons, List.length_nil, Int.reduceToNat, Int.reducePow, Nat.reducePow, i0, i1, i6, iO, i8, i7]) | (refine wk_intro (by kernel_rfl) ?_) | (refine vp_draw (l := []) (by kernel_rfl) ?_))
    rw [e1, e2]
    exact ⟨rfl, rfl⟩
  · have h1 := getD_lt hx (i - 1)
    have h5 : (((i - 1 : Nat) : Int)) = (i : Int) - 1 := by omega
    repeat (first | (simp only [go_sem, Nat.reduceEqDiff, Nat.reduceAdd, Nat.reduceSub, Nat.reduceMul, Nat.reduceLeDiff, Nat.reduceLT, reduceIte, reduceCtorEq, Nat.succ_ne_zero, elemsC, Int.reduceToNat, Nat.reducePow, i0, i1, i6, iO, i8, i7]) | (simp (disch := (first | omega | (simp only [AL, List.length_map]; omega))) only [AR, AL, ifT, ifF, take_all, List.length_cons, List.length_nil, Int.reduceToNat, Int.reducePow, Nat.reducePow, i0, i1, i6, iO, i8, i7]) | (refine wk_intro (by kernel_rfl) ?_) | (refine vp_draw (l := []) (by kernel_rfl) ?_))
    have hq0 : (rest * 4294967296 + xs.getD (i - 1) 0) / b < 4294967296 := by
      rw [Nat.div_lt_iff_lt_mul hb0]
      have : (rest + 1) * 4294967296 ≤ b * 4294967296 := Nat.mul_le_mul_right _ hrest
      omega
    have hr0 := Nat.mod_lt (rest * 4294967296 + xs.getD (i - 1) 0) hb0
    refine vf_of (bits_Div32 rest (xs.getD (i - 1) 0) b hrest hb h1) ?_; repeat (first | (simp only [go_sem, Nat.reduceEqDiff, Nat.reduceAdd, Nat.reduceSub, Nat.reduceMul, Nat.reduceLeDiff, Nat.reduceLT, reduceIte, reduceCtorEq, Nat.succ_ne_zero, elemsC, Int.reduceToNat, Nat.reducePow, i0, i1, i6, iO, i8, i7]) | (simp (disch := (first | omega | (simp only [AL, List.length_map]; omega))) only [AR, AL, ifT, ifF, take_all, List.length_cons, List.length_nil, Int.reduceToNat, Int.reducePow, Nat.reducePow, i0, i1, i6, iO, i8, i7]) | (refine wk_intro (by kernel_rfl) ?_) | (refine vp_draw (l := []) (by kernel_rfl) ?_))
    refine ⟨⟨q.set (i - 1) ((rest * 4294967296 + xs.getD (i - 1) 0) / b), i - 1, (rest * 4294967296 + xs.getD (i - 1) 0) % b, rfl, rfl, rfl, by rw [List.length_set]; exact hq, okL_set hok _ _ hq0, by omega, hr0, ?_⟩, by omega⟩
    rw [wth_set_drop (by omega), wth_drop (by omega), show i - 1 + 1 = i by omega, hv]
    have e1 := Nat.div_add_mod (rest * 4294967296 + xs.getD (i - 1) 0) b
    generalize (rest * 4294967296 + xs.getD (i - 1) 0) / b = Q at *
    generalize (rest * 4294967296 + xs.getD (i - 1) 0) % b = R at *
    rw [Nat.mul_add b, ← Nat.mul_assoc b, Nat.mul_comm b 4294967296, Nat.mul_assoc]
    omega
end Go.Proofs.YtkkmnjhecjkhgaaGreatDoor
namespace Go.Proofs.YtkkmnjhecjkhgaaGreatDoor
open Go.Ev
def guessN (u v : Nat) : Nat := min 4294967295 (u / v)
theorem guess_le (u v : Nat) : guessN u v ≤ 4294967295 := Nat.min_le_left _ _
theorem guess_ge {u v q : Nat} (hv : 0 < v) (hq : q ≤ 4294967295) (h : q * v ≤ u) : q ≤ guessN u v :=
  Nat.le_min.2 ⟨hq, (Nat.le_div_iff_mul_le hv).2 h⟩
theorem guess_lt {u v q : Nat} (hv : 0 < v) (h : u < q * v) : guessN u v ≤ q - 1 :=
  Nat.le_trans (Nat.min_le_right _ _) (Nat.le_sub_one_of_lt ((Nat.div_lt_iff_lt_mul hv).2 h))
theorem guess_parts {q r b1 b2 X low U V : Nat} (hU : X * 4294967296 + low = U) (hV : b1 * 4294967296 + b2 = V) (e : q * b1 + r = X) :
    q * V + (r * 4294967296 + low) = U + q * b2 := by
  subst hU hV e
  rw [Nat.mul_add, Nat.add_mul, ← Nat.mul_assoc]
  generalize q * b1 = a
  generalize q * b2 = b
  omega
theorem guess_first {b1 b2 X low U V Q R : Nat} (hU : X * 4294967296 + low = U) (hV : b1 * 4294967296 + b2 = V) (hlo : low < 4294967296) (hV0 : 0 < V) (hQR : b1 * Q + R = X) (hR : R < b1) : guessN U V ≤ Q := by
  refine guess_lt (q := Q + 1) hV0 ?_
  have e := guess_parts (q := Q) (r := R) hU hV (by rw [Nat.mul_comm]; exact hQR)
  rw [Nat.add_mul]
  generalize Q * V = a at *
  generalize Q * b2 = b at *
  generalize b1 * Q = c at *
  omega
theorem guess_step {q r b1 X : Nat} (e : q * b1 + r = X) (h : 1 ≤ q) : (q - 1) * b1 + (r + b1) = X := by
  obtain ⟨q', rfl⟩ : ∃ q', q = q' + 1 := ⟨q - 1, by omega⟩
  rw [Nat.add_sub_cancel]
  rw [Nat.add_mul, Nat.one_mul] at e
  omega
theorem guess_end {q r b1 b2 X low U V : Nat} (hU : X * 4294967296 + low = U) (hV : b1 * 4294967296 + b2 = V) (hV0 : 0 < V) (hb2 : b2 < 4294967296) (e : q * b1 + r = X) (hq : q ≤ 4294967295)
    (h : 4294967296 ≤ r ∨ q * b2 ≤ r * 4294967296 + low) : q ≤ guessN U V := by
  refine guess_ge hV0 hq ?_
  have e1 := guess_parts hU hV e
  have h6 : q * b2 ≤ 18446744065119617025 := limb_mul (by omega) hb2
  generalize q * V = a at *
  generalize q * b2 = b at *
  omega
theorem guess_more {q r b1 b2 X low U V : Nat} (hU : X * 4294967296 + low = U) (hV : b1 * 4294967296 + b2 = V) (hV0 : 0 < V) (e : q * b1 + r = X)
    (h : r * 4294967296 + low < q * b2) : guessN U V ≤ q - 1 := by
  refine guess_lt hV0 ?_
  have e1 := guess_parts hU hV e
  generalize q * V = a at *
  generalize q * b2 = b at *
  omega
theorem guess_small {q r b1 X high mid : Nat} (hX : high * 4294967296 + mid = X) (h1 : high ≤ b1) (hm : mid < 4294967296) (e : q * b1 + r = X) (hr : 4294967296 ≤ r) : q ≤ 4294967295 := by
  rcases Nat.lt_or_ge 4294967295 q with h3 | h3
  · have h4 : 4294967296 * b1 ≤ q * b1 := Nat.mul_le_mul_right _ h3
    generalize q * b1 = a at *
    omega
  · exact h3
theorem guess_fn (high mid low b1 b2 : Nat) (h1 : high ≤ b1) (hb : b1 < 4294967296) (hb' : 2147483648 ≤ b1) (hm : mid < 4294967296) (hlo : low < 4294967296) (hb2 : b2 < 4294967296) :
    Go.Ev.Fn CX 171 [limb high, limb mid, limb low, limb b1, limb b2] (.int .u64 (guessN ((high * 4294967296 + mid) * 4294967296 + low) (b1 * 4294967296 + b2))) := by
  refine Go.Ev.Fn.intro (fn := Tryz.f171) (body := (Tryz.f171).body.get!) (by kernel_rfl) (by kernel_rfl) (by kernel_rfl) (fun _ => rfl) (Nat.le_of_ble_eq_true (by kernel_rfl)) ?_; unfold Tryz.f171; simp only [Option.get!_some]
  have hX : ∃ X, high * 4294967296 + mid = X := ⟨_, rfl⟩
  obtain ⟨X, hX⟩ := hX
  have hX1 : X < 18446744073709551616 := by omega
  rw [hX]
  have hU : ∃ U, X * 4294967296 + low = U := ⟨_, rfl⟩
  obtain ⟨U, hU⟩ := hU
  have hV : ∃ V, b1 * 4294967296 + b2 = V := ⟨_, rfl⟩
  obtain ⟨V, hV⟩ := hV
  have hV0 : 0 < V := by omega
  rw [hU, hV]
  have hq0 : X / b1 ≤ 4294967297 := by
    have h : X < 4294967298 * b1 := by omega
    exact Nat.le_of_lt_succ ((Nat.div_lt_iff_lt_mul (k := b1) (by omega)).2 h)
  have hr0 : X % b1 < b1 := Nat.mod_lt _ (by omega)
  have hqr := Nat.div_add_mod X b1
  generalize hQ : X / b1 = Q at *
  generalize hR : X % b1 = R at *
  have hT0 := guess_first hU hV hlo hV0 hqr hr0
  have hT1 := guess_le U V
  generalize hT : guessN U V = T at *
  repeat (first | (simp only [go_sem, Nat.reduceEqDiff, Nat.reduceAdd, Nat.reduceSub, Nat.reduceMul, Nat.reduceLeDiff, Nat.reduceLT, reduceIte, reduceCtorEq, Nat.succ_ne_zero, elemsC, Int.reduceToNat, Nat.reducePow, hX, hQ, hR]) | (simp (disch := (first | omega | (simp only [AL, List.length_map]; omega))) only [AR, AL, ifT, ifF, take_all, List.length_cons, List.length_nil, Int.reduceToNat, Int.reducePow, Nat.reducePow, hX, hQ, hR]) | (refine wk_intro (by kernel_rfl) ?_) | (refine vp_draw (l := []) (by kernel_rfl) ?_))
  refine vp_loop_inv (fun s' => s'.tmp 2 = .sv (limb low) ∧ s'.tmp 3 = .sv (limb b1) ∧ s'.tmp 4 = .sv (limb b2) ∧
      ∃ q r : Nat, s'.tmp 12 = .sv (.int .u64 q) ∧ s'.tmp 13 = .sv (.int .u64 r) ∧ q * b1 + r = X ∧ r < 4294967296 ∧ T ≤ q ∧ q ≤ 4294967297)
    (fun s => match s.tmp 12 with | .sv (.int _ i) => i.toNat | _ => 0) ?_ ?_
  · exact ⟨rfl, rfl, rfl, Q, R, rfl, rfl, by rw [Nat.mul_comm]; exact hqr, by omega, hT0, hq0⟩
  rintro s' ⟨i2, i3, i4, q, r, i12, i13, e, hr, hTq, hq⟩
  have fin : 1 ≤ q → 4294967296 ≤ r + b1 → T ≤ q - 1 → q - 1 = T := by
    intro hq1 hrB hl
    have e2 := guess_step e hq1
    have := guess_end hU hV hV0 hb2 e2 (guess_small hX h1 hm e2 hrB) (.inl hrB)
    rw [hT] at this
    omega
  by_cases hqB : 4294967296 ≤ q
  · have e2 := guess_step e (by omega)
    by_cases hrB : 4294967296 ≤ r + b1
    · have h5 := fin (by omega) hrB (by omega)
      clear fin e e2 hU hV hqr
      repeat (first | (simp only [go_sem, Nat.reduceEqDiff, Nat.reduceAdd, Nat.reduceSub, Nat.reduceMul, Nat.reduceLeDiff, Nat.reduceLT, reduceIte, reduceCtorEq, Nat.succ_ne_zero, elemsC, Int.reduceToNat, Nat.reducePow, i2, i3, i4, i12, i13]) | (simp (disch := (first | omega | (simp only [AL, List.length_map]; omega))) only [AR, AL, ifT, ifF, take_all, List.length_cons, List.length_nil, Int.reduceToNat, Int.reducePow, Nat.reducePow, i2, i3, i4, i12, i13]) | (refine wk_intro (by kernel_rfl) ?_) | (refine vp_draw (l := []) (by kernel_rfl) ?_))
      rw [h5]
    · clear fin e hU hV hqr
      repeat (first | (simp only [go_sem, Nat.reduceEqDiff, Nat.reduceAdd, Nat.reduceSub, Nat.reduceMul, Nat.reduceLeDiff, Nat.reduceLT, reduceIte, reduceCtorEq, Nat.succ_ne_zero, elemsC, Int.reduceToNat, Nat.reducePow, i2, i3, i4, i12, i13]) | (simp (disch := (first | omega | (simp only [AL, List.length_map]; omega))) only [AR, AL, ifT, ifF, take_all, List.length_cons, List.length_nil, Int.reduceToNat, Int.reducePow, Nat.reducePow, i2, i3, i4, i12, i13]) | (refine wk_intro (by kernel_rfl) ?_) | (refine vp_draw (l := []) (by kernel_rfl) ?_))
      exact ⟨⟨q - 1, r + b1, rfl, rfl, e2, by omega, by omega, by omega⟩, by omega⟩
  · have hp : q * b2 ≤ 18446744065119617025 := limb_mul (by omega) hb2
    have hub' := guess_end hU hV hV0 hb2 e (by omega)
    have hlb' := guess_more hU hV hV0 e
    rw [hT] at hub' hlb'
    generalize hP : q * b2 = P at *
    have hC : ∃ C, r * 4294967296 + low = C := ⟨_, rfl⟩
    obtain ⟨C, hC⟩ := hC
    have hj : bitsSV .or .u64 ((r * 4294967296 : Nat) : Int) (low : Int) = some (.int .u64 (C : Int)) := by
      rw [b_join (by omega) hlo, hC]
    rw [hC] at hub' hlb'
    by_cases hc : C < P
    · have hq1 : 1 ≤ q := by
        rcases Nat.eq_zero_or_pos q with rfl | h
        · rw [Nat.zero_mul] at hP; omega
        · exact h
      have hl := hlb' hc
      have e2 := guess_step e hq1
      by_cases hrB : 4294967296 ≤ r + b1
      · have h5 := fin hq1 hrB hl
        clear fin hub' hlb' e e2 hU hV hqr hC
        repeat (first | (simp only [go_sem, Nat.reduceEqDiff, Nat.reduceAdd, Nat.reduceSub, Nat.reduceMul, Nat.reduceLeDiff, Nat.reduceLT, reduceIte, reduceCtorEq, Nat.succ_ne_zero, elemsC, Int.reduceToNat, Nat.reducePow, i2, i3, i4, i12, i13, hP, hj]) | (simp (disch := (first | omega | (simp only [AL, List.length_map]; omega))) only [AR, AL, ifT, ifF, take_all, List.length_cons, List.length_nil, Int.reduceToNat, Int.reducePow, Nat.reducePow, i2, i3, i4, i12, i13, hP, hj]) | (refine wk_intro (by kernel_rfl) ?_) | (refine vp_draw (l := []) (by kernel_rfl) ?_))
        rw [h5]
      · clear fin hub' hlb' e hU hV hqr hC
        repeat (first | (simp only [go_sem, Nat.reduceEqDiff, Nat.reduceAdd, Nat.reduceSub, Nat.reduceMul, Nat.reduceLeDiff, Nat.reduceLT, reduceIte, reduceCtorEq, Nat.succ_ne_zero, elemsC, Int.reduceToNat, Nat.reducePow, i2, i3, i4, i12, i13, hP, hj]) | (simp (disch := (first | omega | (simp only [AL, List.length_map]; omega))) only [AR, AL, ifT, ifF, take_all, List.length_cons, List.length_nil, Int.reduceToNat, Int.reducePow, Nat.reducePow, i2, i3, i4, i12, i13, hP, hj]) | (refine wk_intro (by kernel_rfl) ?_) | (refine vp_draw (l := []) (by kernel_rfl) ?_))
        exact ⟨⟨q - 1, r + b1, rfl, rfl, e2, by omega, by omega, by omega⟩, by omega⟩
    · have h5 := hub' (.inr (by omega))
      clear fin hub' hlb' e hU hV hqr hC
      repeat (first | (simp only [go_sem, Nat.reduceEqDiff, Nat.reduceAdd, Nat.reduceSub, Nat.reduceMul, Nat.reduceLeDiff, Nat.reduceLT, reduceIte, reduceCtorEq, Nat.succ_ne_zero, elemsC, Int.reduceToNat, Nat.reducePow, i2, i3, i4, i12, i13, hP, hj]) | (simp (disch := (first | omega | (simp only [AL, List.length_map]; omega))) only [AR, AL, ifT, ifF, take_all, List.length_cons, List.length_nil, Int.reduceToNat, Int.reducePow, Nat.reducePow, i2, i3, i4, i12, i13, hP, hj]) | (refine wk_intro (by kernel_rfl) ?_) | (refine vp_draw (l := []) (by kernel_rfl) ?_))
      rw [Nat.le_antisymm h5 hTq]
end Go.Proofs.YtkkmnjhecjkhgaaGreatDoor
