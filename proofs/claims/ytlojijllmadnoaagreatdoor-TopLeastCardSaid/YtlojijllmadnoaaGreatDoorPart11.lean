/- Part 11 of the proof: the evaluator, contracts of functions and their plain laws (joined by program). No condition. -/
import Derived.Test.YtlojijllmadnoaaGreatDoorPart10
set_option linter.unusedVariables false
set_option linter.unusedSimpArgs false
set_option maxRecDepth 100000
namespace Go.Proofs.YtlojijllmadnoaaGreatDoor
open Go.Ev Go.RowKit
section
variable {G : List (Nat × Value)} {w w5 : World} {T5 : Array Value} {bb : Nat} {ty4 ty5 : TypeId} {pos4 pos5 : String} {af4 af5 : Array Edge} {c5 c7 c8 c9 : Code} {ops : Array Oper} {tys : Array TypeId}
theorem loop_go {Q : Exit -> Act -> World -> Prop} (hG : GMet G) (hok : okCode 39 (.seq c5 (.seq c7 c8)) = true) (hrd : rdCode (.seq c5 (.seq c7 c8)) = true)
  (hd : ops.toList.all (fun o => match o.dst with | some d => decide (d < 39) | none => true) = true) (hnd : ops.all (fun o => notDefer o.op) = true) (hsz : ops.size = 6)
  (ho : ops[5]? = some ⟨some 19, .call { callee := .value (.func 38), args := #[.tmp 4, .tmp 18], argTypes := tys }, ty5, pos5, af5, none⟩)
  (hwA : ∀ st, RunS bb st (esK 0) -> st.tmp 3 = .ptr 2000003 1 0 -> st.tmp 4 = .sv (.con (.pointer (some ⟨bb, 0, none⟩))) -> st.tmp 5 = .sv (.str (textB (lineK 0))) ->
   WP CX c5 st fun e s => e = .normal /\ WP CX c7 s fun e s => e = .normal /\ s.tmp 20 = .sv (.bool false) /\ WP CX c8 s fun e s => e = .normal /\ s.tmp 31 = .sv (.bool false) /\
    WO CX false ops (ops.toList.take 5) s fun s => RunS bb s (esK (0 + 1)) /\ s.tmp 4 = .sv (.con (.pointer (some ⟨bb, 0, none⟩))) /\ s.tmp 18 = .sv (.str (bs [111, 107, 10])))
  (hwB : ∀ st, RunS bb st (esK 1) -> st.tmp 3 = .ptr 2000003 1 0 -> st.tmp 4 = .sv (.con (.pointer (some ⟨bb, 0, none⟩))) -> st.tmp 5 = .sv (.str (textB (lineK 1))) ->
   WP CX c5 st fun e s => e = .normal /\ WP CX c7 s fun e s => e = .normal /\ s.tmp 20 = .sv (.bool false) /\ WP CX c8 s fun e s => e = .normal /\ s.tmp 31 = .sv (.bool false) /\
    WO CX false ops (ops.toList.take 5) s fun s => RunS bb s (esK (1 + 1)) /\ s.tmp 4 = .sv (.con (.pointer (some ⟨bb, 0, none⟩))) /\ s.tmp 18 = .sv (.str (bs [55, 47, 51, 10])))
  (hwC : ∀ st, RunS bb st (esK 2) -> st.tmp 3 = .ptr 2000003 1 0 -> st.tmp 4 = .sv (.con (.pointer (some ⟨bb, 0, none⟩))) -> st.tmp 5 = .sv (.str (textB (lineK 2))) ->
   WP CX c5 st fun e s => e = .normal /\ WP CX c7 s fun e s => e = .normal /\ s.tmp 20 = .sv (.bool true) /\ RunS bb s (esK (2 + 1)))
  (h0 : ∀ fn W1, W1 = (w5.alloc (.deferred (some []))).alloc (.loop { state := .ready, pending := none, fn, tmps := T5, params := #[11], assign := .region 4 #[⟨some 5, .assign (.tmp 11), ty4, pos4, af4, none⟩] false, body := .block 1 (.seq c5 (.block 2 (.seq c7 (.cond (.tmp 20) .skip (.seq c8 (.cond (.tmp 31) c9 (.region 6 ops false))))))), defers := w5.heap.size }) ->
   RunJ G w T5 fn bb (.region 4 #[⟨some 5, .assign (.tmp 11), ty4, pos4, af4, none⟩] false) (.block 1 (.seq c5 (.block 2 (.seq c7 (.cond (.tmp 20) .skip (.seq c8 (.cond (.tmp 31) c9 (.region 6 ops false)))))))) 0 W1)
  (hbx : Boxes (bb + 1) (textB (restK 0)) w5) (hz5 : w5.heap.size = bb + 4) (e10 : (Act.mk T5 []).eval (.tmp 10) = seqV (bb + 1))
  (hQ : ∀ W7 p v, (p = .pointer none \/ p = .pointer (some ⟨bb, 0, none⟩)) -> W7.heap[bb]? = some (.cells #[p, v] 65 (0, 0)) -> W7.ownsRow w.heap.size 5 1 v (Lib.byteCells (outK 3)).length (Lib.byteCells (outK 3)) -> v.ownBlock ≠ some bb -> v.ownBlock ≠ some (bb + 4) ->
   W7.heap[bb + 4]? = some (.deferred (some [])) -> Below w.heap.size w W7 -> w.heap.size <= bb -> Q .normal ⟨T5, [⟨.collected (bb + 4), #[]⟩]⟩ W7) :
  (Code.rangeFunc (.tmp 10) #[11] (.region 4 #[⟨some 5, .assign (.tmp 11), ty4, pos4, af4, none⟩] false) (.block 1 (.seq c5 (.block 2 (.seq c7 (.cond (.tmp 20) .skip (.seq c8 (.cond (.tmp 31) c9 (.region 6 ops false))))))))).wpIn Fence.wide 5 Tryz.prog Q ⟨T5, []⟩ w5 := by
 have hok2 : okCode 39 (.seq c5 c7) = true := by
  simp only [okCode, Bool.and_eq_true] at hok ⊢
  exact ⟨hok.1, hok.2.1⟩
 have hrd2 : rdCode (.seq c5 c7) = true := by
  simp only [rdCode, Bool.and_eq_true] at hrd ⊢
  exact ⟨hrd.1, hrd.2.1⟩
 refine range_go e10 (enters_of (fn := Tryz.f88) (c := (Tryz.f88).body.get!) (by kernel_rfl) (by kernel_rfl) (by kernel_rfl)) ?_
 intro fn W1 hW1
 rw [hz5]
 have hJ0 := h0 fn W1 hW1
 have hb1 : Boxes (bb + 1) (textB (restK 0)) W1 := hbx.same fun k hk _ => by
  rw [hW1, Below.heap_alloc _ _ _ (by rw [World.size_alloc]; omega), Below.heap_alloc _ _ _ hk]
 clear h0 hW1 hbx
 have key : ∀ k W, k < 3 -> RunJ G w T5 fn bb (.region 4 #[⟨some 5, .assign (.tmp 11), ty4, pos4, af4, none⟩] false) (.block 1 (.seq c5 (.block 2 (.seq c7 (.cond (.tmp 20) .skip (.seq c8 (.cond (.tmp 31) c9 (.region 6 ops false)))))))) k W -> YieldAt Fence.wide 3 Tryz.prog (bb + 5) #[.string (textB (lineK k))] W fun e W' => e = .returned (.bool true) /\ RunJ G w T5 fn bb (.region 4 #[⟨some 5, .assign (.tmp 11), ty4, pos4, af4, none⟩] false) (.block 1 (.seq c5 (.block 2 (.seq c7 (.cond (.tmp 20) .skip (.seq c8 (.cond (.tmp 31) c9 (.region 6 ops false)))))))) (k + 1) W' /\ ∀ j, bb + 1 <= j -> j <= bb + 3 -> W'.heap[j]? = W.heap[j]? := by
  intro k W hk hj
  match k, hk, hj with
  | 0, _, hj => exact yield_w hG hok hrd hd hnd hsz ho hwA rfl (by decide) (by decide) hj
  | 1, _, hj => exact yield_w hG hok hrd hd hnd hsz ho hwB rfl (by decide) (by decide) hj
  | 2, _, hj => exact yield_n hG hok2 hrd2 hwC rfl hj
  | k + 3, hk, _ => omega
 generalize (Code.region 4 #[⟨some 5, .assign (.tmp 11), ty4, pos4, af4, none⟩] false) = assign at *
 generalize (Code.block 1 (.seq c5 (.block 2 (.seq c7 (.cond (.tmp 20) .skip (.seq c8 (.cond (.tmp 31) c9 (.region 6 ops false)))))))) = body at *
 refine (seq_run Fence.wide 4 (bb + 1) (bb + 5) trivial trivial (by omega) rfl (fun k W => RunJ G w T5 fn bb assign body k W) ?_ ?_ ?_ W1 hJ0 hb1).mono ?_
 ·intro k W hj
  obtain ⟨n, e, hn⟩ := str_Index CX_str (restK k) 10
  refine callsIn_wide.2 ((callN_calls (G := G) (XL_ok hG) good_ok hn (enters_of (fn := Tryz.f90) (c := (Tryz.f90).body.get!) (by kernel_rfl) (by kernel_rfl) (by kernel_rfl)) (glob_J hj) (vals := #[.string (textB (restK k)), .string ⟨#[10]⟩]) rfl ?_).mono ?_)
  ·intro i x hx
   match i with
   | 0 => simp only [List.getElem?_cons_zero, Option.some.injEq] at hx; subst hx; exact .str _
   | 1 => simp only [List.getElem?_cons_zero, List.getElem?_cons_succ, Option.some.injEq] at hx; subst hx; exact .str _
   | _ + 2 => simp at hx
  ·rintro e' w' ⟨v, rfl, hr, hb⟩
   cases hr
   exact ⟨rfl, hb⟩
 ·intro k W W' hj h1 h2 h3 h4 h5
  exact turn_J hj h1 h2 h3 h4 h5
 ·intro k W hk hj hbox
  obtain ⟨fn', tmps, asg, bo, hy, hR⟩ := key k W hk hj
  exact ⟨fn', tmps, asg, bo, hy, hR.mono fun e W' ⟨h1, h2, h3⟩ => ⟨h1, h2, hbox.same fun j _ hj => h3 j (by omega) (by omega)⟩⟩
 ·rintro e W' ⟨⟨v, rfl⟩, hj3⟩
  obtain ⟨hle, p, v, st, hp, hv6, hside, -⟩ := hj3
  have hlt : bb + 5 < W'.heap.size := (Array.getElem?_eq_some_iff.1 hside.rc).1
  refine ⟨none, _, run_endLoop hside.rc (by simp [recB]), ?_⟩
  refine hQ _ p v hp ((World.putObj_heap_other (by omega)).trans hside.bld) (owns_same hside.own fun j hj => World.putObj_heap_other (by have := hv6 j hj; omega)) (fun e => by have := hv6 _ e; omega) (fun e => by have := hv6 _ e; omega) ((World.putObj_heap_other (by omega)).trans hside.dfr) (hside.base.trans ((Below.refl _ W').grown (grownBy_putObj' W' _ _) (by have := hside.base.size; omega) (fun k e => by cases e; omega))) hle
end
set_option maxRecDepth 100000 in
set_option maxHeartbeats 2000000 in
theorem run_calls {G : List (Nat × Value)} (hG : GMet G) (w : World) (F0 : Nat -> Prop) (hgl : GlOk G w F0) (hF0 : ∀ b, F0 b -> b < w.heap.size) :
  Calls Tryz.prog 16 #[.string (textB (restK 0))] w fun e w' => e = .returned (.string (textB (outK 3))) /\ Below w.heap.size w w' := by
 refine (callsIn_wide (n := 5)).1 ?_
 refine callsIn_of_wp_marks Tryz.func16 rfl trivial ?_
 have hent := entry (N := 39) (vals := #[.string (textB (restK 0))]) (args := [.sv (.str (textB (restK 0)))]) (B := fun _ => 0) hgl (by decide) (by decide) hF0 rfl (fun i x hx => by
  cases i with
  | zero => cases hx; exact .str _
  | succ i => cases hx) (fun i j x y hx _ hi => by
  cases i with
  | zero => cases hx; cases hi
  | succ i => cases hx)
 rw [show (Tryz.f16).ntmps = 39 from rfl]
 have hI : ∀ k, impB [.sv (.str (textB (restK 0)))] (fun _ => 0) k -> w.heap.size <= k := by
  rintro k ⟨i, x, hx, hi, _⟩
  cases i with
  | zero => cases hx; cases hi
  | succ i => cases hx
 generalize impB [.sv (.str (textB (restK 0)))] (fun _ => 0) = I at hent hI
 generalize ({ tmps := #[Value.string (textB (restK 0))] ++ Array.replicate (39 - #[Value.string (textB (restK 0))].size) undef, defers := [] } : Act) = a0 at hent ⊢
 refine wpIn_seq (piece (ro := none) (Z := ⟨fun _ => 0, fun _ => undef, False, G⟩) hG (by simp [okCode]) (by simp [rdCode, notDefer]) ⟨_, hent⟩ (R := fun e s => e = .normal /\ s = (argSt [.sv (.str (textB (restK 0)))]).put 2 (.sv (.str ⟨#[]⟩))) ?_ ?_ (fun e s h => h.1))
 ·repeat (first|simp only [go_sem]|simp (disch := first|exact oa|fail) only [AX]|refine wki ?_|refine wqn ?_|refine vpx [] ?_)
 rintro s a1 w1 ⟨-, rfl⟩ hto
 refine wpIn_seq (wpIn_region (pre_wo (ro := none) (m := 2) (Z := ⟨fun _ => 0, fun _ => undef, False, G⟩) hG (by simp) (by simp [notDefer]) (by simp) hto (T := fun s => s = (((argSt [.sv (.str (textB (restK 0)))]).put 2 (.sv (.str ⟨#[]⟩))).newH 7 [.nil, .sv (.int .i64 6)]).put 8 (.pst 2000007 1)) ?_ ?_))
 ·repeat (first|simp only [go_sem]|simp (disch := first|exact oa|fail) only [AX]|refine wki ?_|refine wqn ?_|refine vpx [] ?_)
  refine vf_heap sess_New ?_
  repeat (first|simp only [go_sem]|simp (disch := first|exact oa|fail) only [AX]|refine wki ?_|refine wqn ?_|refine vpx [] ?_)
 rintro s a2 w2 rfl ⟨β2, hrel2⟩
 refine desk_box (ro := none) rfl rfl rfl hrel2 rfl (by decide) ?_
 clear hrel2 hto hent
 intro β3 a3 w3 hrel3
 have hbox : ((((((argSt [.sv (.str (textB (restK 0)))]).put 2 (.sv (.str ⟨#[]⟩))).newH 7 [.nil, .sv (.int .i64 6)]).put 8 (.pst 2000007 1)).newH 3 [.ptr 2000007 1 0])).hob 2000003 1 = some [.ptr 2000007 1 0] := by kernel_rfl
 have hsess : SessR ((((((argSt [.sv (.str (textB (restK 0)))]).put 2 (.sv (.str ⟨#[]⟩))).newH 7 [.nil, .sv (.int .i64 6)]).put 8 (.pst 2000007 1)).newH 3 [.ptr 2000007 1 0])) 2000007 1 [] 6 := ⟨by decide, .inl ⟨rfl, by kernel_rfl⟩⟩
 have hgen : 1 < ((((((argSt [.sv (.str (textB (restK 0)))]).put 2 (.sv (.str ⟨#[]⟩))).newH 7 [.nil, .sv (.int .i64 6)]).put 8 (.pst 2000007 1)).newH 3 [.ptr 2000007 1 0])).gen 2000003 := by decide
 have t0 : ((((((argSt [.sv (.str (textB (restK 0)))]).put 2 (.sv (.str ⟨#[]⟩))).newH 7 [.nil, .sv (.int .i64 6)]).put 8 (.pst 2000007 1)).newH 3 [.ptr 2000007 1 0])).tmp 0 = .sv (.str (textB (restK 0))) := by kernel_rfl
 have t3 : ((((((argSt [.sv (.str (textB (restK 0)))]).put 2 (.sv (.str ⟨#[]⟩))).newH 7 [.nil, .sv (.int .i64 6)]).put 8 (.pst 2000007 1)).newH 3 [.ptr 2000007 1 0])).tmp 3 = .ptr 2000003 1 0 := by kernel_rfl
 generalize ((((((argSt [.sv (.str (textB (restK 0)))]).put 2 (.sv (.str ⟨#[]⟩))).newH 7 [.nil, .sv (.int .i64 6)]).put 8 (.pst 2000007 1)).newH 3 [.ptr 2000007 1 0])) = s3 at *
 have hT3 : a3.tmps.size = 39 := hrel3.size
 have hD3 : a3.defers = [] := hrel3.defers
 have hob3 : ∀ d g ts, s3.hob d g = some ts -> s3.obj d g = some [] := fun d g ts h => (hrel3.hobs d g ts h).2.1
 have v0 : a3.tmps.getD 0 undef = .string (textB (restK 0)) := by
  have := hrel3.tmps 0
  rw [t0] at this
  exact rep_str this
 obtain ⟨T3, D3⟩ := a3
 cases hD3
 have hT3 : T3.size = 39 := hT3
 have v0 : T3.getD 0 undef = .string (textB (restK 0)) := v0
 obtain ⟨ib, hib, hzb⟩ := bld_info
 refine wpIn_seq (wpIn_region ?_)
 show wpOpsIn Fence.wide 5 _ _ _ [0] _ _
 rw [wpOpsIn_cons, <- lay_nil (a := ⟨T3, []⟩)]
 refine hand_in (ro := none) (D := []) (w1 := w3.alloc (.cells #[.pointer none, .slice none 0 0] 65)) (v := .pointer (some ⟨w3.heap.size, 0, none⟩)) rfl rfl rfl ?_ ?_
 ·simp [execOp, Instr.alloc, run_zero hib hzb, newVar, newRow]
  rfl
 obtain ⟨bb, hbb⟩ : ∃ bb, bb = w3.heap.size := ⟨_, rfl⟩
 rw [<- hbb]
 rw [lay_nil]
 have hbld : (w3.alloc (.cells #[.pointer none, .slice none 0 0] 65)).heap[bb]? = some (.cells #[.pointer none, .slice none 0 0] 65 (0, 0)) := by rw [hbb]; exact World.alloc_heap_new _ _
 have hz4 : (w3.alloc (.cells #[.pointer none, .slice none 0 0] 65)).heap.size = bb + 1 := by rw [World.size_alloc, hbb]
 have hold4 : ∀ j, j < bb -> (w3.alloc (.cells #[.pointer none, .slice none 0 0] 65)).heap[j]? = w3.heap[j]? := fun j hj => Below.heap_alloc _ _ _ (by omega)
 have hbel4 : Below w.heap.size w3 (w3.alloc (.cells #[.pointer none, .slice none 0 0] 65)) := (Below.refl _ w3).alloc (by have := hrel3.ext.size; omega) _
 generalize w3.alloc (.cells #[.pointer none, .slice none 0 0] 65) = w4 at *
 obtain ⟨T4, hT4⟩ : ∃ T4, T4 = T3.setIfInBounds 4 (.pointer (some ⟨bb, 0, none⟩)) := ⟨_, rfl⟩
 show Code.wpIn _ _ _ _ _ ⟨T3.setIfInBounds 4 _, []⟩ _
 rw [<- hT4]
 have hz : T4.size = 39 := by rw [hT4, Array.size_setIfInBounds]; exact hT3
 refine wpIn_seq (wpIn_seq (wpIn_region ?_))
 show wpOpsIn Fence.wide 5 _ _ _ [0, 1] _ _
 rw [wpOpsIn_cons, <- lay_nil (a := ⟨T4, []⟩)]
 refine hand_in (ro := none) (D := []) (w1 := w4) (v := .string (textB (restK 0))) rfl rfl rfl ?_ ?_
 ·have : (Act.mk T4 []).eval (.tmp 0) = .string (textB (restK 0)) := by
   show T4.getD 0 undef = _
   rw [hT4, ext_T (by omega), if_neg (by omega)]
   exact v0
  simp [execOp, this]
 rw [wpOpsIn_cons]
 refine callI_in (ro := none) (D := []) rfl rfl (.inl ⟨enters_of (fn := Tryz.f36) (c := (Tryz.f36).body.get!) (by kernel_rfl) (by kernel_rfl) (by kernel_rfl), ?_⟩)
 have e9 : ((Act.mk T4 []).put (some 9) (.string (textB (restK 0)))).eval (.tmp 9) = .string (textB (restK 0)) := by
  show (T4.setIfInBounds 9 _).getD 9 undef = _
  rw [ext_T (by omega), if_pos rfl]
 refine Eq.mpr (congrArg (fun vs => Calls Tryz.prog 36 vs w4 _) (?_ : _ = #[Value.string (textB (restK 0)), .string ⟨#[10]⟩])) ?_
 ·simp only [List.map_toArray, List.map_cons, List.map_nil, Array.append_empty]
  exact congrArg (fun v => #[v, Value.string ⟨#[10]⟩]) e9
 refine (callsIn_wide.1 (split_Seq Fence.wide 5 trivial trivial rfl rfl (textB (restK 0)) w4)).mono ?_
 rintro e w5 ⟨rfl, hbx, hbel5, hz5⟩
 refine ⟨_, rfl, ?_⟩
 rw [hz4] at hbx hz5
 obtain ⟨T5, hT5⟩ : ∃ T5, T5 = (T4.setIfInBounds 9 (.string (textB (restK 0)))).setIfInBounds 10 (seqV w4.heap.size) := ⟨_, rfl⟩
 rw [lay_nil]
 show Code.wpIn _ _ _ _ _ ⟨(T4.setIfInBounds 9 _).setIfInBounds 10 _, []⟩ _
 rw [<- hT5]
 have hz5T : T5.size = 39 := by rw [hT5, Array.size_setIfInBounds, Array.size_setIfInBounds]; exact hz
 have e10 : (Act.mk T5 []).eval (.tmp 10) = seqV (bb + 1) := by
  show T5.getD 10 undef = _
  rw [hT5, ext_T (by rw [Array.size_setIfInBounds]; omega), if_pos rfl, hz4]
 have hT5t : ∀ t, t ≠ 4 -> t ≠ 9 -> t ≠ 10 -> T5.getD t undef = T3.getD t undef := fun t h4 h9 h10 => by
  rw [hT5, ext_T (by rw [Array.size_setIfInBounds]; omega), if_neg h10, ext_T (by omega), if_neg h9, hT4, ext_T (by omega), if_neg h4]
 have hT54 : T5.getD 4 undef = .pointer (some ⟨bb, 0, none⟩) := by
  rw [hT5, ext_T (by rw [Array.size_setIfInBounds]; omega), if_neg (by omega), ext_T (by omega), if_neg (by omega), hT4, ext_T (by omega), if_pos rfl]
 have hold5 : ∀ j, j < bb -> w5.heap[j]? = w3.heap[j]? := fun j hj => (hbel5.block j (by omega)).trans (hold4 j hj)
 have hbld5 : w5.heap[bb]? = some (.cells #[.pointer none, .slice none 0 0] 65 (0, 0)) := (hbel5.block bb (by omega)).trans hbld
 have hle : w.heap.size <= bb := by rw [hbb]; exact hrel3.ext.size
 have hbw : Below w.heap.size w w3 := ⟨hrel3.ext.os, hrel3.ext.tape, hrel3.ext.output, hrel3.ext.size, fun b hb => hrel3.ext.block b hb fun hi => by have := hI b hi; omega⟩
 have hbel : Below w.heap.size w w5 := (hbw.trans hbel4).trans (hbel5.mono (by omega))
 refine wpIn_block (loop_go (w := w) (bb := bb) hG (by simp [okCode]) (by simp [rdCode, notDefer]) (by simp) (by simp [notDefer]) (by simp) rfl ?_ ?_ ?_ ?_ hbx (by omega) e10 ?_)
 rotate_left 3
 ·intro fn W1 hW1
  exact start_J hrel3 hI hbb hbox hsess hgen t3 hz5T hT5t hT54 (by omega) hold5 hbld5 hbel hW1
 ·intro W7 p v hp hbk hown hv1 hv2 hdf hb7 _
  refine wpIn_seq (wpIn_region ?_)
  show wpOpsIn Fence.wide 5 _ _ _ [0, 1] _ _
  rw [show Act.mk T5 [⟨.collected (bb + 4), #[]⟩] = lay [⟨.collected (bb + 4), #[]⟩] ⟨T5, []⟩ from rfl, wpOpsIn_cons]
  refine callI_in (ro := none) rfl rfl (.inl ⟨enters_of (fn := Tryz.f41) (c := (Tryz.f41).body.get!) (by kernel_rfl) (by kernel_rfl) (by kernel_rfl), ?_⟩)
  refine Eq.mpr (congrArg (fun vs => Calls Tryz.prog 41 vs W7 _) (?_ : _ = #[Value.pointer (some ⟨bb, 0, none⟩)])) ?_
  ·simp only [List.map_toArray, List.map_cons, List.map_nil, Array.append_empty]
   exact congrArg (fun v => #[v]) hT54
  refine Calls.mono (Bld_String { Tryz.lays156 with } Tryz.Builder_Extra_156 w.heap.size bb p v (outK 3) W7 hbk hown (by decide)) ?_
  rintro e W8 ⟨rfl, hk8⟩
  refine ⟨_, rfl, ?_⟩
  rw [wpOpsIn_cons]
  refine hand_in (ro := none) (w1 := W8) (v := .string (textB (outK 3))) rfl rfl rfl ?_ ?_
  ·have : ((Act.mk T5 []).put (some 38) (.string (textB (outK 3)))).eval (.tmp 38) = .string (textB (outK 3)) := by
    show (T5.setIfInBounds 38 _).getD 38 undef = _
    rw [ext_T (by omega), if_pos rfl]
   exact congrArg (fun v => Result.ok (Next.value v) W8) this
  refine wpIn_ret ?_
  have hlt := (Array.getElem?_eq_some_iff.1 hdf).1
  have hdf8 : W8.heap[bb + 4]? = some (.deferred (some [])) := (hk8.same (bb + 4) hlt (by omega) hv2).trans hdf
  refine ⟨(fun h => by cases h), .inl ⟨bb + 4, _, rfl, run_takeDeferred hdf8, .string (textB (outK 3)), ?_, rfl, ?_⟩⟩
  ·have e2 : ((((Act.mk T5 []).put (some 38) (.string (textB (outK 3)))).put (some 2) (.string (textB (outK 3))))).tmps.getD 2 undef = .string (textB (outK 3)) := by
    show ((T5.setIfInBounds 38 _).setIfInBounds 2 _).getD 2 undef = _
    rw [ext_T (by rw [Array.size_setIfInBounds]; omega), if_pos rfl]
   refine results_list (vs := [.string (textB (outK 3))]) ?_
   show (List.mapM (resF _) [ResultVar.tmp 2]).run _ _ = _
   simp only [List.mapM_cons, List.mapM_nil, resF, Sem.run_bind, Sem.run_pure, Result.andThen_ok]
   exact congrArg (fun v => Result.ok [v] (W8.putObj (bb + 4) (Obj.deferred none))) e2
  ·refine (hb7.trans ⟨hk8.os, hk8.tape, hk8.output, hk8.size, fun k hk => hk8.same k (by have := hb7.size; omega) (by omega) fun e => ?_⟩).trans ((Below.refl _ W8).grown (grownBy_putObj' W8 _ _) (by have := hb7.size; have := hk8.size; omega) (fun k e => by cases e; omega))
   have := (owns_lt hown e).2
   omega
 ·intro st hr t3 t4 t5
  have t5 : st.tmp 5 = .sv (.str (bs lineA)) := t5
  have w1 := words_A
  have hb := hr.box
  have q1 : (((108 : UInt8).toNat : Int) == 35) = false := by decide
  have g1 : decide (((lineA.length : Nat) : Int) > 1024) = false := by decide
  repeat (first|simp only [go_sem, t3, t4, t5, strC, wordsA, wordsB, List.map_cons, List.map_nil, Int.reduceAdd, List.drop_succ_cons, List.drop_zero, List.head?_cons, Option.map_some, vo_ix, idxB_bs, List.getElem?_cons_zero, bs_size, q1, g1, hb]|simp (disch := first|exact oa|fail) only [AX, t3, t4, t5, strC, wordsA, wordsB, List.map_cons, List.map_nil, Int.reduceAdd, List.drop_succ_cons, List.drop_zero, List.head?_cons, Option.map_some, vo_ix, idxB_bs, List.getElem?_cons_zero, bs_size, q1, g1, hb]|refine wki ?_|refine wqn ?_|refine vpx [] ?_|refine vf_of (by first|exact w1) ?_)
  refine desk_lineA (by decide) (by decide) (hr.sess.of rfl (fun _ => rfl) (Nat.le_refl _)) ?_
  intro s1 hk hs1
  have ap : (Option.map TV.sv (if (bs [111, 107]).size + #[(10 : UInt8)].size <= 9223372036854775807 then some (SV.str (bs [111, 107] ++ ByteArray.mk #[10])) else none)) = some (.sv (.str (bs [111, 107, 10]))) := by
   rw [if_pos (by decide), show ByteArray.mk #[10] = bs [10] from rfl, bs_append]
   rfl
  repeat (first|simp only [go_sem, ap]|simp (disch := first|exact oa|fail) only [AX, ap]|refine wki ?_|refine wqn ?_|refine vpx [] ?_)
  refine ⟨?_, ?_⟩
  ·exact ⟨(hk.hob _ _ _ (by decide) hr.gen3 hb (by intro t ht; simp only [List.mem_singleton] at ht; subst ht; rfl)), hs1.of rfl (fun _ => rfl) (Nat.le_refl _), (hk.up 3 (show plQ (st.up 3) = true by rw [hr.up3]; rfl)).trans hr.up3, (hk.up 4 (show plQ (st.up 4) = true by rw [hr.up4]; rfl)).trans hr.up4, Nat.lt_of_lt_of_le hr.gen3 (hk.gen _)⟩
  ·exact (hk.tmp 4 (show plQ (st.tmp 4) = true by rw [t4]; rfl)).trans t4
 ·intro st hr t3 t4 t5
  have t5 : st.tmp 5 = .sv (.str (bs lineB)) := t5
  have w1 := words_B
  have hb := hr.box
  have q1 : (((118 : UInt8).toNat : Int) == 35) = false := by decide
  have g1 : decide (((lineB.length : Nat) : Int) > 1024) = false := by decide
  repeat (first|simp only [go_sem, t3, t4, t5, strC, wordsA, wordsB, List.map_cons, List.map_nil, Int.reduceAdd, List.drop_succ_cons, List.drop_zero, List.head?_cons, Option.map_some, vo_ix, idxB_bs, List.getElem?_cons_zero, bs_size, q1, g1, hb]|simp (disch := first|exact oa|fail) only [AX, t3, t4, t5, strC, wordsA, wordsB, List.map_cons, List.map_nil, Int.reduceAdd, List.drop_succ_cons, List.drop_zero, List.head?_cons, Option.map_some, vo_ix, idxB_bs, List.getElem?_cons_zero, bs_size, q1, g1, hb]|refine wki ?_|refine wqn ?_|refine vpx [] ?_|refine vf_of (by first|exact w1) ?_)
  refine desk_lineB (by decide) (by decide) (by decide) (hr.sess.of rfl (fun _ => rfl) (Nat.le_refl _)) ?_
  intro s1 hk hs1
  have ap : (Option.map TV.sv (if (bs [55, 47, 51]).size + #[(10 : UInt8)].size <= 9223372036854775807 then some (SV.str (bs [55, 47, 51] ++ ByteArray.mk #[10])) else none)) = some (.sv (.str (bs [55, 47, 51, 10]))) := by
   rw [if_pos (by decide), show ByteArray.mk #[10] = bs [10] from rfl, bs_append]
   rfl
  repeat (first|simp only [go_sem, ap]|simp (disch := first|exact oa|fail) only [AX, ap]|refine wki ?_|refine wqn ?_|refine vpx [] ?_)
  refine ⟨?_, ?_⟩
  ·exact ⟨(hk.hob _ _ _ (by decide) hr.gen3 hb (by intro t ht; simp only [List.mem_singleton] at ht; subst ht; rfl)), hs1.of rfl (fun _ => rfl) (Nat.le_refl _), (hk.up 3 (show plQ (st.up 3) = true by rw [hr.up3]; rfl)).trans hr.up3, (hk.up 4 (show plQ (st.up 4) = true by rw [hr.up4]; rfl)).trans hr.up4, Nat.lt_of_lt_of_le hr.gen3 (hk.gen _)⟩
  ·exact (hk.tmp 4 (show plQ (st.tmp 4) = true by rw [t4]; rfl)).trans t4
 ·intro st hr t3 t4 t5
  have t5 : st.tmp 5 = .sv (.str (bs [])) := t5
  have w1 := words_C
  repeat (first|simp only [go_sem, t3, t4, t5]|simp (disch := first|exact oa|fail) only [AX, t3, t4, t5]|refine wki ?_|refine wqn ?_|refine vpx [] ?_|refine vf_of (by first|exact w1) ?_)
  exact hr.same rfl rfl rfl rfl
end Go.Proofs.YtlojijllmadnoaaGreatDoor
namespace Go.Proofs.YtlojijllmadnoaaGreatDoor
open Go.Ev Go.RowKit
def xRun : List Arg -> Option (Ret × List (Option (List SV)))
 | [.sv (.str s)] => if s = textB (restK 0) then some (.sv (.str (textB (outK 3))), [none]) else none
 | _ => none
noncomputable def XT : Callf := fun g args => if Nat.beq g 16 then xRun args else XL g args
noncomputable def CT : Cx := { CX with X := XT }
theorem CT_P : CT.P = Tryz.prog := _root_.id rfl
theorem CT_mu (f : Nat) : CT.mu f = muF f := _root_.id rfl
attribute [go_sem] CT_P CT_mu
theorem run_at {G : List (Nat × Value)} (hG : GMet G) {args : List Arg} {r : Ret} {exps : List (Option (List SV))} (h : xRun args = some (r, exps)) : CallG Tryz.prog G 16 args r exps := by
 unfold xRun at h
 split at h
 ·rename_i s
  split at h
  ·rename_i hs
   subst hs
   cases h
   intro w F B vals hgl hF hsz hrep hinj
   have hv : vals = #[.string (textB (restK 0))] := by
    obtain ⟨l⟩ := vals
    have h0 := hrep 0 _ rfl
    match l, hsz with
    | [x], _ =>
     have : Rep w F x (.str (textB (restK 0))) := h0
     cases this
     rfl
   rw [hv]
   refine .inl ⟨enters_of (fn := Tryz.f16) (c := (Tryz.f16).body.get!) (by kernel_rfl) (by kernel_rfl) (by kernel_rfl), (run_calls hG w F hgl hF).mono ?_⟩
   rintro e w' ⟨rfl, hb⟩
   refine ⟨_, rfl, .str _, ext_below hb (fun b => sv_imp (ss := [SV.str (textB (restK 0))])), fun i cs hi => ?_⟩
   cases i with
   | zero => cases hi
   | succ i => cases hi
  ·cases h
 ·cases h
theorem xRun_st {k : Bool} {st : St} {vs : List TV} : xRun [.st k st vs] = none := rfl
theorem XT_ok {G : List (Nat × Value)} (hG : GMet G) : TabOk Tryz.prog G XT where
 ok := fun g args r exps h => by
  unfold XT at h
  split at h
  ·rename_i hg
   rw [show g = 16 from Nat.eq_of_beq_eq_true hg]
   exact run_at hG h
  ·exact (XL_ok hG).ok g args r exps h
 inn := fun g k st vs r exps h => by
  unfold XT at h
  split at h
  ·rw [xRun_st] at h; cases h
  ·exact (XL_ok hG).inn g k st vs r exps h
 look := fun f st vs => by
  unfold XT
  split
  ·rfl
  ·exact (XL_ok hG).look f st vs
 eqv := fun g b s vs r e h l => by
  unfold XT at h ⊢
  split at h
  ·rw [xRun_st] at h; cases h
  ·rename_i hg
   obtain ⟨m, hm⟩ := (XL_ok hG).eqv g b s vs r e h l
   exact ⟨m, fun v => (if_neg hg).trans (hm v)⟩
theorem XT_run : XL 16 = fun _ => none := by
 funext a
 rfl
theorem callN_up : ∀ n, CallLe (callN Tryz.prog XL muF good n) (callN Tryz.prog XT muF good n)
 | 0 => fun f a r h => by simp [callN] at h
 | n + 1 => fun f a r h => by
  have ih := callN_up n
  by_cases hf : f = 16
  ·subst hf
   exfalso
   unfold callN at h
   rw [XT_run] at h
   have hg : good 16 = false := by kernel_rfl
   rw [hg] at h
   split at h
   ·dsimp only at h
    split at h
    ·rw [if_neg (by decide)] at h; cases h
    ·cases h
   ·dsimp only at h
    split at h
    ·rw [if_neg (by decide)] at h; cases h
    ·cases h
  have hX : XT f a = XL f a := by
   unfold XT
   rw [if_neg fun e => hf (Nat.eq_of_beq_eq_true e)]
  unfold callN at h ⊢
  rw [hX]
  split at h
  ·split at h
   ·exact h
   ·split at h
    ·split at h
     ·rename_i hok
      rw [if_pos hok]
      split at h
      ·split at h
       ·rename_i hl
        rw [if_pos hl]
        obtain ⟨st, e⟩ := inlOf_some h
        rw [e] at h
        rw [exec_mono ih (Nat.le_refl n) e]
        exact h
       ·cases h
      ·cases h
     ·cases h
    ·cases h
  ·split at h
   ·exact h
   ·split at h
    ·split at h
     ·rename_i hok
      rw [if_pos hok]
      split at h
      ·split at h
       ·rename_i hl
        rw [if_pos hl]
        split at h
        ·rename_i e
         rw [exec_mono ih (Nat.le_refl n) e]
         exact h
        ·rename_i e
         rw [exec_mono ih (Nat.le_refl n) e]
         exact h
        ·cases h
       ·cases h
      ·cases h
     ·cases h
    ·cases h
theorem Fn.up {f : FuncId} {args : List SV} {r : SV} (h : Go.Ev.Fn CX f args r) : Go.Ev.Fn CT f args r := by
 obtain ⟨n, e, hn⟩ := h
 exact ⟨n, e, callN_up n _ _ _ hn⟩
theorem run_fn : Go.Ev.Fn CT 16 [.str (textB (restK 0))] (.str (textB (outK 3))) := by
 refine ⟨1, [none], ?_⟩
 have hX : CT.X 16 ([SV.str (textB (restK 0))].map Arg.sv) = some (.sv (.str (textB (outK 3))), [none]) := by
  show xRun [.sv (.str (textB (restK 0)))] = _
  unfold xRun
  exact if_pos rfl
 unfold callN
 rw [stq_sv, hX]
theorem known_top : Go.Ev.Fn CT 6 [] (.bool true) := by
 have h := run_fn
 have e0 : textB (restK 0) = ByteArray.mk #[108, 101, 116, 32, 97, 32, 61, 32, 49, 32, 50, 32, 52, 10, 118, 97, 114, 32, 97, 10] := rfl
 have e1 : textB (outK 3) = ByteArray.mk #[111, 107, 10, 55, 47, 51, 10] := rfl
 rw [e0, e1] at h
 refine fni Tryz.f6 ?_; unfold Tryz.f6; simp only [Option.get!_some]
 repeat (first|simp only [go_sem]|simp (disch := first|exact oa|fail) only [AX]|refine wki ?_|refine wqn ?_|refine vf_of (by first|exact h) ?_)
 exact congrArg SV.bool (beq_self_eq_true _)
end Go.Proofs.YtlojijllmadnoaaGreatDoor
namespace Go.Proofs.YtlojijllmadnoaaGreatDoor
open Go.Ev
section
variable {k n m : Int} {sa sb sq : Bool} {na da nb db nq dq : List Nat} {a b q : Rat} {L : Nat}
end
abbrev tlA (n : Int) (sa : Bool) (na da : List Nat) (sq : Bool) (nq dq : List Nat) : List SV := [.int .i64 n, ratV sa na da, ratV sq nq dq]
theorem topl_out {n : Int} {sa sq : Bool} {na da nq dq : List Nat} (bn : -9223372036854775808 <= n /\ n < 9223372036854775808) (h : n < 0 \/ 12 < n \/ 1 < na.length \/ 1 < da.length \/ 1 < nq.length \/ 1 < dq.length) :
  Go.Ev.Fn CT 3 (tlA n sa na da sq nq dq) (.bool true) := by
 by_cases c1 : n < 0
 ·clear h
  refine fni Tryz.f3 ?_; unfold Tryz.f3; simp only [Option.get!_some]
  repeat (first|simp only [go_sem]|simp (disch := first|exact oa|fail) only [AX]|refine wki ?_|refine wqn ?_)
 by_cases c2 : 12 < n
 ·clear h
  refine fni Tryz.f3 ?_; unfold Tryz.f3; simp only [Option.get!_some]
  repeat (first|simp only [go_sem]|simp (disch := first|exact oa|fail) only [AX]|refine wki ?_|refine wqn ?_)
 by_cases c3 : 1 < na.length
 ·clear h
  refine fni Tryz.f3 ?_; unfold Tryz.f3; simp only [Option.get!_some]
  repeat (first|simp only [go_sem]|simp (disch := first|exact oa|fail) only [AX]|refine wki ?_|refine wqn ?_)
 by_cases c4 : 1 < da.length
 ·clear h
  refine fni Tryz.f3 ?_; unfold Tryz.f3; simp only [Option.get!_some]
  repeat (first|simp only [go_sem]|simp (disch := first|exact oa|fail) only [AX]|refine wki ?_|refine wqn ?_)
 by_cases c5 : 1 < nq.length
 ·clear h
  refine fni Tryz.f3 ?_; unfold Tryz.f3; simp only [Option.get!_some]
  repeat (first|simp only [go_sem]|simp (disch := first|exact oa|fail) only [AX]|refine wki ?_|refine wqn ?_)
 have c6 : 1 < dq.length := by omega
 clear h
 refine fni Tryz.f3 ?_; unfold Tryz.f3; simp only [Option.get!_some]
 repeat (first|simp only [go_sem]|simp (disch := first|exact oa|fail) only [AX]|refine wki ?_|refine wqn ?_)
section
variable {N K : Nat} {sa sq : Bool} {na da nq dq : List Nat} {a q : Rat}
theorem topl_err {e : Int} (l1 : N <= 12) (l2 : na.length <= 1) (l3 : da.length <= 1) (l4 : nq.length <= 1) (l5 : dq.length <= 1) (he : ¬ e = 0) {M : Int}
  (f1 : Go.Ev.Fn CT 4 [distV 8 (N : Int) 0 sa na da false [] [], ratV sq nq dq] (.tup [.int .i64 (0 : Nat), .int .i64 e]))
  (g1 : Go.Ev.Fn CT 5 [distV 8 (N : Int) 0 sa na da false [] [], ratV sq nq dq] (.tup [.int .i64 M, .int .i64 e])) :
  Go.Ev.Fn CT 3 (tlA (N : Int) sa na da sq nq dq) (.bool true) := by
 refine fni Tryz.f3 ?_; unfold Tryz.f3; simp only [Option.get!_some]
 repeat (first|simp only [go_sem]|simp (disch := first|exact oa|fail) only [AX]|refine wki ?_|refine wqn ?_|refine vf_of (by first|exact f1|exact g1|exact known_top) ?_)
theorem topl_zero (l1 : N <= 12) (l2 : na.length <= 1) (l3 : da.length <= 1) (l4 : nq.length <= 1) (l5 : dq.length <= 1) {x y : Rat} {e : Int}
  (f1 : Go.Ev.Fn CT 4 [distV 8 (N : Int) 0 sa na da false [] [], ratV sq nq dq] (.tup [.int .i64 0, .int .i64 0]))
  (b1 : Go.Ev.Fn CT 7 [.int .i64 (N : Int), .int .i64 0, ratV sa na da] (.tup [rv x, .bool true]))
  (b2 : Go.Ev.Fn CT 7 [.int .i64 (N : Int), .int .i64 (0 - 1), ratV sa na da] (.tup [rv y, .bool true]))
  (x1 : Go.Ev.Fn CT 8 [rv x, ratV sq nq dq] (.int .i64 e)) (e1 : decide (e >= 0) = true) :
  Go.Ev.Fn CT 3 (tlA (N : Int) sa na da sq nq dq) (.bool true) := by
 refine fni Tryz.f3 ?_; unfold Tryz.f3; simp only [Option.get!_some]
 repeat (first|simp only [go_sem, e1]|simp (disch := first|exact oa|fail) only [AX, e1]|refine wki ?_|refine wqn ?_|refine vf_of (by first|exact f1|exact b1|exact b2|exact x1|exact known_top) ?_)
set_option maxHeartbeats 1000000 in
theorem topl_pos (l1 : N <= 12) (l2 : na.length <= 1) (l3 : da.length <= 1) (l4 : nq.length <= 1) (l5 : dq.length <= 1) (lk : 1 <= K) (lkn : K <= N) {x y : Rat} {e f : Int}
  (f1 : Go.Ev.Fn CT 4 [distV 8 (N : Int) 0 sa na da false [] [], ratV sq nq dq] (.tup [.int .i64 (K : Int), .int .i64 0]))
  (b1 : Go.Ev.Fn CT 7 [.int .i64 (N : Int), .int .i64 (K : Int), ratV sa na da] (.tup [rv x, .bool true]))
  (b2 : Go.Ev.Fn CT 7 [.int .i64 (N : Int), .int .i64 ((K - 1 : Nat) : Int), ratV sa na da] (.tup [rv y, .bool true]))
  (x1 : Go.Ev.Fn CT 8 [rv x, ratV sq nq dq] (.int .i64 e)) (e1 : decide (e >= 0) = true)
  (x2 : Go.Ev.Fn CT 8 [rv y, ratV sq nq dq] (.int .i64 f)) (e2 : decide (f < 0) = true) :
  Go.Ev.Fn CT 3 (tlA (N : Int) sa na da sq nq dq) (.bool true) := by
 refine fni Tryz.f3 ?_; unfold Tryz.f3; simp only [Option.get!_some]
 repeat (first|simp only [go_sem, e1, e2]|simp (disch := first|exact oa|fail) only [AX, e1, e2]|refine wki ?_|refine wqn ?_|refine vf_of (by first|exact f1|exact b1|exact b2|exact x1|exact x2|exact known_top) ?_)
end
theorem topl_law (n : Int) (wn : (Lit.int .i64 n).wf = true) (ss0 : List SV) (sh0 : ShpT Tryz.prog 6 24 ss0) (ss1 : List SV) (sh1 : ShpT Tryz.prog 6 24 ss1) : Go.Ev.Fn CT 3 [.int .i64 n, .agg ss0, .agg ss1] (.bool true) := by
 obtain ⟨sa, na, da, rfl, h1, h2, -, -⟩ := shp_rat sh0
 obtain ⟨sq, nq, dq, rfl, h5, h6, -, -⟩ := shp_rat sh1
 have bn := wf_int64 wn
 clear wn sh0 sh1
 by_cases hg : n < 0 \/ 12 < n \/ 1 < na.length \/ 1 < da.length \/ 1 < nq.length \/ 1 < dq.length
 ·exact topl_out bn hg
 have hA : RatA (ratV sa na da) (mkRat (sgn sa (wth na)) (wth da)) 1 := ⟨_, _, _, rfl, h1, h2, by omega, by omega, rfl⟩
 have hB : RatA (ratV false [] []) (mkRat (sgn false (wth [])) (wth [])) 1 := ⟨_, _, _, rfl, (by intro x hx; cases hx), (by intro x hx; cases hx), by simp, by simp, rfl⟩
 have hQ : RatA (ratV sq nq dq) (mkRat (sgn sq (wth nq)) (wth dq)) 1 := ⟨_, _, _, rfl, h5, h6, by omega, by omega, rfl⟩
 generalize mkRat (sgn sa (wth na)) (wth da) = a at *
 generalize mkRat (sgn false (wth [])) (wth []) = b at *
 generalize mkRat (sgn sq (wth nq)) (wth dq) = q at *
 obtain ⟨N, rfl⟩ : ∃ N : Nat, n = (N : Int) := ⟨n.toNat, by omega⟩
 obtain ⟨K, f1, k1, k2⟩ := quant_Least (k := 8) (n := (N : Int)) (m := 0) hA hB hQ (by omega) (by omega)
 by_cases he : lstE 8 (N : Int) 0 a b q = 0
 ·have hK := k1 he
  rw [Int.toNat_natCast] at hK
  have hchk : chkD 8 (N : Int) 0 a b = 0 := by
   unfold lstE at he
   by_cases h : chkD 8 (N : Int) 0 a b = 0
   ·exact h
   ·rw [if_pos h] at he; exact absurd he h
  have hq1 : q <= 1 := by
   unfold lstE at he
   rw [if_neg (not_not_intro hchk), if_neg (by omega)] at he
   split at he
   ·omega
   ·split at he
    ·omega
    ·rename_i h; have : (((1 : Int) : Rat)) = 1 := rfl; rw [this] at h; grind
  obtain ⟨-, -, a0, a1⟩ := chk_eight hchk
  obtain ⟨hkn, hlo, hhi⟩ := hK
  have hle : q <= cdfB N (K : Int) a := by
   rcases hhi with h | h
   ·rw [h, show cdfB N (N : Int) a = 1 by unfold cdfB; rw [if_neg (by omega), if_pos (by omega)]]
    exact hq1
   ·exact h
  rw [he] at f1
  have f1 := Fn.up f1
  have hsz := szR_mono (szR_of hA (by omega)) (show 1 <= 100 by omega)
  obtain ⟨hab, -⟩ := unit_num a0 a1
  have b1 := ref13_BinomCdf (n := N) (k := (K : Int)) hA (by omega) (by omega) (by omega) a0 a1 (by omega)
  have b2 := ref13_BinomCdf (n := N) (k := (K : Int) - 1) hA (by omega) (by omega) (by omega) a0 a1 (by omega)
  have x1 := ref2_Cmp (RatA_rv (cdfB_sz (n := N) (k := K) hsz hab (by omega))) hQ (by omega) (by omega) (by omega)
  have e1 : decide (cmpR (cdfB N (K : Int) a) q >= 0) = true := by rw [cmpR_ge]; exact decide_eq_true hle
  by_cases hK0 : K = 0
  ·subst hK0
   exact topl_zero (by omega) (by omega) (by omega) (by omega) (by omega) f1 (Fn.up b1) (Fn.up b2) (Fn.up x1) e1
  ·have hlt := hlo (K - 1) (by omega)
   have b3 := ref13_BinomCdf (n := N) (k := ((K - 1 : Nat) : Int)) hA (by omega) (by omega) (by omega) a0 a1 (by omega)
   have x2 := ref2_Cmp (RatA_rv (cdfB_sz (n := N) (k := K - 1) hsz hab (by omega))) hQ (by omega) (by omega) (by omega)
   have e2 : decide (cmpR (cdfB N ((K - 1 : Nat) : Int) a) q < 0) = true := by rw [cmpR_lt]; exact decide_eq_true hlt
   exact topl_pos (by omega) (by omega) (by omega) (by omega) (by omega) (by omega) hkn f1 (Fn.up b1) (Fn.up b3) (Fn.up x1) e1 (Fn.up x2) e2
 ·obtain ⟨M, g1, m1, m2⟩ := ref15_Least (k := 8) (n := (N : Int)) (m := 0) hA hB hQ (by omega) (by omega)
  rw [k2 he] at f1
  have f1 := Fn.up f1
  have g1 := Fn.up g1
  exact topl_err (by omega) (by omega) (by omega) (by omega) (by omega) he f1 g1
end Go.Proofs.YtlojijllmadnoaaGreatDoor
