/- Part 10 of the proof: the evaluator, contracts of functions and their plain laws (joined by program). No condition. -/
import Derived.Test.YticocojomlfhgaaGreatDoorPart9
set_option linter.unusedVariables false
set_option linter.unusedSimpArgs false
set_option maxRecDepth 100000
set_option maxHeartbeats 4000000
namespace Go.Proofs.YticocojomlfhgaaGreatDoor
open Go.Ev
section
variable {ops : Array Oper} {l : List Oper} {dst : Option Nat} {st : St} {Q : St -> Prop} {d g p : Nat} {es : List Ent} {t : List UInt8} {D : Int}
theorem doc_Set_new {ql : List Rat} {cs : List SV} {L : Nat} (hrow : RowC cs ql L) (hL1 : 1 <= L) (hL : L <= 10000) (hm : ql.length <= 256) (hn : nameP t = true) (hp : PosAt es t p) (hl : es.length <= 100000) (hat : isAt es t p = false) (hroom : es.length < 16) (h : SessD st d g es D)
    (k : ∀ st', KeepT TD d st st' -> SessD st' d g (insE es p (t, ql.length, rvsC ql)) D -> WO CX false ops l (st'.putO dst (.sv (.int .i64 0))) Q) :
    WN CX ops l dst st Q 26 [.ptr d g 0, .sv (.str (bs t)), .sv (.sl ql.length cs)] := by
  have nm := ref22_Name t
  rw [hn] at nm
  have hlen := row_len hrow
  have hd' : 2000000 <= d := h.ob
  have hple := hp.le
  refine wni Tryz.f26 ?_; unfold Tryz.f26; simp only [Option.get!_some]
  repeat (first | simp only [go_sem, hd', Bool.not_true] | simp (disch := first | exact oa | fail) only [AX, Int.reduceToNat, Int.reducePow, Nat.reducePow, hd', Bool.not_true] | refine wki ?_ | refine wqn ?_ | refine vpl 16 [] [([0, 1, 2, 3, 4, 5, 6, 7, 8, 10, 11, 12, 13, 14, 15, 16], some (9, [0, 1, 10, 11, 12, 13, 14, 15, 16])), ([], some (17, [0, 1])), ([18, 19], some (20, [1])), ([21, 22], some (23, [])), ([], none)] ?_ | refine vf_of (by first | exact nm) ?_)
  refine doc_at hp hl (h.same rfl rfl rfl) ?_
  intro s1 hk
  have k0 : s1.tmp 0 = .ptr d g 0 := hk.tmp 0
  have k1 : s1.tmp 1 = .sv (.str (bs t)) := hk.tmp 1
  have k2 : s1.tmp 2 = .sv (.sl ql.length cs) := hk.tmp 2
  have hs0 : SessD s1 d g es D := h.same (hk.hob.trans rfl) (funext fun a => funext fun b => (hk.obj a b).trans rfl) (hk.gen.trans rfl)
  have hu := (hk.keep (T := TD) (d := d)).kp
  clear hk h
  have hu : Kp TD d (st.enter [.ptr d g 0, .sv (.str (bs t)), .sv (.sl ql.length cs)]) s1 := (by repeat (first | exact Kp.refl | exact hu | refine Kp.trans ?_ hu | refine Kp.put ?_ | refine Kp.setH ?_ | refine Kp.newset ?_ | refine Kp.set rfl ?_ | refine Kp.set (by assumption) ?_ | refine Kp.new ?_ | refine Kp.grow rfl ?_ | refine Kp.frzd rfl ?_ | refine Kp.ins rfl ?_))
  obtain ⟨_, hrw⟩ := hs0
  rcases hrw with ⟨rfl, ho⟩ | ⟨dn, gn, dl, gl, en, el, gn1, gl1, ho, hN, hL'⟩
  · have hp0 : p = 0 := by simpa using hple
    subst hp0
    have d59 : (d = 59) = False := eq_false (by omega)
    have d70 : (d = 70) = False := eq_false (by omega)
    have s0 : SameT (.sv (.sl 0 [])) (.sv (.sl 0 [])) (.sv (.sl 0 [])) = True := st_sl rfl
    repeat (first | simp only [go_sem, hd', k0, k1, k2, hat, ho, Bool.not_true, Bool.not_false] | simp (disch := first | exact oa | fail) only [AX, Int.reduceToNat, Int.reducePow, Nat.reducePow, hd', k0, k1, k2, hat, ho, Bool.not_true, Bool.not_false] | refine wki ?_ | refine wqn ?_ | refine vpl 16 [] [([0, 1, 2, 3, 4, 5, 6, 7, 8, 10, 11, 12, 13, 14, 15, 16], some (9, [0, 1, 10, 11, 12, 13, 14, 15, 16])), ([], some (17, [0, 1])), ([18, 19], some (20, [1])), ([21, 22], some (23, [])), ([], none)] ?_)
    refine vp_loop_inv (fun s => s.tmp 0 = .ptr d g 0 /\ s.tmp 1 = .sv (.str (bs t)) /\ s.tmp 2 = .sv (.sl ql.length cs) /\ s.tmp 7 = .sv (.int .i64 0) /\ s.tmp 8 = .sv (.bool false) /\ Kp TD d (st.enter [.ptr d g 0, .sv (.str (bs t)), .sv (.sl ql.length cs)]) s /\
        s.hob d g = some [.nil, .nil, .sv (.int .i64 D)] /\
        ∃ i : Nat, s.tmp 10 = .sv (.int .i64 (i : Int)) /\ i <= ql.length /\ ((i = 0 /\ s.tmp 9 = .nil) \/ ∃ g3, 0 < i /\ g3 < s.gen 50 /\ s.tmp 9 = .ref 50 g3 3 0 i /\ s.obj 50 g3 = some (rvsC (ql.take i))))
      (fun s => match s.tmp 10 with | .sv (.int _ i) => ql.length - i.toNat | _ => 0) ⟨k0, k1, k2, rfl, rfl, (by repeat (first | exact Kp.refl | exact hu | refine Kp.trans ?_ hu | refine Kp.put ?_ | refine Kp.setH ?_ | refine Kp.newset ?_ | refine Kp.set rfl ?_ | refine Kp.set (by assumption) ?_ | refine Kp.new ?_ | refine Kp.grow rfl ?_ | refine Kp.frzd rfl ?_ | refine Kp.ins rfl ?_)), ho, 0, rfl, by omega, .inl ⟨rfl, rfl⟩⟩ ?_
    rintro s ⟨i0, i1, i2, i7, i8, iU, iH, i, i10, hi, hcase⟩
    by_cases hend : i = ql.length
    · subst hend
      rw [List.take_length] at hcase
      rcases hcase with ⟨h0, i9⟩ | ⟨g3, h0, hg3, i9, iO⟩
      · have hq : ql = [] := List.eq_nil_of_length_eq_zero h0
        subst hq
        repeat (first | simp only [go_sem, hd', i0, i1, i2, i7, i8, i10, i9, iH, d59, d70, N0, s0, true_or, or_true] | simp (disch := first | exact oa | fail) only [AX, Int.reduceToNat, Int.reducePow, Nat.reducePow, hd', i0, i1, i2, i7, i8, i10, i9, iH, d59, d70, N0, s0, true_or, or_true] | refine wki ?_ | refine wqn ?_ | refine vpl 16 [] [([0, 1, 2, 3, 4, 5, 6, 7, 8, 10, 11, 12, 13, 14, 15, 16], some (9, [0, 1, 10, 11, 12, 13, 14, 15, 16])), ([], some (17, [0, 1])), ([18, 19], some (20, [1])), ([21, 22], some (23, [])), ([], none)] ?_)
        refine k _ (keep_of (by repeat (first | exact Kp.refl | exact iU | refine Kp.trans ?_ iU | refine Kp.put ?_ | refine Kp.setH ?_ | refine Kp.newset ?_ | refine Kp.set rfl ?_ | refine Kp.set (by assumption) ?_ | refine Kp.new ?_ | refine Kp.grow rfl ?_ | refine Kp.frzd rfl ?_ | refine Kp.ins rfl ?_))) ⟨hd', .inr ⟨59, s.gen 59, 70, s.gen 70, .inr rfl, .inr rfl, ?_, ?_, ?_, ?_, ?_⟩⟩
        · simp only [gen_leave, gen_put, gen_new, gen_grow, gen_setH, gen_frzd, reduceIte, Nat.reduceEqDiff]
          omega
        · simp only [gen_leave, gen_put, gen_new, gen_grow, gen_setH, gen_frzd, reduceIte, Nat.reduceEqDiff]
          omega
        · simp only [hob_leave, hob_put, hob_setH, and_self, if_true]
          rfl
        · simp only [obj_leave, obj_put, obj_setH, obj_grow, obj_new, obj_frzd, gen_put, gen_frzd, gen_setH, gen_grow, gen_new, and_self, reduceIte, Nat.reduceEqDiff, false_and, if_false, if_true]
          rfl
        · simp only [obj_leave, obj_put, obj_setH, obj_grow, obj_new, obj_frzd, gen_put, gen_frzd, gen_setH, gen_grow, gen_new, and_self, reduceIte, Nat.reduceEqDiff, false_and, if_false, if_true]
          rfl
      · have hts : List.take (ql.length * 3) (rvsC ql) = rvsC ql := List.take_of_length_le (by rw [rvsC_len]; omega)
        repeat (first | simp only [go_sem, hd', i0, i1, i2, i7, i8, i10, i9, iH, d59, d70, N0, s0, true_or, or_true, iO, hts] | simp (disch := first | exact oa | fail) only [AX, Int.reduceToNat, Int.reducePow, Nat.reducePow, hd', i0, i1, i2, i7, i8, i10, i9, iH, d59, d70, N0, s0, true_or, or_true, iO, hts] | refine wki ?_ | refine wqn ?_ | refine vpl 16 [] [([0, 1, 2, 3, 4, 5, 6, 7, 8, 10, 11, 12, 13, 14, 15, 16], some (9, [0, 1, 10, 11, 12, 13, 14, 15, 16])), ([], some (17, [0, 1])), ([18, 19], some (20, [1])), ([21, 22], some (23, [])), ([], none)] ?_)
        refine k _ (keep_of (by repeat (first | exact Kp.refl | exact iU | refine Kp.trans ?_ iU | refine Kp.put ?_ | refine Kp.setH ?_ | refine Kp.newset ?_ | refine Kp.set rfl ?_ | refine Kp.set (by assumption) ?_ | refine Kp.new ?_ | refine Kp.grow rfl ?_ | refine Kp.frzd rfl ?_ | refine Kp.ins rfl ?_))) ⟨hd', .inr ⟨59, s.gen 59, 70, s.gen 70, .inr rfl, .inr rfl, ?_, ?_, ?_, ?_, ?_⟩⟩
        · simp only [gen_leave, gen_put, gen_new, gen_grow, gen_setH, gen_frzd, reduceIte, Nat.reduceEqDiff]
          omega
        · simp only [gen_leave, gen_put, gen_new, gen_grow, gen_setH, gen_frzd, reduceIte, Nat.reduceEqDiff]
          omega
        · simp only [hob_leave, hob_put, hob_setH, and_self, if_true]
          rfl
        · simp only [obj_leave, obj_put, obj_setH, obj_grow, obj_new, obj_frzd, gen_put, gen_frzd, gen_setH, gen_grow, gen_new, and_self, reduceIte, Nat.reduceEqDiff, false_and, if_false, if_true]
          rfl
        · simp only [obj_leave, obj_put, obj_setH, obj_grow, obj_new, obj_frzd, gen_put, gen_frzd, gen_setH, gen_grow, gen_new, and_self, reduceIte, Nat.reduceEqDiff, false_and, if_false, if_true]
          rfl
    · obtain ⟨x, n, dd, rest, hxt, hA⟩ := row_at (i := i) hrow (by omega)
      have a := ref2_Norm hA (by omega)
      have hsn := rvs_snocA (l := ql) (i := i) (by omega)
      have hrl := rvsC_len (ql.take i)
      rw [List.length_take, Nat.min_eq_left (by omega)] at hrl
      rcases hcase with ⟨h0, i9⟩ | ⟨g3, h0, hg3, i9, iO⟩
      · subst h0
        rw [List.take_zero, rvsC_nil, List.nil_append] at hsn
        rw [Nat.zero_mul, List.drop_zero] at hxt
        subst hxt
        repeat (first | simp only [go_sem, hd', i0, i1, i2, i7, i8, i10, i9, iH, N0, rvC] | simp (disch := first | exact oa | fail) only [AX, Int.reduceToNat, Int.reducePow, Nat.reducePow, hd', i0, i1, i2, i7, i8, i10, i9, iH, N0, rvC] | refine wki ?_ | refine wqn ?_ | refine vpl 16 [] [([0, 1, 2, 3, 4, 5, 6, 7, 8, 10, 11, 12, 13, 14, 15, 16], some (9, [0, 1, 10, 11, 12, 13, 14, 15, 16])), ([], some (17, [0, 1])), ([18, 19], some (20, [1])), ([21, 22], some (23, [])), ([], none)] ?_ | refine vf_of (by first | exact a) ?_)
        exact ⟨⟨(by repeat (first | exact Kp.refl | exact iU | refine Kp.trans ?_ iU | refine Kp.put ?_ | refine Kp.setH ?_ | refine Kp.newset ?_ | refine Kp.set rfl ?_ | refine Kp.set (by assumption) ?_ | refine Kp.new ?_ | refine Kp.grow rfl ?_ | refine Kp.frzd rfl ?_ | refine Kp.ins rfl ?_)), 1, rfl, by omega, .inr ⟨s.gen 50, by omega, by omega, rfl, by rw [if_pos rfl, <- hsn]; rfl⟩⟩, by omega⟩
      · unfold rvC at hsn
        repeat (first | simp only [go_sem, hd', i0, i1, i2, i7, i8, i10, i9, iH, iO, hxt, hlen, N0, hsn, hrl, rvC] | simp (disch := first | exact oa | fail) only [AX, Int.reduceToNat, Int.reducePow, Nat.reducePow, hd', i0, i1, i2, i7, i8, i10, i9, iH, iO, hxt, hlen, N0, hsn, hrl, rvC] | refine wki ?_ | refine wqn ?_ | refine vpl 16 [] [([0, 1, 2, 3, 4, 5, 6, 7, 8, 10, 11, 12, 13, 14, 15, 16], some (9, [0, 1, 10, 11, 12, 13, 14, 15, 16])), ([], some (17, [0, 1])), ([18, 19], some (20, [1])), ([21, 22], some (23, [])), ([], none)] ?_ | refine vf_of (by first | exact a) ?_)
        exact ⟨⟨(by repeat (first | exact Kp.refl | exact iU | refine Kp.trans ?_ iU | refine Kp.put ?_ | refine Kp.setH ?_ | refine Kp.newset ?_ | refine Kp.set rfl ?_ | refine Kp.set (by assumption) ?_ | refine Kp.new ?_ | refine Kp.grow rfl ?_ | refine Kp.frzd rfl ?_ | refine Kp.ins rfl ?_)), i + 1, rfl, by omega, .inr ⟨g3, by omega, hg3, rfl, by rw [if_pos rfl]⟩⟩, by omega⟩
  have tdn : TD dn = true := by rcases en with rfl | rfl <;> rfl
  have tdl : TD dl = true := by rcases el with rfl | rfl <;> rfl
  have dn50 : (dn = 50) = False := eq_false (by omega)
  have dl50 : (dl = 50) = False := eq_false (by omega)
  have dn49 : (dn = 49) = False := eq_false (by omega)
  have dl49 : (dl = 49) = False := eq_false (by omega)
  have dn59 : ∀ s : St, gn < s.gen dn -> (dn = 59 /\ gn = s.gen 59) = False := fun s h => eq_false fun e => by rw [e.1] at h; omega
  have dl70 : ∀ s : St, gl < s.gen dl -> (dl = 70 /\ gl = s.gen 70) = False := fun s h => eq_false fun e => by rw [e.1] at h; omega
  have d59 : (d = 59) = False := eq_false (by omega)
  have d70 : (d = 70) = False := eq_false (by omega)
  have dn68 : (dn = 68) = False := eq_false (by omega)
  have dn70 : (dn = 70) = False := eq_false (by omega)
  have dn79 : (dn = 79) = False := eq_false (by omega)
  have dl59 : (dl = 59) = False := eq_false (by omega)
  have dl68 : (dl = 68) = False := eq_false (by omega)
  have dl79 : (dl = 79) = False := eq_false (by omega)
  repeat (first | simp only [go_sem, hd', k0, k1, k2, hat, ho, Bool.not_true, Bool.not_false] | simp (disch := first | exact oa | fail) only [AX, Int.reduceToNat, Int.reducePow, Nat.reducePow, hd', k0, k1, k2, hat, ho, Bool.not_true, Bool.not_false] | refine wki ?_ | refine wqn ?_ | refine vpl 16 [] [([0, 1, 2, 3, 4, 5, 6, 7, 8, 10, 11, 12, 13, 14, 15, 16], some (9, [0, 1, 10, 11, 12, 13, 14, 15, 16])), ([], some (17, [0, 1])), ([18, 19], some (20, [1])), ([21, 22], some (23, [])), ([], none)] ?_)
  refine vp_loop_inv (fun s => s.tmp 0 = .ptr d g 0 /\ s.tmp 1 = .sv (.str (bs t)) /\ s.tmp 2 = .sv (.sl ql.length cs) /\ s.tmp 7 = .sv (.int .i64 (p : Int)) /\ s.tmp 8 = .sv (.bool false) /\ Kp TD d (st.enter [.ptr d g 0, .sv (.str (bs t)), .sv (.sl ql.length cs)]) s /\
      s.hob d g = some [.ref dn gn 1 0 es.length, .ref dl gl 1 0 es.length, .sv (.int .i64 D)] /\ s.obj dn gn = some (namC es) /\ s.obj dl gl = some (rowL es) /\ gn < s.gen dn /\ gl < s.gen dl /\
      ∃ i : Nat, s.tmp 10 = .sv (.int .i64 (i : Int)) /\ i <= ql.length /\ ((i = 0 /\ s.tmp 9 = .nil) \/ ∃ g3, 0 < i /\ g3 < s.gen 50 /\ s.tmp 9 = .ref 50 g3 3 0 i /\ s.obj 50 g3 = some (rvsC (ql.take i))))
    (fun s => match s.tmp 10 with | .sv (.int _ i) => ql.length - i.toNat | _ => 0) ⟨k0, k1, k2, rfl, rfl, (by repeat (first | exact Kp.refl | exact hu | refine Kp.trans ?_ hu | refine Kp.put ?_ | refine Kp.setH ?_ | refine Kp.newset ?_ | refine Kp.set rfl ?_ | refine Kp.set (by assumption) ?_ | refine Kp.new ?_ | refine Kp.grow rfl ?_ | refine Kp.frzd rfl ?_ | refine Kp.ins rfl ?_)), ho, hN, hL', gn1, gl1, 0, rfl, by omega, .inl ⟨rfl, rfl⟩⟩ ?_
  rintro s ⟨i0, i1, i2, i7, i8, iU, iH, iN, iL, ign, igl, i, i10, hi, hcase⟩
  by_cases hend : i = ql.length
  · subst hend
    rw [List.take_length] at hcase
    have f59 := dn59 s ign
    have f70 := dl70 s igl
    have hnl := namC_len es
    have hrl := rowL_len es
    have oT : (List.take p (namC es)).all SV.one = true := by rw [nam_take]; exact one_nam _
    have oD : (List.drop p (namC es)).all SV.one = true := by rw [nam_drop]; exact one_nam _
    have rT : (List.take p (rowL es)).all SV.one = true := by rw [rowL_take]; exact one_row _
    have rD : (List.drop p (rowL es)).all SV.one = true := by rw [rowL_drop]; exact one_row _
    have lT : (List.take p (namC es)).length = p := by rw [List.length_take, hnl]; omega
    have lR : (List.take p (rowL es)).length = p := by rw [List.length_take, hrl]; omega
    have tD : List.take (es.length - p) (List.drop p (namC es)) = List.drop p (namC es) := List.take_of_length_le (by rw [List.length_drop, hnl]; exact Nat.le_refl _)
    have tR : List.take (es.length - p) (List.drop p (rowL es)) = List.drop p (rowL es) := List.take_of_length_le (by rw [List.length_drop, hrl]; exact Nat.le_refl _)
    have hil : (insE es p (t, ql.length, rvsC ql)).length = es.length + 1 := insE_len hple
    have hNm : namC (insE es p (t, ql.length, rvsC ql)) = List.take p (namC es) ++ [.str (bs t)] ++ List.drop p (namC es) := by
      rw [nam_take, nam_drop]
      unfold insE namC
      rw [List.map_append, List.map_cons, List.append_assoc]
      rfl
    have hRm : rowL (insE es p (t, ql.length, rvsC ql)) = List.take p (rowL es) ++ [.sl ql.length (rvsC ql)] ++ List.drop p (rowL es) := by
      rw [rowL_take, rowL_drop]
      unfold insE rowL
      rw [List.map_append, List.map_cons, List.append_assoc]
      rfl
    have tz1 : p = 0 -> List.take p (namC es) = [] := fun e => by rw [e]; rfl
    have tz2 : p = 0 -> List.take p (rowL es) = [] := fun e => by rw [e]; rfl
    have dz1 : es.length <= p -> List.drop p (namC es) = [] := fun e => List.drop_of_length_le (by rw [hnl]; omega)
    have dz2 : es.length <= p -> List.drop p (rowL es) = [] := fun e => List.drop_of_length_le (by rw [hrl]; omega)
    have s0 : SameT (.sv (.sl 0 [])) (.sv (.sl 0 [])) (.sv (.sl 0 [])) = True := st_sl rfl
    rcases hcase with ⟨h0, i9⟩ | ⟨g3, h0, hg3, i9, iO⟩
    · have hq : ql = [] := List.eq_nil_of_length_eq_zero h0
      subst hq
      rcases Nat.eq_zero_or_pos p with hp0 | hp0
      all_goals rcases Nat.lt_or_ge p es.length with hpn | hpn
      all_goals
        repeat (first | simp only [go_sem, hd', i0, i1, i2, i7, i8, i10, i9, iH, iL, iN, hnl, hrl, f59, f70, d59, d70, dn68, dn70, dn79, dl59, dl68, dl79, oT, oD, rT, rD, lT, lR, tD, tR, N0, s0, true_or, or_true] | simp (disch := first | exact oa | fail) only [AX, Int.reduceToNat, Int.reducePow, Nat.reducePow, hd', i0, i1, i2, i7, i8, i10, i9, iH, iL, iN, hnl, hrl, f59, f70, d59, d70, dn68, dn70, dn79, dl59, dl68, dl79, oT, oD, rT, rD, lT, lR, tD, tR, N0, s0, true_or, or_true] | refine wki ?_ | refine wqn ?_ | refine vpl 16 [] [([0, 1, 2, 3, 4, 5, 6, 7, 8, 10, 11, 12, 13, 14, 15, 16], some (9, [0, 1, 10, 11, 12, 13, 14, 15, 16])), ([], some (17, [0, 1])), ([18, 19], some (20, [1])), ([21, 22], some (23, [])), ([], none)] ?_)
        refine k _ (keep_of (by repeat (first | exact Kp.refl | exact iU | refine Kp.trans ?_ iU | refine Kp.put ?_ | refine Kp.setH ?_ | refine Kp.newset ?_ | refine Kp.set rfl ?_ | refine Kp.set (by assumption) ?_ | refine Kp.new ?_ | refine Kp.grow rfl ?_ | refine Kp.frzd rfl ?_ | refine Kp.ins rfl ?_))) ⟨hd', .inr ⟨59, s.gen 59, 70, s.gen 70, .inr rfl, .inr rfl, ?_, ?_, ?_, ?_, ?_⟩⟩
        · simp only [gen_leave, gen_put, gen_new, gen_grow, gen_setH, gen_frzd, reduceIte, Nat.reduceEqDiff]
          omega
        · simp only [gen_leave, gen_put, gen_new, gen_grow, gen_setH, gen_frzd, reduceIte, Nat.reduceEqDiff]
          omega
        · simp only [hob_leave, hob_put, hob_setH, and_self, if_true]
          rw [hil]
          first | rfl | (rw [show p + 1 + (es.length - p) = es.length + 1 by omega]) | (rw [show p + 1 = es.length + 1 by omega]) | (rw [show 0 + 1 + (es.length - p) = es.length + 1 by omega]) | (rw [show es.length + 1 = 0 + 1 by omega])
        · simp only [obj_leave, obj_put, obj_setH, obj_grow, obj_new, obj_frzd, gen_put, gen_frzd, gen_setH, gen_grow, gen_new, and_self, reduceIte, Nat.reduceEqDiff, false_and, if_false, if_true]
          rw [hNm]
          all_goals first | rfl | (simp [tz1 hp0, dz1 hpn, rvsC_nil]; done) | (simp [tz1 hp0]; done) | (simp [dz1 hpn]; done) | simp
        · simp only [obj_leave, obj_put, obj_setH, obj_grow, obj_new, obj_frzd, gen_put, gen_frzd, gen_setH, gen_grow, gen_new, and_self, reduceIte, Nat.reduceEqDiff, false_and, if_false, if_true]
          rw [hRm]
          all_goals first | rfl | (simp [tz2 hp0, dz2 hpn, rvsC_nil]; done) | (simp [tz2 hp0, rvsC_nil]; done) | (simp [dz2 hpn, rvsC_nil]; done) | simp [rvsC_nil]
    · have hts : List.take (ql.length * 3) (rvsC ql) = rvsC ql := List.take_of_length_le (by rw [rvsC_len]; omega)
      rcases Nat.eq_zero_or_pos p with hp0 | hp0
      all_goals rcases Nat.lt_or_ge p es.length with hpn | hpn
      all_goals
        repeat (first | simp only [go_sem, hd', i0, i1, i2, i7, i8, i10, i9, iH, iL, iN, hnl, hrl, f59, f70, d59, d70, dn68, dn70, dn79, dl59, dl68, dl79, oT, oD, rT, rD, lT, lR, tD, tR, N0, s0, true_or, or_true, iO, hts, dn50, dl50] | simp (disch := first | exact oa | fail) only [AX, Int.reduceToNat, Int.reducePow, Nat.reducePow, hd', i0, i1, i2, i7, i8, i10, i9, iH, iL, iN, hnl, hrl, f59, f70, d59, d70, dn68, dn70, dn79, dl59, dl68, dl79, oT, oD, rT, rD, lT, lR, tD, tR, N0, s0, true_or, or_true, iO, hts, dn50, dl50] | refine wki ?_ | refine wqn ?_ | refine vpl 16 [] [([0, 1, 2, 3, 4, 5, 6, 7, 8, 10, 11, 12, 13, 14, 15, 16], some (9, [0, 1, 10, 11, 12, 13, 14, 15, 16])), ([], some (17, [0, 1])), ([18, 19], some (20, [1])), ([21, 22], some (23, [])), ([], none)] ?_)
        refine k _ (keep_of (by repeat (first | exact Kp.refl | exact iU | refine Kp.trans ?_ iU | refine Kp.put ?_ | refine Kp.setH ?_ | refine Kp.newset ?_ | refine Kp.set rfl ?_ | refine Kp.set (by assumption) ?_ | refine Kp.new ?_ | refine Kp.grow rfl ?_ | refine Kp.frzd rfl ?_ | refine Kp.ins rfl ?_))) ⟨hd', .inr ⟨59, s.gen 59, 70, s.gen 70, .inr rfl, .inr rfl, ?_, ?_, ?_, ?_, ?_⟩⟩
        · simp only [gen_leave, gen_put, gen_new, gen_grow, gen_setH, gen_frzd, reduceIte, Nat.reduceEqDiff]
          omega
        · simp only [gen_leave, gen_put, gen_new, gen_grow, gen_setH, gen_frzd, reduceIte, Nat.reduceEqDiff]
          omega
        · simp only [hob_leave, hob_put, hob_setH, and_self, if_true]
          rw [hil]
          first | rfl | (rw [show p + 1 + (es.length - p) = es.length + 1 by omega]) | (rw [show p + 1 = es.length + 1 by omega]) | (rw [show 0 + 1 + (es.length - p) = es.length + 1 by omega]) | (rw [show es.length + 1 = 0 + 1 by omega])
        · simp only [obj_leave, obj_put, obj_setH, obj_grow, obj_new, obj_frzd, gen_put, gen_frzd, gen_setH, gen_grow, gen_new, and_self, reduceIte, Nat.reduceEqDiff, false_and, if_false, if_true]
          rw [hNm]
          all_goals first | rfl | (simp [tz1 hp0, dz1 hpn, rvsC_nil]; done) | (simp [tz1 hp0]; done) | (simp [dz1 hpn]; done) | simp
        · simp only [obj_leave, obj_put, obj_setH, obj_grow, obj_new, obj_frzd, gen_put, gen_frzd, gen_setH, gen_grow, gen_new, and_self, reduceIte, Nat.reduceEqDiff, false_and, if_false, if_true]
          rw [hRm]
          all_goals first | rfl | (simp [tz2 hp0, dz2 hpn, rvsC_nil]; done) | (simp [tz2 hp0, rvsC_nil]; done) | (simp [dz2 hpn, rvsC_nil]; done) | simp [rvsC_nil]
  · obtain ⟨x, n, dd, rest, hxt, hA⟩ := row_at (i := i) hrow (by omega)
    have a := ref2_Norm hA (by omega)
    have hsn := rvs_snocA (l := ql) (i := i) (by omega)
    have hrl := rvsC_len (ql.take i)
    rw [List.length_take, Nat.min_eq_left (by omega)] at hrl
    rcases hcase with ⟨h0, i9⟩ | ⟨g3, h0, hg3, i9, iO⟩
    · subst h0
      rw [List.take_zero, rvsC_nil, List.nil_append] at hsn
      rw [Nat.zero_mul, List.drop_zero] at hxt
      subst hxt
      repeat (first | simp only [go_sem, hd', i0, i1, i2, i7, i8, i10, i9, iH, iL, N0, rvC] | simp (disch := first | exact oa | fail) only [AX, Int.reduceToNat, Int.reducePow, Nat.reducePow, hd', i0, i1, i2, i7, i8, i10, i9, iH, iL, N0, rvC] | refine wki ?_ | refine wqn ?_ | refine vpl 16 [] [([0, 1, 2, 3, 4, 5, 6, 7, 8, 10, 11, 12, 13, 14, 15, 16], some (9, [0, 1, 10, 11, 12, 13, 14, 15, 16])), ([], some (17, [0, 1])), ([18, 19], some (20, [1])), ([21, 22], some (23, [])), ([], none)] ?_ | refine vf_of (by first | exact a) ?_)
      exact ⟨⟨(by repeat (first | exact Kp.refl | exact iU | refine Kp.trans ?_ iU | refine Kp.put ?_ | refine Kp.setH ?_ | refine Kp.newset ?_ | refine Kp.set rfl ?_ | refine Kp.set (by assumption) ?_ | refine Kp.new ?_ | refine Kp.grow rfl ?_ | refine Kp.frzd rfl ?_ | refine Kp.ins rfl ?_)), iN, ign, igl, 1, rfl, by omega, .inr ⟨s.gen 50, by omega, by omega, rfl, by rw [if_pos rfl, <- hsn]; rfl⟩⟩, by omega⟩
    · unfold rvC at hsn
      repeat (first | simp only [go_sem, hd', i0, i1, i2, i7, i8, i10, i9, iH, iL, iO, hxt, hlen, N0, hsn, hrl, rvC] | simp (disch := first | exact oa | fail) only [AX, Int.reduceToNat, Int.reducePow, Nat.reducePow, hd', i0, i1, i2, i7, i8, i10, i9, iH, iL, iO, hxt, hlen, N0, hsn, hrl, rvC] | refine wki ?_ | refine wqn ?_ | refine vpl 16 [] [([0, 1, 2, 3, 4, 5, 6, 7, 8, 10, 11, 12, 13, 14, 15, 16], some (9, [0, 1, 10, 11, 12, 13, 14, 15, 16])), ([], some (17, [0, 1])), ([18, 19], some (20, [1])), ([21, 22], some (23, [])), ([], none)] ?_ | refine vf_of (by first | exact a) ?_)
      exact ⟨⟨(by repeat (first | exact Kp.refl | exact iU | refine Kp.trans ?_ iU | refine Kp.put ?_ | refine Kp.setH ?_ | refine Kp.newset ?_ | refine Kp.set rfl ?_ | refine Kp.set (by assumption) ?_ | refine Kp.new ?_ | refine Kp.grow rfl ?_ | refine Kp.frzd rfl ?_ | refine Kp.ins rfl ?_)), iN, ign, igl, i + 1, rfl, by omega, .inr ⟨g3, by omega, hg3, rfl, by rw [if_pos rfl]⟩⟩, by omega⟩
end
end Go.Proofs.YticocojomlfhgaaGreatDoor
set_option maxHeartbeats 4000000
namespace Go.Proofs.YticocojomlfhgaaGreatDoor
open Go.Ev
section
variable {ops : Array Oper} {l : List Oper} {dst : Option Nat} {st : St} {Q : St -> Prop} {d g p : Nat} {es : List Ent} {t : List UInt8} {D : Int}
theorem doc_Drop_none (hp : PosAt es t p) (hl : es.length <= 100000) (hat : isAt es t p = false) (h : SessD st d g es D)
    (k : ∀ st', KeepT TD d st st' -> SessD st' d g es D -> WO CX false ops l (st'.putO dst (.sv (.int .i64 6))) Q) :
    WN CX ops l dst st Q 27 [.ptr d g 0, .sv (.str (bs t))] := by
  have hd' : 2000000 <= d := h.ob
  refine wni Tryz.f27 ?_; unfold Tryz.f27; simp only [Option.get!_some]
  repeat (first | simp only [go_sem, hd'] | simp (disch := first | exact oa | fail) only [AX, Int.reduceToNat, Int.reducePow, Nat.reducePow, hd'] | refine wki ?_ | refine wqn ?_ | refine vpl 4 [] [([0, 2, 3, 4, 5, 6, 7, 9, 10, 11, 12, 13, 14, 15], some (1, [0, 2, 3, 4, 5, 6, 7, 9, 10, 11, 12, 13, 14, 15])), ([], some (8, [0, 9, 10, 11, 12, 13, 14, 15])), ([], some (16, [0])), ([17, 18], some (19, [])), ([], none)] ?_ | refine vpl 5 [] [([0, 2, 3, 4, 5, 6, 7, 9, 10, 11, 12, 13, 14, 15], some (1, [0, 2, 3, 4, 5, 6, 7, 9, 10, 11, 12, 13, 14, 15])), ([], some (8, [0, 9, 10, 11, 12, 13, 14, 15])), ([], some (16, [0])), ([17, 18], some (19, [])), ([], none)] ?_)
  refine doc_at hp hl (h.same rfl rfl rfl) ?_
  intro s1 hk
  have k0 : s1.tmp 0 = .ptr d g 0 := hk.tmp 0
  have hs0 : SessD s1 d g es D := h.same (hk.hob.trans rfl) (funext fun a => funext fun b => (hk.obj a b).trans rfl) (hk.gen.trans rfl)
  have hu := (hk.keep (T := TD) (d := d)).kp
  repeat (first | simp only [go_sem, hd', k0, hat, Bool.not_false] | simp (disch := first | exact oa | fail) only [AX, Int.reduceToNat, Int.reducePow, Nat.reducePow, hd', k0, hat, Bool.not_false] | refine wki ?_ | refine wqn ?_ | refine vpl 4 [] [([0, 2, 3, 4, 5, 6, 7, 9, 10, 11, 12, 13, 14, 15], some (1, [0, 2, 3, 4, 5, 6, 7, 9, 10, 11, 12, 13, 14, 15])), ([], some (8, [0, 9, 10, 11, 12, 13, 14, 15])), ([], some (16, [0])), ([17, 18], some (19, [])), ([], none)] ?_ | refine vpl 5 [] [([0, 2, 3, 4, 5, 6, 7, 9, 10, 11, 12, 13, 14, 15], some (1, [0, 2, 3, 4, 5, 6, 7, 9, 10, 11, 12, 13, 14, 15])), ([], some (8, [0, 9, 10, 11, 12, 13, 14, 15])), ([], some (16, [0])), ([17, 18], some (19, [])), ([], none)] ?_)
  exact k _ (keep_of (by repeat (first | exact Kp.refl | exact hu | refine Kp.trans ?_ hu | refine Kp.put ?_ | refine Kp.setH ?_ | refine Kp.newset ?_ | refine Kp.set rfl ?_ | refine Kp.set (by assumption) ?_ | refine Kp.new ?_ | refine Kp.grow rfl ?_ | refine Kp.frzd rfl ?_ | refine Kp.ins rfl ?_))) (hs0.same rfl rfl rfl)
theorem doc_Drop_at (hp : PosAt es t p) (hl : es.length <= 100000) (hat : isAt es t p = true) (h : SessD st d g es D)
    (k : ∀ st', KeepT TD d st st' -> SessD st' d g (es.take p ++ es.drop (p + 1)) D -> WO CX false ops l (st'.putO dst (.sv (.int .i64 0))) Q) :
    WN CX ops l dst st Q 27 [.ptr d g 0, .sv (.str (bs t))] := by
  have hd' : 2000000 <= d := h.ob
  have hplt : p < es.length := by
    have h2 := hat
    unfold isAt at h2
    rw [Bool.and_eq_true] at h2
    exact of_decide_eq_true h2.1
  refine wni Tryz.f27 ?_; unfold Tryz.f27; simp only [Option.get!_some]
  repeat (first | simp only [go_sem, hd'] | simp (disch := first | exact oa | fail) only [AX, Int.reduceToNat, Int.reducePow, Nat.reducePow, hd'] | refine wki ?_ | refine wqn ?_ | refine vpl 4 [] [([0, 2, 3, 4, 5, 6, 7, 9, 10, 11, 12, 13, 14, 15], some (1, [0, 2, 3, 4, 5, 6, 7, 9, 10, 11, 12, 13, 14, 15])), ([], some (8, [0, 9, 10, 11, 12, 13, 14, 15])), ([], some (16, [0])), ([17, 18], some (19, [])), ([], none)] ?_ | refine vpl 5 [] [([0, 2, 3, 4, 5, 6, 7, 9, 10, 11, 12, 13, 14, 15], some (1, [0, 2, 3, 4, 5, 6, 7, 9, 10, 11, 12, 13, 14, 15])), ([], some (8, [0, 9, 10, 11, 12, 13, 14, 15])), ([], some (16, [0])), ([17, 18], some (19, [])), ([], none)] ?_)
  refine doc_at hp hl (h.same rfl rfl rfl) ?_
  intro s hk
  have i0 : s.tmp 0 = .ptr d g 0 := hk.tmp 0
  have hs0 : SessD s d g es D := h.same (hk.hob.trans rfl) (funext fun a => funext fun b => (hk.obj a b).trans rfl) (hk.gen.trans rfl)
  have hu := (hk.keep (T := TD) (d := d)).kp
  have iU : Kp TD d (st.enter [.ptr d g 0, .sv (.str (bs t))]) s := (by repeat (first | exact Kp.refl | exact hu | refine Kp.trans ?_ hu | refine Kp.put ?_ | refine Kp.setH ?_ | refine Kp.newset ?_ | refine Kp.set rfl ?_ | refine Kp.set (by assumption) ?_ | refine Kp.new ?_ | refine Kp.grow rfl ?_ | refine Kp.frzd rfl ?_ | refine Kp.ins rfl ?_))
  clear hk h
  obtain ⟨_, hrw⟩ := hs0
  rcases hrw with ⟨rfl, ho⟩ | ⟨dn, gn, dl, gl, en, el, ign, igl, iH, iN, iL⟩
  · simp at hplt
  have tdn : TD dn = true := by rcases en with rfl | rfl <;> rfl
  have tdl : TD dl = true := by rcases el with rfl | rfl <;> rfl
  have f16 : (dn = 16 /\ gn = s.gen 16) = False := eq_false fun e => by rw [e.1] at ign; omega
  have f35 : (dl = 35 /\ gl = s.gen 35) = False := eq_false fun e => by rw [e.1] at igl; omega
  have d16 : (d = 16) = False := eq_false (by omega)
  have d35 : (d = 35) = False := eq_false (by omega)
  have dn35 : (dn = 35) = False := eq_false (by omega)
  have dl16 : (dl = 16) = False := eq_false (by omega)
  have hnl := namC_len es
  have hrl := rowL_len es
  have oT : (List.take p (namC es)).all SV.one = true := by rw [nam_take]; exact one_nam _
  have oD : (List.drop (p + 1) (namC es)).all SV.one = true := by rw [nam_drop]; exact one_nam _
  have rT : (List.take p (rowL es)).all SV.one = true := by rw [rowL_take]; exact one_row _
  have rD : (List.drop (p + 1) (rowL es)).all SV.one = true := by rw [rowL_drop]; exact one_row _
  have lT : (List.take p (namC es)).length = p := by rw [List.length_take, hnl]; omega
  have lR : (List.take p (rowL es)).length = p := by rw [List.length_take, hrl]; omega
  have tD : List.take (es.length - (p + 1)) (List.drop (p + 1) (namC es)) = List.drop (p + 1) (namC es) := List.take_of_length_le (by rw [List.length_drop, hnl]; exact Nat.le_refl _)
  have tR : List.take (es.length - (p + 1)) (List.drop (p + 1) (rowL es)) = List.drop (p + 1) (rowL es) := List.take_of_length_le (by rw [List.length_drop, hrl]; exact Nat.le_refl _)
  have hNm : namC (es.take p ++ es.drop (p + 1)) = List.take p (namC es) ++ List.drop (p + 1) (namC es) := by
    rw [nam_take, nam_drop]
    unfold namC
    rw [List.map_append]
  have hRm : rowL (es.take p ++ es.drop (p + 1)) = List.take p (rowL es) ++ List.drop (p + 1) (rowL es) := by
    rw [rowL_take, rowL_drop]
    unfold rowL
    rw [List.map_append]
  have hlen : (es.take p ++ es.drop (p + 1)).length = es.length - 1 := by rw [List.length_append, List.length_take, List.length_drop]; omega
  have tz1 : p = 0 -> List.take p (namC es) = [] := fun e => by rw [e]; rfl
  have tz2 : p = 0 -> List.take p (rowL es) = [] := fun e => by rw [e]; rfl
  have dz1 : es.length <= p + 1 -> List.drop (p + 1) (namC es) = [] := fun e => List.drop_of_length_le (by rw [hnl]; omega)
  have dz2 : es.length <= p + 1 -> List.drop (p + 1) (rowL es) = [] := fun e => List.drop_of_length_le (by rw [hrl]; omega)
  have s0 : SameT (.sv (.sl 0 [])) (.sv (.sl 0 [])) (.sv (.sl 0 [])) = True := st_sl rfl
  rcases Nat.eq_zero_or_pos p with hp0 | hp0
  all_goals rcases Nat.lt_or_ge (p + 1) es.length with hpn | hpn
  all_goals
    repeat (first | simp only [go_sem, hd', i0, hat, iH, iL, iN, hnl, hrl, f16, f35, d16, d35, dn35, dl16, oT, oD, rT, rD, lT, lR, tD, tR, N0, s0, true_or, or_true, Bool.not_true] | simp (disch := first | exact oa | fail) only [AX, Int.reduceToNat, Int.reducePow, Nat.reducePow, hd', i0, hat, iH, iL, iN, hnl, hrl, f16, f35, d16, d35, dn35, dl16, oT, oD, rT, rD, lT, lR, tD, tR, N0, s0, true_or, or_true, Bool.not_true] | refine wki ?_ | refine wqn ?_ | refine vpl 4 [] [([0, 2, 3, 4, 5, 6, 7, 9, 10, 11, 12, 13, 14, 15], some (1, [0, 2, 3, 4, 5, 6, 7, 9, 10, 11, 12, 13, 14, 15])), ([], some (8, [0, 9, 10, 11, 12, 13, 14, 15])), ([], some (16, [0])), ([17, 18], some (19, [])), ([], none)] ?_ | refine vpl 5 [] [([0, 2, 3, 4, 5, 6, 7, 9, 10, 11, 12, 13, 14, 15], some (1, [0, 2, 3, 4, 5, 6, 7, 9, 10, 11, 12, 13, 14, 15])), ([], some (8, [0, 9, 10, 11, 12, 13, 14, 15])), ([], some (16, [0])), ([17, 18], some (19, [])), ([], none)] ?_)
    refine k _ (keep_of (by repeat (first | exact Kp.refl | exact iU | refine Kp.trans ?_ iU | refine Kp.put ?_ | refine Kp.setH ?_ | refine Kp.newset ?_ | refine Kp.set rfl ?_ | refine Kp.set (by assumption) ?_ | refine Kp.new ?_ | refine Kp.grow rfl ?_ | refine Kp.frzd rfl ?_ | refine Kp.ins rfl ?_))) ⟨hd', .inr ⟨16, s.gen 16, 35, s.gen 35, .inl rfl, .inl rfl, ?_, ?_, ?_, ?_, ?_⟩⟩
    · simp only [gen_leave, gen_put, gen_new, gen_grow, gen_setH, reduceIte, Nat.reduceEqDiff]
      omega
    · simp only [gen_leave, gen_put, gen_new, gen_grow, gen_setH, reduceIte, Nat.reduceEqDiff]
      omega
    · simp only [hob_leave, hob_put, hob_setH, and_self, if_true]
      rw [hlen]
      first | rfl | (rw [show p + (es.length - (p + 1)) = es.length - 1 by omega]) | (rw [show es.length - (p + 1) = es.length - 1 by omega]) | (rw [show p = es.length - 1 by omega]) | (rw [show es.length - 1 = 0 by omega])
    · simp only [obj_leave, obj_put, obj_setH, obj_grow, obj_new, gen_put, and_self, reduceIte, Nat.reduceEqDiff, false_and, if_false, if_true]
      rw [hNm]
      all_goals first | rfl | (simp [tz1 hp0, dz1 hpn]; done) | (simp [tz1 hp0]; done) | (simp [dz1 hpn]; done) | simp
    · simp only [obj_leave, obj_put, obj_setH, obj_grow, obj_new, gen_put, gen_setH, gen_grow, gen_new, and_self, reduceIte, Nat.reduceEqDiff, false_and, if_false, if_true]
      rw [hRm]
      all_goals first | rfl | (simp [tz2 hp0, dz2 hpn]; done) | (simp [tz2 hp0]; done) | (simp [dz2 hpn]; done) | simp
end
end Go.Proofs.YticocojomlfhgaaGreatDoor
namespace Go.Proofs.YticocojomlfhgaaGreatDoor
open Go.Ev
def setP (es : List Ent) (t : List UInt8) (p m : Nat) (rs : List SV) : Int × List Ent :=
  if nameP t = false then (6, es) else if 256 < m \/ (isAt es t p = false /\ 16 <= es.length) then (7, es) else if isAt es t p = true then (0, es.set p (t, m, rs)) else (0, insE es p (t, m, rs))
def dropP (es : List Ent) (t : List UInt8) (p : Nat) : Int × List Ent := if isAt es t p = true then (0, es.take p ++ es.drop (p + 1)) else (6, es)
theorem at_lt {es : List Ent} {t : List UInt8} {p : Nat} (h : isAt es t p = true) : p < es.length := by
  unfold isAt at h
  rw [Bool.and_eq_true] at h
  exact of_decide_eq_true h.1
theorem setP_ok {es : List Ent} {t : List UInt8} {p m : Nat} {rs : List SV} (hs : Srt es) (hl : es.length <= 16) (hp : PosAt es t p) : Srt (setP es t p m rs).2 /\ (setP es t p m rs).2.length <= 16 := by
  unfold setP
  split
  · exact ⟨hs, hl⟩
  · split
    · exact ⟨hs, hl⟩
    · rename_i h7
      split
      · rename_i hat
        exact ⟨srt_set hs (name_at hat) (at_lt hat), by rw [List.length_set]; exact hl⟩
      · rename_i hat
        have hat : isAt es t p = false := by simpa using hat
        refine ⟨srt_ins hs hp hat, ?_⟩
        show (insE es p (t, m, rs)).length <= 16
        rw [insE_len hp.le]
        have : ¬ 16 <= es.length := fun h => h7 (.inr ⟨hat, h⟩)
        omega
theorem dropP_ok {es : List Ent} {t : List UInt8} {p : Nat} (hs : Srt es) (hl : es.length <= 16) : Srt (dropP es t p).2 /\ (dropP es t p).2.length <= 16 := by
  unfold dropP
  split
  · rename_i hat
    have := at_lt hat
    exact ⟨srt_drop hs p, by show (es.take p ++ es.drop (p + 1)).length <= 16; rw [List.length_append, List.length_take, List.length_drop]; omega⟩
  · exact ⟨hs, hl⟩
section
variable {ops : Array Oper} {l : List Oper} {dst : Option Nat} {st : St} {Q : St -> Prop} {d g p : Nat} {es : List Ent} {t : List UInt8} {D : Int}
theorem sess_Set_is {m : Nat} {cs rs : List SV} (ht : t.length <= 1048576) (h16 : es.length <= 16) (hp : PosAt es t p) (hc : m <= 256 -> Go.Ev.Fn CX 33 [.sl m cs] (.sl m rs)) (h : SessR st d g es D)
    (k : ∀ st', Keep d st st' -> SessR st' d g (setP es t p m rs).2 D -> WO CX false ops l (st'.putO dst (.sv (.int .i64 (setP es t p m rs).1))) Q) :
    WN CX ops l dst st Q 11 [.ptr d g 0, .sv (.str (bs t)), .sv (.sl m cs)] := by
  unfold setP at k
  cases hn : nameP t with
  | false =>
    rw [hn, if_pos rfl] at k
    exact sess_Set_name ht hn h k
  | true =>
    rw [hn, if_neg (by simp)] at k
    by_cases hm : 256 < m
    · rw [if_pos (.inl hm)] at k
      exact sess_Set_long ht hn hp (by omega) hm h k
    · cases hat : isAt es t p with
      | true =>
        rw [hat, if_neg (by simp [hm]), if_pos rfl] at k
        exact sess_Set_at ht hn hp (by omega) (by omega) hat (hc (by omega)) (.inl rfl) h k
      | false =>
        rw [hat] at k
        by_cases hf : es.length < 16
        · rw [if_neg (by simp [hm]; omega), if_neg (by simp)] at k
          exact sess_Set_new ht hn hp hat hf (by omega) (hc (by omega)) (.inl rfl) h k
        · rw [if_pos (.inr ⟨rfl, by omega⟩)] at k
          exact sess_Set_full ht hn hp (by omega) (by omega) hat (.inl rfl) h k
theorem doc_Set_is {ql : List Rat} {cs : List SV} {L : Nat} (hrow : RowC cs ql L) (hL1 : 1 <= L) (hL : L <= 10000) (h16 : es.length <= 16) (hp : PosAt es t p) (h : SessD st d g es D)
    (k : ∀ st', KeepT TD d st st' -> SessD st' d g (setP es t p ql.length (rvsC ql)).2 D -> WO CX false ops l (st'.putO dst (.sv (.int .i64 (setP es t p ql.length (rvsC ql)).1))) Q) :
    WN CX ops l dst st Q 26 [.ptr d g 0, .sv (.str (bs t)), .sv (.sl ql.length cs)] := by
  unfold setP at k
  cases hn : nameP t with
  | false =>
    rw [hn, if_pos rfl] at k
    exact doc_Set_name hn h k
  | true =>
    rw [hn, if_neg (by simp)] at k
    by_cases hlim : 256 < ql.length \/ (isAt es t p = false /\ 16 <= es.length)
    · rw [if_pos hlim] at k
      exact doc_Set_lim hn hp (by omega) hlim h k
    · rw [if_neg hlim] at k
      have hm : ql.length <= 256 := by
        have : ¬ 256 < ql.length := fun e => hlim (.inl e)
        omega
      cases hat : isAt es t p with
      | true =>
        rw [hat, if_pos rfl] at k
        exact doc_Set_at hrow hL1 hL hm hn hp (by omega) hat h k
      | false =>
        rw [hat, if_neg (by simp)] at k
        have hr : es.length < 16 := by
          have : ¬ 16 <= es.length := fun e => hlim (.inr ⟨hat, e⟩)
          omega
        exact doc_Set_new hrow hL1 hL hm hn hp (by omega) hat hr h k
theorem sess_Drop_is (h16 : es.length <= 16) (hp : PosAt es t p) (h : SessR st d g es D)
    (k : ∀ st', Keep d st st' -> SessR st' d g (dropP es t p).2 D -> WO CX false ops l (st'.putO dst (.sv (.int .i64 (dropP es t p).1))) Q) :
    WN CX ops l dst st Q 19 [.ptr d g 0, .sv (.str (bs t))] := by
  unfold dropP at k
  cases hat : isAt es t p with
  | true =>
    rw [hat, if_pos rfl] at k
    exact sess_Drop_at hp (by omega) hat h k
  | false =>
    rw [hat, if_neg (by simp)] at k
    exact sess_Drop_none hp (by omega) hat h k
theorem doc_Drop_is (h16 : es.length <= 16) (hp : PosAt es t p) (h : SessD st d g es D)
    (k : ∀ st', KeepT TD d st st' -> SessD st' d g (dropP es t p).2 D -> WO CX false ops l (st'.putO dst (.sv (.int .i64 (dropP es t p).1))) Q) :
    WN CX ops l dst st Q 27 [.ptr d g 0, .sv (.str (bs t))] := by
  unfold dropP at k
  cases hat : isAt es t p with
  | true =>
    rw [hat, if_pos rfl] at k
    exact doc_Drop_at hp (by omega) hat h k
  | false =>
    rw [hat, if_neg (by simp)] at k
    exact doc_Drop_none hp (by omega) hat h k
end
end Go.Proofs.YticocojomlfhgaaGreatDoor
namespace Go.Ev
theorem natD_append (a b : List UInt8) : natD (a ++ b) = natD a * 10 ^ b.length + natD b := by
  have key : ∀ (b : List UInt8) (x : Nat), b.foldl (fun a b => a * 10 + (b.toNat - 48)) x = x * 10 ^ b.length + b.foldl (fun a b => a * 10 + (b.toNat - 48)) 0 := by
    intro b
    induction b with
    | nil => intro x; simp
    | cons c b ih =>
      intro x
      rw [List.foldl_cons, List.foldl_cons, ih, ih (0 * 10 + (c.toNat - 48)), List.length_cons, Nat.pow_succ, Nat.add_mul, Nat.mul_assoc, Nat.mul_comm 10, Nat.zero_mul, Nat.zero_add, Nat.add_assoc]
  unfold natD
  rw [List.foldl_append, key]
theorem natP_good {l : List UInt8} (h0 : l ≠ []) (h1 : l.length <= 400) (h2 : digs l = true) : natP l = some (natD l) := by
  unfold natP
  rw [if_neg]
  rintro (h | h | h)
  · exact h0 h
  · omega
  · rw [h2] at h; cases h
theorem natP_bad {l : List UInt8} (h2 : digs l = false) : natP l = none := by
  unfold natP
  rw [if_pos (.inr (.inr h2))]
theorem natP_nil : natP [] = none := rfl
theorem digs_false {l : List UInt8} {x : UInt8} (h : x ∈ l) (hx : dig x = false) : digs l = false := by
  cases e : digs l with
  | false => rfl
  | true =>
    have := List.all_eq_true.1 e x h
    rw [hx] at this
    cases this
theorem digs_mem {l : List UInt8} {x : UInt8} (h : digs l = true) (hx : x ∈ l) : dig x = true := List.all_eq_true.1 h x hx
theorem digs_app (a b : List UInt8) : digs (a ++ b) = (digs a && digs b) := by unfold digs; rw [List.all_append]
theorem digs_tw (l : List UInt8) : digs (l.takeWhile dig) = true := List.all_eq_true.2 fun x hx => by
  induction l with
  | nil => cases hx
  | cons y l ih =>
    rw [List.takeWhile_cons] at hx
    split at hx
    · rename_i hy
      rcases List.mem_cons.1 hx with rfl | hx
      · exact hy
      · exact ih hx
    · cases hx
theorem dw_head {l : List UInt8} {c : UInt8} {y : List UInt8} (h : l.dropWhile dig = c :: y) : dig c = false := by
  have h2 := List.head_dropWhile_not dig (l := l) (w := by rw [h]; simp)
  simp only [h, List.head_cons] at h2
  simpa using h2
theorem dig_ne {x c : UInt8} (h : dig x = true) (hc : dig c = false) : x ≠ c := fun e => by rw [e, hc] at h; cases h
theorem d46 : dig 46 = false := rfl
theorem d47 : dig 47 = false := rfl
theorem cut_at {u : List UInt8} {c : UInt8} (h : u.contains c = true) : u = frontL c u ++ c :: backL c u := by
  unfold frontL backL
  induction u with
  | nil => cases h
  | cons x u ih =>
    rw [List.takeWhile_cons, List.dropWhile_cons]
    by_cases hx : x = c
    · subst hx
      simp
    · have hx' : (x != c) = true := by simpa using hx
      rw [hx']
      simp only [if_true]
      have hu : u.contains c = true := by
        have := List.contains_iff_mem.1 h
        rcases List.mem_cons.1 this with e | e
        · exact absurd e.symm hx
        · exact List.contains_iff_mem.2 e
      rw [List.cons_append, <- ih hu]
theorem front_sub {u : List UInt8} {c x : UInt8} (h : u.contains c = true) (hx : x ∈ u) (hxc : x ≠ c) : x ∈ frontL c u ++ backL c u := by
  rw [cut_at h] at hx
  rcases List.mem_append.1 hx with h | h
  · exact List.mem_append_left _ h
  · rcases List.mem_cons.1 h with e | h
    · exact absurd e hxc
    · exact List.mem_append_right _ h
def docP (l : List UInt8) : Option Rat :=
  if (absP l).takeWhile dig = [] then none else
  match (absP l).dropWhile dig with
  | [] => some (mkRat (sgn (negP l) (natD ((absP l).takeWhile dig))) 1)
  | c :: y => if y = [] \/ digs y = false \/ (c ≠ 46 /\ c ≠ 47) then none else
    if c = 47 then (if natD y = 0 then none else some (mkRat (sgn (negP l) (natD ((absP l).takeWhile dig))) (natD y)))
    else some (mkRat (sgn (negP l) (natD ((absP l).takeWhile dig) * 10 ^ y.length + natD y)) (10 ^ y.length))
theorem doc_dec {l : List UInt8} (hl : l.length <= 400) : decP l = docP l := by
  unfold decP docP
  have hu : (absP l).length <= 400 := by
    unfold absP
    split
    · rw [List.length_tail]; omega
    · exact hl
  generalize absP l = u at *
  generalize negP l = ng
  have hw := digs_tw u
  have hsplit : u = u.takeWhile dig ++ u.dropWhile dig := (List.takeWhile_append_dropWhile).symm
  have hwl : (u.takeWhile dig).length <= u.length := (List.takeWhile_sublist dig).length_le
  have bad46 : ∀ x ∈ u, dig x = false -> x ≠ 46 -> u.contains 46 = true -> (match natP (backL 46 u), natP (frontL 46 u ++ backL 46 u) with
    | some _, some n => some (mkRat (sgn ng n) (10 ^ (backL 46 u).length))
    | _, _ => none) = none := by
    intro x hx hd h46 hc
    rw [natP_bad (digs_false (front_sub hc hx h46) hd)]
    split
    · rename_i h; cases h
    · rfl
  by_cases hw0 : u.takeWhile dig = []
  · rw [if_pos hw0]
    cases u with
    | nil => rfl
    | cons x u' =>
      have hx : dig x = false := by
        cases e : dig x with
        | false => rfl
        | true => rw [List.takeWhile_cons, e] at hw0; simp at hw0
      split
      · rename_i hc
        split
        · rfl
        · rename_i hf
          by_cases hx46 : x = 46
          · exfalso
            subst hx46
            exact hf rfl
          · exact bad46 x List.mem_cons_self hx hx46 hc
      · have : natP (frontL 47 (x :: u')) = none := by
          by_cases hx47 : x = 47
          · subst hx47; rfl
          · refine natP_bad (digs_false (x := x) ?_ hx)
            unfold frontL
            rw [List.takeWhile_cons, show (x != 47) = true by simpa using hx47]
            exact List.mem_cons_self
        rw [this]
  · rw [if_neg hw0]
    cases hr : u.dropWhile dig with
    | nil =>
      rw [hr, List.append_nil] at hsplit
      have hud : digs u = true := by rw [hsplit]; exact hw
      have h46 : u.contains 46 = false := contains_false fun b hb => dig_ne (digs_mem hud hb) d46
      have h47 : u.contains 47 = false := contains_false fun b hb => dig_ne (digs_mem hud hb) d47
      have hf := (front_all (c := 47) (a := u) fun b hb => dig_ne (digs_mem hud hb) d47).1
      rw [h46, h47, hf, if_neg (by simp), if_neg (by simp), <- hsplit, natP_good (by rw [hsplit]; exact hw0) hu hud]
      rfl
    | cons c y =>
      have hc := dw_head hr
      rw [hr] at hsplit
      generalize hW : u.takeWhile dig = w at *
      have hyl : w.length + (y.length + 1) <= 400 := by
        have := congrArg List.length hsplit
        rw [List.length_append, List.length_cons] at this
        omega
      have hcu : c ∈ u := by rw [hsplit]; exact List.mem_append_right _ List.mem_cons_self
      dsimp only
      by_cases c46 : c = 46
      · subst c46
        have hcon : u.contains 46 = true := List.contains_iff_mem.2 hcu
        obtain ⟨hf, hb⟩ := front_back (c := 46) (a := w) (b := y) fun x hx => dig_ne (digs_mem hw hx) d46
        rw [<- hsplit] at hf hb
        rw [if_pos hcon, hf, hb, if_neg hw0]
        by_cases hy0 : y = []
        · rw [if_pos (.inl hy0), hy0, natP_nil]
        · cases hyd : digs y with
          | false => rw [if_pos (.inr (.inl rfl)), natP_bad hyd]
          | true =>
            rw [natP_good hy0 (by omega) hyd, natP_good (by simp [hw0]) (by rw [List.length_append]; omega) (by rw [digs_app, hw, hyd]; rfl), if_neg (by
              rintro (h | h | h)
              · exact hy0 h
              · cases h
              · exact h.1 rfl), if_neg (by decide), natD_append]
      · by_cases c47 : c = 47
        · subst c47
          cases hcon : u.contains 46 with
          | true =>
            have hy46 : digs y = false := by
              have := List.contains_iff_mem.1 hcon
              rw [hsplit] at this
              rcases List.mem_append.1 this with h | h
              · exact absurd rfl (dig_ne (digs_mem hw h) d46)
              · rcases List.mem_cons.1 h with e | h
                · cases e
                · exact digs_false h d46
            rw [if_pos (show y = [] \/ digs y = false \/ ((47 : UInt8) ≠ 46 /\ (47 : UInt8) ≠ 47) from .inr (.inl hy46))]
            have hb := bad46 47 hcu d47 (by decide) hcon
            simp only [if_true]
            split
            · rfl
            · exact hb
          | false =>
            obtain ⟨hf, hb⟩ := front_back (c := 47) (a := w) (b := y) fun x hx => dig_ne (digs_mem hw hx) d47
            rw [<- hsplit] at hf hb
            have h47 : u.contains 47 = true := List.contains_iff_mem.2 hcu
            rw [if_neg (by simp), hf, if_pos h47, hb, natP_good hw0 (by omega) hw]
            by_cases hy0 : y = []
            · rw [if_pos (.inl hy0), hy0, natP_nil]
            · cases hyd : digs y with
              | false => rw [if_pos (.inr (.inl rfl)), natP_bad hyd]
              | true =>
                rw [natP_good hy0 (by omega) hyd, if_neg (by
                  rintro (h | h | h)
                  · exact hy0 h
                  · cases h
                  · exact h.2 rfl), if_pos rfl]
        · rw [if_pos (show y = [] \/ digs y = false \/ (c ≠ 46 /\ c ≠ 47) from .inr (.inr ⟨c46, c47⟩))]
          cases hcon : u.contains 46 with
          | true =>
            have hb := bad46 c hcu hc c46 hcon
            simp only [if_true]
            split
            · rfl
            · exact hb
          | false =>
            rw [if_neg (by simp)]
            have : natP (frontL 47 u) = none := by
              refine natP_bad (digs_false (x := c) ?_ hc)
              rw [hsplit]
              unfold frontL
              have key : ∀ w : List UInt8, digs w = true -> c ∈ (w ++ c :: y).takeWhile (· != 47) := by
                intro w
                induction w with
                | nil =>
                  intro _
                  rw [List.nil_append, List.takeWhile_cons, show (c != 47) = true by simpa using c47]
                  exact List.mem_cons_self
                | cons x w ih =>
                  intro hxw
                  have hx : dig x = true := digs_mem hxw List.mem_cons_self
                  rw [List.cons_append, List.takeWhile_cons, show (x != 47) = true by simpa using dig_ne hx d47]
                  simp only [if_true]
                  exact List.mem_cons_of_mem _ (ih (List.all_eq_true.2 fun z hz => digs_mem hxw (List.mem_cons_of_mem _ hz)))
              exact key w hw
            rw [this]
def tailPM (l : List UInt8) : List UInt8 := if (l.head? == some 45) || (l.head? == some 43) then l.tail else l
def docE (l : List UInt8) : Option Int :=
  if (tailPM l).length < 1 \/ (tailPM l).length > 2 \/ digs (tailPM l) = false then none else
  if natD (tailPM l) <= 30 then some (if l.head? = some 45 then - (natD (tailPM l) : Int) else (natD (tailPM l) : Int)) else none
theorem pm_dig {b : UInt8} (h : isPM b = true) : dig b = false := by
  have key : ∀ n : Nat, n < 256 -> isPM (UInt8.ofNat n) = true -> dig (UInt8.ofNat n) = false := by decide +kernel
  have := key b.toNat b.toNat_lt
  rw [UInt8.ofNat_toNat] at this
  exact this h
theorem dw_len {p : UInt8 -> Bool} {l : List UInt8} : (l.dropWhile p).length <= l.length := (List.dropWhile_sublist p).length_le
theorem doc_exp (l : List UInt8) : expP l = docE l := by
  unfold expP docE
  cases l with
  | nil => rfl
  | cons c s =>
    have hpm : ((c :: s).head? == some 45 || (c :: s).head? == some 43) = isPM c := by
      unfold isPM
      rw [Bool.or_comm]
      simp
    unfold tailPM
    rw [hpm]
    cases hc : isPM c with
    | false =>
      have e : (c :: s).dropWhile isPM = c :: s := by rw [List.dropWhile_cons, hc]; rfl
      rw [e]
      simp
    | true =>
      have e : (c :: s).dropWhile isPM = s.dropWhile isPM := by rw [List.dropWhile_cons, hc]; rfl
      rw [e]
      simp only [if_true, List.tail_cons, List.length_cons]
      have hle := dw_len (p := isPM) (l := s)
      cases s with
      | nil => rfl
      | cons x r =>
        cases hx : isPM x with
        | false =>
          have e2 : (x :: r).dropWhile isPM = x :: r := by rw [List.dropWhile_cons, hx]; rfl
          rw [e2]
          simp
        | true =>
          have e2 : (x :: r).dropWhile isPM = r.dropWhile isPM := by rw [List.dropWhile_cons, hx]; rfl
          have hl2 := dw_len (p := isPM) (l := r)
          rw [e2, if_pos (.inl (by simp only [List.length_cons]; omega)), if_pos (.inr (.inr (digs_false (x := x) List.mem_cons_self (pm_dig hx))))]
def docN (l : List UInt8) : Nat × Rat :=
  if 60 < l.length then (3, 0) else
  if l.contains 101 then
    match docP (frontL 101 l), docE (backL 101 l) with
    | some q, some k => if l.contains 47 then (2, 0) else (0, q * tenR k)
    | _, _ => (2, 0)
  else match docP l with
    | some q => (0, q)
    | none => (2, 0)
theorem doc_num (l : List UInt8) : numP l = docN l := by
  unfold numP docN
  split
  · rfl
  · have h1 : (frontL 101 l).length <= l.length := (List.takeWhile_sublist _).length_le
    rw [doc_dec (l := frontL 101 l) (by omega), doc_dec (l := l) (by omega), doc_exp]
    rfl
end Go.Ev
set_option maxHeartbeats 4000000
namespace Go.Proofs.YticocojomlfhgaaGreatDoor
open Go.Ev
theorem tw_lt {p : UInt8 -> Bool} : ∀ {l : List UInt8} {i : Nat}, i < (l.takeWhile p).length -> ∃ b, l[i]? = some b /\ p b = true
  | [], i, h => by simp at h
  | x :: l, i, h => by
    rw [List.takeWhile_cons] at h
    cases hx : p x with
    | false => rw [hx] at h; simp at h
    | true =>
      cases i with
      | zero => exact ⟨x, rfl, hx⟩
      | succ i =>
        rw [hx] at h
        simp only [if_true, List.length_cons] at h
        obtain ⟨b, h1, h2⟩ := tw_lt (p := p) (l := l) (i := i) (by omega)
        exact ⟨b, h1, h2⟩
theorem tw_end {p : UInt8 -> Bool} : ∀ {l : List UInt8}, (l.takeWhile p).length = l.length \/ ∃ b, l[(l.takeWhile p).length]? = some b /\ p b = false
  | [] => .inl rfl
  | x :: l => by
    rw [List.takeWhile_cons]
    cases hx : p x with
    | false => exact .inr ⟨x, rfl, hx⟩
    | true =>
      simp only [if_true, List.length_cons]
      rcases tw_end (p := p) (l := l) with h | ⟨b, h1, h2⟩
      · exact .inl (by rw [h])
      · exact .inr ⟨b, h1, h2⟩
theorem tw_le {p : UInt8 -> Bool} {l : List UInt8} : (l.takeWhile p).length <= l.length := (List.takeWhile_sublist p).length_le
theorem ref3_run (l : List UInt8) (hl : l.length <= 1048576) : Go.Ev.Fn CX 119 [.str (bs l)] (.int .i64 ((l.takeWhile dig).length : Int)) := by
  have hle := tw_le (p := dig) (l := l)
  refine fni Tryz.f119 ?_; unfold Tryz.f119; simp only [Option.get!_some]
  repeat (first | simp only [go_sem] | simp (disch := first | exact oa | fail) only [AX, Int.reduceToNat, Int.reducePow, Nat.reducePow] | refine wki ?_ | refine wqn ?_)
  refine vp_loop_inv (fun s => s.tmp 0 = .sv (.str (bs l)) /\ ∃ i : Nat, s.tmp 3 = .sv (.int .i64 (i : Int)) /\ i <= (l.takeWhile dig).length)
    (fun s => match s.tmp 3 with | .sv (.int _ i) => (l.takeWhile dig).length - i.toNat | _ => 0) ⟨rfl, 0, rfl, by omega⟩ ?_
  rintro s ⟨i0, i, i3, hi⟩
  by_cases hend : i = (l.takeWhile dig).length
  · rcases tw_end (p := dig) (l := l) with h | ⟨b, h1, h2⟩
    · rw [<- hend] at h ⊢
      repeat (first | simp only [go_sem, i0, i3, bs_size] | simp (disch := first | exact oa | fail) only [AX, Int.reduceToNat, Int.reducePow, Nat.reducePow, i0, i3, bs_size] | refine wki ?_ | refine wqn ?_)
    · rw [<- hend] at h1 ⊢
      have hlt : i < l.length := by
        rcases Nat.lt_or_ge i l.length with h | h
        · exact h
        · rw [List.getElem?_eq_none h] at h1; cases h1
      unfold dig at h2
      by_cases c : b.toNat < 48
      · repeat (first | simp only [go_sem, i0, i3, bs_size, h1, vo_ix, idxB_bs, Option.map_some] | simp (disch := first | exact oa | fail) only [AX, Int.reduceToNat, Int.reducePow, Nat.reducePow, i0, i3, bs_size, h1, vo_ix, idxB_bs, Option.map_some] | refine wki ?_ | refine wqn ?_)
      · have c2 : 57 < b.toNat := by
          simp only [Bool.and_eq_false_iff, decide_eq_false_iff_not] at h2
          omega
        repeat (first | simp only [go_sem, i0, i3, bs_size, h1, vo_ix, idxB_bs, Option.map_some] | simp (disch := first | exact oa | fail) only [AX, Int.reduceToNat, Int.reducePow, Nat.reducePow, i0, i3, bs_size, h1, vo_ix, idxB_bs, Option.map_some] | refine wki ?_ | refine wqn ?_)
  · obtain ⟨b, h1, h2⟩ := tw_lt (p := dig) (l := l) (i := i) (by omega)
    unfold dig at h2
    simp only [Bool.and_eq_true, decide_eq_true_eq] at h2
    repeat (first | simp only [go_sem, i0, i3, bs_size, h1, vo_ix, idxB_bs, Option.map_some] | simp (disch := first | exact oa | fail) only [AX, Int.reduceToNat, Int.reducePow, Nat.reducePow, i0, i3, bs_size, h1, vo_ix, idxB_bs, Option.map_some] | refine wki ?_ | refine wqn ?_)
    exact ⟨⟨i + 1, rfl, by omega⟩, by omega⟩
theorem natD_take_succ {l : List UInt8} {i : Nat} {b : UInt8} (h : l[i]? = some b) : natD (l.take (i + 1)) = natD (l.take i) * 10 + (b.toNat - 48) := by
  rw [List.take_add_one, h]
  exact natD_snoc _ _
theorem ref1_Parse {l : List UInt8} (h0 : l ≠ []) (hl : l.length <= 400) (hd : digs l = true) : Go.Ev.Fn CX 120 [.str (bs l)] (.tup [natV (lim (natD l)), .bool true]) := by
  have hpos : 0 < l.length := List.length_pos_iff.2 h0
  have e10 : (natV (lim 10) : SV) = .sl 1 [.int .u32 10] := rfl
  refine fni Tryz.f120 ?_; unfold Tryz.f120; simp only [Option.get!_some]
  repeat (first | simp only [go_sem, bs_size] | simp (disch := first | exact oa | fail) only [AX, Int.reduceToNat, Int.reducePow, Nat.reducePow, bs_size] | refine wki ?_ | refine wqn ?_ | refine vpd 9 [4, 31, 32, 38] ?_)
  refine vp_loop_inv (fun s => s.tmp 0 = .sv (.str (bs l)) /\ ∃ i : Nat, s.tmp 5 = .sv (.int .i64 (i : Int)) /\ i <= l.length /\ ((i = 0 /\ s.tmp 4 = .nil /\ s.tmp 31 = .undef /\ s.tmp 32 = .undef /\ s.tmp 38 = .undef) \/ (s.tmp 4 = .sv (natV (lim (natD (l.take i)))) /\ ∃ x y z, s.tmp 31 = .sv x /\ s.tmp 32 = .sv y /\ s.tmp 38 = .sv z)))
    (fun s => match s.tmp 5 with | .sv (.int _ i) => l.length - i.toNat | _ => 0) ⟨rfl, 0, rfl, by omega, .inl ⟨rfl, rfl, rfl, rfl, rfl⟩⟩ ?_
  rintro s ⟨i0, i, i5, hi, hc⟩
  by_cases hend : i = l.length
  · subst hend
    rcases hc with ⟨h00, _⟩ | ⟨i4, _⟩
    · omega
    · rw [List.take_length] at i4
      repeat (first | simp only [go_sem, i0, i5, i4, bs_size] | simp (disch := first | exact oa | fail) only [AX, Int.reduceToNat, Int.reducePow, Nat.reducePow, i0, i5, i4, bs_size] | refine wki ?_ | refine wqn ?_ | refine vpd 9 [4, 31, 32, 38] ?_)
  · obtain ⟨b, hb⟩ : ∃ b, l[i]? = some b := ⟨_, List.getElem?_eq_getElem (by omega)⟩
    have hdb : dig b = true := List.all_eq_true.1 hd b (List.mem_of_getElem? hb)
    unfold dig at hdb
    simp only [Bool.and_eq_true, decide_eq_true_eq] at hdb
    have hsnoc := natD_take_succ hb
    have hdt : digs (l.take i) = true := by unfold digs; exact List.all_eq_true.2 fun x hx => List.all_eq_true.1 hd x (List.mem_of_mem_take hx)
    have hs1 : (lim (natD (l.take i))).length <= 400 := by
      have := lim_ten (natD_lt hdt)
      rw [List.length_take] at this
      omega
    have hs2 : (lim (natD (l.take i) * 10)).length <= 401 := by
      have h3 := lim_ten' (natD_lt hdt)
      rw [List.length_take] at h3
      omega
    have hz : (lim (b.toNat - 48)).length <= 16777216 := by
      have := lim_small (n := b.toNat - 48) (k := 1) (by omega)
      omega
    have m := ref1_MulL (N := natD (l.take i)) (D := 10) (by omega) (by decide)
    have a := ref1_AddL (N := natD (l.take i) * 10) (D := b.toNat - 48) (by omega) hz
    have aw := ref1_Add (lim (natD (l.take i) * 10)) [b.toNat - 48] (okL_lim _) (fun x hx => by rw [List.mem_singleton.1 hx]; omega) (by omega) (by simp)
    rw [wth_lim, show wth [b.toNat - 48] = b.toNat - 48 by simp [wth], <- hsnoc, show (natV [b.toNat - 48] : SV) = .sl 1 [.int .u32 ((b.toNat - 48 : Nat) : Int)] from rfl] at aw
    rw [e10] at m
    have ew : IntKind.u32.wrap (IntKind.u8.wrap ((b.toNat : Int) - 48)) = ((b.toNat - 48 : Nat) : Int) := by
      rw [IntKind.wrap_u8, IntKind.wrap_u32]
      omega
    clear a hs1 hs2 hz hdt
    rcases hc with ⟨h00, i4, u2, u3, u4⟩ | ⟨i4, x, y, z, u2, u3, u4⟩
    · subst h00
      rw [List.take_zero, natD_nil, natV_zero] at m
      rw [List.take_zero, natD_nil] at aw
      repeat (first | simp only [go_sem, i0, i5, i4, u2, u3, u4, bs_size, hb, vo_ix, idxB_bs, Option.map_some, ew] | simp (disch := first | exact oa | fail) only [AX, Int.reduceToNat, Int.reducePow, Nat.reducePow, i0, i5, i4, u2, u3, u4, bs_size, hb, vo_ix, idxB_bs, Option.map_some, ew] | refine wki ?_ | refine wqn ?_ | refine vpd 9 [4, 31, 32, 38] ?_ | refine vf_of (by first | exact m | exact aw) ?_)
      exact ⟨⟨1, rfl, by omega, .inr ⟨rfl, _, _, _, rfl, rfl, rfl⟩⟩, by omega⟩
    · repeat (first | simp only [go_sem, i0, i5, i4, u2, u3, u4, bs_size, hb, vo_ix, idxB_bs, Option.map_some] | simp (disch := first | exact oa | fail) only [AX, Int.reduceToNat, Int.reducePow, Nat.reducePow, i0, i5, i4, u2, u3, u4, bs_size, hb, vo_ix, idxB_bs, Option.map_some] | refine wki ?_ | refine wqn ?_ | refine vpd 9 [4, 31, 32, 38] ?_)
      repeat (first | simp only [go_sem, i0, i5, i4, u2, u3, u4, bs_size, hb, vo_ix, idxB_bs, Option.map_some, ew] | simp (disch := first | exact oa | fail) only [AX, Int.reduceToNat, Int.reducePow, Nat.reducePow, i0, i5, i4, u2, u3, u4, bs_size, hb, vo_ix, idxB_bs, Option.map_some, ew] | refine wki ?_ | refine wqn ?_ | refine vpd 9 [4, 31, 32, 38] ?_ | refine vf_of (by first | exact m | exact aw) ?_)
      exact ⟨⟨i + 1, rfl, by omega, .inr ⟨rfl, _, _, _, rfl, rfl, rfl⟩⟩, by omega⟩
theorem ref3_ten (n : Nat) (hn : n <= 400) : Go.Ev.Fn CX 121 [.int .i64 (n : Int)] (natV (lim (10 ^ n))) := by
  have e1 : (natV (lim 1) : SV) = .sl 1 [.int .u32 1] := rfl
  have e10 : (natV (lim 10) : SV) = .sl 1 [.int .u32 10] := rfl
  refine fni Tryz.f121 ?_; unfold Tryz.f121; simp only [Option.get!_some]
  repeat (first | simp only [go_sem] | simp (disch := first | exact oa | fail) only [AX, Int.reduceToNat, Int.reducePow, Nat.reducePow] | refine wki ?_ | refine wqn ?_)
  refine vp_loop_inv (fun s => s.tmp 0 = .sv (.int .i64 (n : Int)) /\ ∃ i : Nat, s.tmp 4 = .sv (.int .i64 (i : Int)) /\ i <= n /\ ((i = 0 /\ s.tmp 3 = .ref 5 0 1 0 1 /\ s.obj 5 0 = some [.int .u32 1]) \/ s.tmp 3 = .sv (natV (lim (10 ^ i)))))
    (fun s => match s.tmp 4 with | .sv (.int _ i) => n - i.toNat | _ => 0) ⟨rfl, 0, rfl, by omega, .inl ⟨rfl, rfl, rfl⟩⟩ ?_
  rintro s ⟨i0, i, i4, hi, hc⟩
  by_cases hend : i = n
  · subst hend
    rcases hc with ⟨rfl, i3, iO⟩ | i3
    · repeat (first | simp only [go_sem, i0, i4, i3, iO] | simp (disch := first | exact oa | fail) only [AX, Int.reduceToNat, Int.reducePow, Nat.reducePow, i0, i4, i3, iO] | refine wki ?_ | refine wqn ?_)
      refine ro_ref (cs := [.int .u32 1]) (by decide) ?_ ?_
      · simp only [go_sem, i3, iO]
      · rfl
    · repeat (first | simp only [go_sem, i0, i4, i3] | simp (disch := first | exact oa | fail) only [AX, Int.reduceToNat, Int.reducePow, Nat.reducePow, i0, i4, i3] | refine wki ?_ | refine wqn ?_)
  · have hp := pow_lim (k := i)
    have m := ref1_MulL (N := 10 ^ i) (D := 10) (by omega) (by decide)
    rw [show 10 ^ i * 10 = 10 ^ (i + 1) by rw [Nat.pow_succ], e10] at m
    rcases hc with ⟨rfl, i3, iO⟩ | i3
    · rw [Nat.pow_zero, e1] at m
      generalize hY : 10 ^ (0 + 1) = Y at *
      repeat (first | simp only [go_sem, i0, i4, i3, iO] | simp (disch := first | exact oa | fail) only [AX, Int.reduceToNat, Int.reducePow, Nat.reducePow, i0, i4, i3, iO] | refine wki ?_ | refine wqn ?_ | refine vf_of (by first | exact m) ?_)
      exact ⟨⟨1, rfl, by omega, .inr (by rw [hY])⟩, by omega⟩
    · generalize 10 ^ i = X at *
      generalize hY : 10 ^ (i + 1) = Y at *
      repeat (first | simp only [go_sem, i0, i4, i3] | simp (disch := first | exact oa | fail) only [AX, Int.reduceToNat, Int.reducePow, Nat.reducePow, i0, i4, i3] | refine wki ?_ | refine wqn ?_ | refine vf_of (by first | exact m) ?_)
      exact ⟨⟨i + 1, rfl, by omega, .inr (by rw [hY])⟩, by omega⟩
theorem take_tw {p : UInt8 -> Bool} (l : List UInt8) : l.take (l.takeWhile p).length = l.takeWhile p := by
  induction l with
  | nil => rfl
  | cons x l ih =>
    rw [List.takeWhile_cons]
    split
    · rw [List.length_cons, List.take_succ_cons, ih]
    · rfl
theorem drop_tw {p : UInt8 -> Bool} (l : List UInt8) : l.drop (l.takeWhile p).length = l.dropWhile p := by
  induction l with
  | nil => rfl
  | cons x l ih =>
    rw [List.takeWhile_cons, List.dropWhile_cons]
    split
    · rw [List.length_cons, List.drop_succ_cons, ih]
    · rfl
def docV (o : Option Rat) : SV := match o with
  | some q => .tup [rv q, .int .i64 0]
  | none => .tup [rv 0, .int .i64 2]
theorem tw_all : ∀ {y : List UInt8}, digs y = true -> y.takeWhile dig = y
  | [], _ => rfl
  | x :: y, h => by
    unfold digs at h
    rw [List.all_cons, Bool.and_eq_true] at h
    rw [List.takeWhile_cons, h.1]
    simp only [if_true]
    rw [tw_all (y := y) h.2]
theorem tw_short {y : List UInt8} (h : digs y = false) : (y.takeWhile dig).length ≠ y.length := fun e => by
  have h2 := digs_tw y
  have h3 : y.takeWhile dig = y := by
    have := take_tw (p := dig) y
    rw [e, List.take_length] at this
    exact this.symm
  rw [h3, h] at h2
  cases h2
theorem ref3_body (l u : List UInt8) (ng : Bool) (hl : l.length <= 60)
    (hsg : (ng = true /\ l[0]? = some 45 /\ (l == []) = false /\ (l.drop 1).take (l.length - 1) = u /\ l.length = u.length + 1) \/ (ng = false /\ l = u /\ (u == []) = false /\ ∃ b, u[0]? = some b /\ ((b.toNat : Int) == 45) = false)) :
    Go.Ev.Fn CX 87 [.str (bs l)] (docV (if u.takeWhile dig = [] then none else
    match u.dropWhile dig with
    | [] => some (mkRat (sgn ng (natD (u.takeWhile dig))) 1)
    | c :: y => if y = [] \/ digs y = false \/ (c ≠ 46 /\ c ≠ 47) then none else
      if c = 47 then (if natD y = 0 then none else some (mkRat (sgn ng (natD (u.takeWhile dig))) (natD y)))
      else some (mkRat (sgn ng (natD (u.takeWhile dig) * 10 ^ y.length + natD y)) (10 ^ y.length)))) := by
  have z := ref2_Int 0 (by omega)
  rw [show (((0 : Int)) : Rat) = 0 by rfl] at z
  have hul : u.length <= 60 := by rcases hsg with ⟨_, _, _, _, h⟩ | ⟨_, h, _⟩ <;> (try rw [<- h]) <;> omega
  have r1 := ref3_run u (by omega)
  have tt := take_tw (p := dig) u
  have dt := drop_tw (p := dig) u
  have hle := tw_le (p := dig) (l := u)
  have hlen := congrArg List.length (List.takeWhile_append_dropWhile (p := dig) (l := u))
  rw [List.length_append] at hlen
  have hw := digs_tw u
  have hc0 := @dw_head u
  generalize hW : u.takeWhile dig = W at *
  generalize hR : u.dropWhile dig = R at *
  have hRt : List.take (u.length - W.length) R = R := List.take_of_length_le (by omega)
  by_cases hW0 : W = []
  · rw [if_pos hW0]
    have hk : ((W.length : Int) == 0) = true := by rw [hW0]; rfl
    unfold docV
    rcases hsg with ⟨rfl, hx0, hne, hsl, hll⟩ | ⟨rfl, rfl, hne, b, hx0, hbq⟩
    · have hbq : (((45 : UInt8).toNat : Int) == 45) = true := rfl
      refine fni Tryz.f87 ?_; unfold Tryz.f87; simp only [Option.get!_some]
      repeat (first | simp only [go_sem, mk_bs, bs_list, bs_size, vo_ix, idxB_bs, Option.map_some, hne, Bool.not_false, hx0, hbq, bs_extract, hsl, tt, dt, hRt, hk] | simp (disch := first | exact oa | fail) only [AX, Int.reduceToNat, Int.reducePow, Nat.reducePow, mk_bs, bs_list, bs_size, vo_ix, idxB_bs, Option.map_some, hne, Bool.not_false, hx0, hbq, bs_extract, hsl, tt, dt, hRt, hk] | refine wki ?_ | refine wqn ?_ | refine vpd 7 [] ?_ | refine vf_of (by first | exact r1 | exact z) ?_)
    · refine fni Tryz.f87 ?_; unfold Tryz.f87; simp only [Option.get!_some]
      repeat (first | simp only [go_sem, mk_bs, bs_list, bs_size, vo_ix, idxB_bs, Option.map_some, hne, Bool.not_false, hx0, hbq, bs_extract, tt, dt, hRt, hk] | simp (disch := first | exact oa | fail) only [AX, Int.reduceToNat, Int.reducePow, Nat.reducePow, mk_bs, bs_list, bs_size, vo_ix, idxB_bs, Option.map_some, hne, Bool.not_false, hx0, hbq, bs_extract, tt, dt, hRt, hk] | refine wki ?_ | refine wqn ?_ | refine vpd 7 [] ?_ | refine vf_of (by first | exact r1 | exact z) ?_)
  · rw [if_neg hW0]
    have hk : ((W.length : Int) == 0) = false := by
      rw [beq_eq_false_iff_ne]
      have := List.length_pos_iff.2 hW0
      omega
    have p1 := ref1_Parse hW0 (by omega) hw
    have lW := lim_ten (natD_lt hw)
    cases R with
    | nil =>
      have o := ref2_OfL (s := ng) (n := natD W) (d := 1) (by omega) (by decide)
      rw [show (natV (lim 1) : SV) = .sl 1 [.int .u32 1] from rfl] at o
      unfold docV
      dsimp only
      rcases hsg with ⟨rfl, hx0, hne, hsl, hll⟩ | ⟨rfl, rfl, hne, b, hx0, hbq⟩
      rotate_left
      have hsl : List.take 0 ([] : List UInt8) = [] := rfl
      rotate_left
      have hbq : (((45 : UInt8).toNat : Int) == 45) = true := rfl
      all_goals
        refine fni Tryz.f87 ?_; unfold Tryz.f87; simp only [Option.get!_some]
        repeat (first | simp only [go_sem, mk_bs, bs_list, bs_size, vo_ix, idxB_bs, Option.map_some, hne, Bool.not_false, hx0, hbq, bs_extract, hsl, tt, dt, hRt, hk, nil_beq] | simp (disch := first | exact oa | fail) only [AX, Int.reduceToNat, Int.reducePow, Nat.reducePow, mk_bs, bs_list, bs_size, vo_ix, idxB_bs, Option.map_some, hne, Bool.not_false, hx0, hbq, bs_extract, hsl, tt, dt, hRt, hk, nil_beq] | refine wki ?_ | refine wqn ?_ | refine vpd 7 [] ?_ | refine vf_of (by first | exact r1 | exact p1 | exact o) ?_)
    | cons c y =>
      have hcd := hc0 rfl
      have hRl : (c :: y).length = y.length + 1 := rfl
      have hR0 : (c :: y)[0]? = some c := rfl
      have hRn : ((c :: y) == []) = false := rfl
      have hRy : List.take y.length (List.drop 1 (c :: y)) = y := List.take_of_length_le (Nat.le_refl _)
      have hRy2 : List.take (y.length + 1 - 1) (List.drop 1 (c :: y)) = y := List.take_of_length_le (Nat.le_refl _)
      dsimp only
      clear hc0
      generalize (c :: y) = R at *
      have hyl : y.length + 1 <= 60 := by omega
      have r2 := ref3_run y (by omega)
      by_cases hy0 : y = []
      · rw [if_pos (.inl hy0)]
        unfold docV
        subst hy0
        have hm0 : ((([] : List UInt8).takeWhile dig).length : Int) = 0 := rfl
        rw [hm0] at r2
        have hm1 : ((0 : Int) == 0) = true := rfl
        rcases hsg with ⟨rfl, hx0, hne, hsl, hll⟩ | ⟨rfl, rfl, hne, b, hx0, hbq⟩
        rotate_left
        have hsl : List.take 0 ([] : List UInt8) = [] := rfl
        rotate_left
        have hbq : (((45 : UInt8).toNat : Int) == 45) = true := rfl
        all_goals
          refine fni Tryz.f87 ?_; unfold Tryz.f87; simp only [Option.get!_some]
          repeat (first | simp only [go_sem, mk_bs, bs_list, bs_size, vo_ix, idxB_bs, Option.map_some, hne, Bool.not_false, hx0, hbq, bs_extract, hsl, tt, dt, hRt, hk, hRn, hRl, hRy, hRy2, hm1] | simp (disch := first | exact oa | fail) only [AX, Int.reduceToNat, Int.reducePow, Nat.reducePow, mk_bs, bs_list, bs_size, vo_ix, idxB_bs, Option.map_some, hne, Bool.not_false, hx0, hbq, bs_extract, hsl, tt, dt, hRt, hk, hRn, hRl, hRy, hRy2, hm1] | refine wki ?_ | refine wqn ?_ | refine vpd 7 [] ?_ | refine vf_of (by first | exact r1 | exact p1 | exact r2 | exact z) ?_)
      cases hyd : digs y with
      | false =>
        rw [if_pos (.inr (.inl rfl))]
        unfold docV
        have hsh := tw_short hyd
        have hle2 := tw_le (p := dig) (l := y)
        generalize (y.takeWhile dig).length = M at *
        by_cases hM : M = 0
        · have hm1 : ((M : Int) == 0) = true := by rw [hM]; rfl
          rcases hsg with ⟨rfl, hx0, hne, hsl, hll⟩ | ⟨rfl, rfl, hne, b, hx0, hbq⟩
          rotate_left
          have hsl : List.take 0 ([] : List UInt8) = [] := rfl
          rotate_left
          have hbq : (((45 : UInt8).toNat : Int) == 45) = true := rfl
          all_goals
            refine fni Tryz.f87 ?_; unfold Tryz.f87; simp only [Option.get!_some]
            repeat (first | simp only [go_sem, mk_bs, bs_list, bs_size, vo_ix, idxB_bs, Option.map_some, hne, Bool.not_false, hx0, hbq, bs_extract, hsl, tt, dt, hRt, hk, hRn, hRl, hRy, hRy2, hm1] | simp (disch := first | exact oa | fail) only [AX, Int.reduceToNat, Int.reducePow, Nat.reducePow, mk_bs, bs_list, bs_size, vo_ix, idxB_bs, Option.map_some, hne, Bool.not_false, hx0, hbq, bs_extract, hsl, tt, dt, hRt, hk, hRn, hRl, hRy, hRy2, hm1] | refine wki ?_ | refine wqn ?_ | refine vpd 7 [] ?_ | refine vf_of (by first | exact r1 | exact p1 | exact r2 | exact z) ?_)
        · have hm1 : ((M : Int) == 0) = false := by rw [beq_eq_false_iff_ne]; omega
          have hm2 : ((M : Int) != (y.length : Int)) = true := by rw [bne_iff_ne]; omega
          rcases hsg with ⟨rfl, hx0, hne, hsl, hll⟩ | ⟨rfl, rfl, hne, b, hx0, hbq⟩
          rotate_left
          have hsl : List.take 0 ([] : List UInt8) = [] := rfl
          rotate_left
          have hbq : (((45 : UInt8).toNat : Int) == 45) = true := rfl
          all_goals
            refine fni Tryz.f87 ?_; unfold Tryz.f87; simp only [Option.get!_some]
            repeat (first | simp only [go_sem, mk_bs, bs_list, bs_size, vo_ix, idxB_bs, Option.map_some, hne, Bool.not_false, hx0, hbq, bs_extract, hsl, tt, dt, hRt, hk, hRn, hRl, hRy, hRy2, hm1, hm2] | simp (disch := first | exact oa | fail) only [AX, Int.reduceToNat, Int.reducePow, Nat.reducePow, mk_bs, bs_list, bs_size, vo_ix, idxB_bs, Option.map_some, hne, Bool.not_false, hx0, hbq, bs_extract, hsl, tt, dt, hRt, hk, hRn, hRl, hRy, hRy2, hm1, hm2] | refine wki ?_ | refine wqn ?_ | refine vpd 7 [] ?_ | refine vf_of (by first | exact r1 | exact p1 | exact r2 | exact z) ?_)
      | true =>
        have hyp := List.length_pos_iff.2 hy0
        rw [tw_all hyd] at r2
        have hm1 : ((y.length : Int) == 0) = false := by rw [beq_eq_false_iff_ne]; omega
        have hm2 : ((y.length : Int) != (y.length : Int)) = false := by simp
        have p2 := ref1_Parse hy0 (by omega) hyd
        have lY := lim_ten (natD_lt hyd)
        by_cases c46 : c = 46
        · subst c46
          rw [if_neg (by
            rintro (h | h | h)
            · exact hy0 h
            · cases h
            · exact h.1 rfl), if_neg (by decide)]
          have hq1 : (((46 : UInt8).toNat : Int) != 46) = false := rfl
          have hq2 : (((46 : UInt8).toNat : Int) == 47) = false := rfl
          have tn := ref3_ten y.length (by omega)
          have lT : (lim (10 ^ y.length)).length <= 61 := by
            have := pow_lim (k := y.length)
            omega
          have lM : (lim (natD W * 10 ^ y.length)).length <= 400 := by
            have h1 := natD_lt hw
            have : natD W * 10 ^ y.length < 10 ^ (W.length + y.length) := by
              rw [Nat.pow_add]
              exact Nat.mul_lt_mul_of_pos_right h1 (Nat.pow_pos (by omega))
            have := lim_ten this
            omega
          have lA : (lim (natD W * 10 ^ y.length + natD y)).length <= 400 := by
            have : natD (W ++ y) < 10 ^ (W ++ y).length := natD_lt (by rw [digs_app, hw, hyd]; rfl)
            rw [natD_append, List.length_append] at this
            have := lim_ten this
            omega
          have mm := ref1_MulL (N := natD W) (D := 10 ^ y.length) (by omega) (by omega)
          have aa := ref1_AddL (N := natD W * 10 ^ y.length) (D := natD y) (by omega) (by omega)
          have o := ref2_OfL (s := ng) (n := natD W * 10 ^ y.length + natD y) (d := 10 ^ y.length) (by omega) (by omega)
          unfold docV
          dsimp only
          generalize natD W * 10 ^ y.length + natD y = V at *
          generalize natD W * 10 ^ y.length = U at *
          generalize 10 ^ y.length = T at *
          rcases hsg with ⟨rfl, hx0, hne, hsl, hll⟩ | ⟨rfl, rfl, hne, b, hx0, hbq⟩
          rotate_left
          have hsl : List.take 0 ([] : List UInt8) = [] := rfl
          rotate_left
          have hbq : (((45 : UInt8).toNat : Int) == 45) = true := rfl
          all_goals
            refine fni Tryz.f87 ?_; unfold Tryz.f87; simp only [Option.get!_some]
            repeat (first | simp only [go_sem, mk_bs, bs_list, bs_size, vo_ix, idxB_bs, Option.map_some, hne, Bool.not_false, hx0, hbq, bs_extract, hsl, tt, dt, hRt, hk, hRn, hRl, hRy, hRy2, hm1, hm2, hR0, hq1, hq2] | simp (disch := first | exact oa | fail) only [AX, Int.reduceToNat, Int.reducePow, Nat.reducePow, mk_bs, bs_list, bs_size, vo_ix, idxB_bs, Option.map_some, hne, Bool.not_false, hx0, hbq, bs_extract, hsl, tt, dt, hRt, hk, hRn, hRl, hRy, hRy2, hm1, hm2, hR0, hq1, hq2] | refine wki ?_ | refine wqn ?_ | refine vpd 7 [] ?_ | refine vf_of (by first | exact r1 | exact p1 | exact r2 | exact p2 | exact tn | exact mm | exact aa | exact o) ?_)
        · by_cases c47 : c = 47
          · subst c47
            rw [if_neg (by
              rintro (h | h | h)
              · exact hy0 h
              · cases h
              · exact h.2 rfl), if_pos rfl]
            have hq1 : (((47 : UInt8).toNat : Int) != 46) = true := rfl
            have hq2 : (((47 : UInt8).toNat : Int) == 47) = true := rfl
            have hq3 : (((47 : UInt8).toNat : Int) != 47) = false := rfl
            by_cases hz : natD y = 0
            · rw [if_pos hz]
              rw [hz, natV_zero] at p2
              unfold docV
              dsimp only
              have hm3 : ((0 : Int) == 0) = true := rfl
              rcases hsg with ⟨rfl, hx0, hne, hsl, hll⟩ | ⟨rfl, rfl, hne, b, hx0, hbq⟩
              rotate_left
              have hsl : List.take 0 ([] : List UInt8) = [] := rfl
              rotate_left
              have hbq : (((45 : UInt8).toNat : Int) == 45) = true := rfl
              all_goals
                refine fni Tryz.f87 ?_; unfold Tryz.f87; simp only [Option.get!_some]
                repeat (first | simp only [go_sem, mk_bs, bs_list, bs_size, vo_ix, idxB_bs, Option.map_some, hne, Bool.not_false, hx0, hbq, bs_extract, hsl, tt, dt, hRt, hk, hRn, hRl, hRy, hRy2, hm1, hm2, hR0, hq1, hq2, hq3, hm3] | simp (disch := first | exact oa | fail) only [AX, Int.reduceToNat, Int.reducePow, Nat.reducePow, mk_bs, bs_list, bs_size, vo_ix, idxB_bs, Option.map_some, hne, Bool.not_false, hx0, hbq, bs_extract, hsl, tt, dt, hRt, hk, hRn, hRl, hRy, hRy2, hm1, hm2, hR0, hq1, hq2, hq3, hm3] | refine wki ?_ | refine wqn ?_ | refine vpd 7 [] ?_ | refine vf_of (by first | exact r1 | exact p1 | exact r2 | exact p2 | exact z) ?_)
            · rw [if_neg hz]
              have o := ref2_OfL (s := ng) (n := natD W) (d := natD y) (by omega) (by omega)
              unfold docV
              dsimp only
              have hm3 : (((lim (natD y)).length : Int) == 0) = false := by
                rw [beq_eq_false_iff_ne]
                exact lim_ne hz
              rcases hsg with ⟨rfl, hx0, hne, hsl, hll⟩ | ⟨rfl, rfl, hne, b, hx0, hbq⟩
              rotate_left
              have hsl : List.take 0 ([] : List UInt8) = [] := rfl
              rotate_left
              have hbq : (((45 : UInt8).toNat : Int) == 45) = true := rfl
              all_goals
                refine fni Tryz.f87 ?_; unfold Tryz.f87; simp only [Option.get!_some]
                repeat (first | simp only [go_sem, mk_bs, bs_list, bs_size, vo_ix, idxB_bs, Option.map_some, hne, Bool.not_false, hx0, hbq, bs_extract, hsl, tt, dt, hRt, hk, hRn, hRl, hRy, hRy2, hm1, hm2, hR0, hq1, hq2, hq3, hm3] | simp (disch := first | exact oa | fail) only [AX, Int.reduceToNat, Int.reducePow, Nat.reducePow, mk_bs, bs_list, bs_size, vo_ix, idxB_bs, Option.map_some, hne, Bool.not_false, hx0, hbq, bs_extract, hsl, tt, dt, hRt, hk, hRn, hRl, hRy, hRy2, hm1, hm2, hR0, hq1, hq2, hq3, hm3] | refine wki ?_ | refine wqn ?_ | refine vpd 7 [] ?_ | refine vf_of (by first | exact r1 | exact p1 | exact r2 | exact p2 | exact o) ?_)
          · rw [if_pos (.inr (.inr ⟨c46, c47⟩))]
            have hq1 : ((c.toNat : Int) != 46) = true := by
              rw [bne_iff_ne]
              intro e
              exact c46 (UInt8.toNat.inj (by have : (46 : UInt8).toNat = 46 := rfl; omega))
            have hq3 : ((c.toNat : Int) != 47) = true := by
              rw [bne_iff_ne]
              intro e
              exact c47 (UInt8.toNat.inj (by have : (47 : UInt8).toNat = 47 := rfl; omega))
            unfold docV
            dsimp only
            rcases hsg with ⟨rfl, hx0, hne, hsl, hll⟩ | ⟨rfl, rfl, hne, b, hx0, hbq⟩
            rotate_left
            have hsl : List.take 0 ([] : List UInt8) = [] := rfl
            rotate_left
            have hbq : (((45 : UInt8).toNat : Int) == 45) = true := rfl
            all_goals
              refine fni Tryz.f87 ?_; unfold Tryz.f87; simp only [Option.get!_some]
              repeat (first | simp only [go_sem, mk_bs, bs_list, bs_size, vo_ix, idxB_bs, Option.map_some, hne, Bool.not_false, hx0, hbq, bs_extract, hsl, tt, dt, hRt, hk, hRn, hRl, hRy, hRy2, hm1, hm2, hR0, hq1, hq3] | simp (disch := first | exact oa | fail) only [AX, Int.reduceToNat, Int.reducePow, Nat.reducePow, mk_bs, bs_list, bs_size, vo_ix, idxB_bs, Option.map_some, hne, Bool.not_false, hx0, hbq, bs_extract, hsl, tt, dt, hRt, hk, hRn, hRl, hRy, hRy2, hm1, hm2, hR0, hq1, hq3] | refine wki ?_ | refine wqn ?_ | refine vpd 7 [] ?_ | refine vf_of (by first | exact r1 | exact p1 | exact r2 | exact z) ?_)
end Go.Proofs.YticocojomlfhgaaGreatDoor
namespace Go.Proofs.YticocojomlfhgaaGreatDoor
open Go.Ev
theorem front_idx {c : UInt8} : ∀ {l : List UInt8} {i : Nat}, i < (frontL c l).length -> ∃ b, l[i]? = some b /\ b ≠ c := by
  intro l i h
  obtain ⟨b, h1, h2⟩ := tw_lt (p := (· != c)) h
  exact ⟨b, h1, by simpa using h2⟩
theorem front_end {c : UInt8} {l : List UInt8} (h : l.contains c = true) : l[(frontL c l).length]? = some c := by
  have key : ∀ F B : List UInt8, l = F ++ c :: B -> l[F.length]? = some c := fun F B e => by
    rw [e, List.getElem?_append_right (Nat.le_refl _), Nat.sub_self]
    rfl
  exact key _ _ (cut_at h)
theorem ref16_find (l : List UInt8) (c : UInt8) (hl : l.length <= 1048576) : Go.Ev.Fn CX 86 [.str (bs l), .int .u8 (c.toNat : Int)] (.int .i64 (if l.contains c = true then ((frontL c l).length : Int) else -1)) := by
  have hfl : (frontL c l).length <= l.length := (List.takeWhile_sublist _).length_le
  cases hc : l.contains c with
  | true =>
    rw [if_pos rfl]
    have he := front_end hc
    have hlt : (frontL c l).length < l.length := by
      rcases Nat.lt_or_ge (frontL c l).length l.length with h | h
      · exact h
      · rw [List.getElem?_eq_none h] at he; cases he
    refine fni Tryz.f86 ?_; unfold Tryz.f86; simp only [Option.get!_some]
    repeat (first | simp only [go_sem] | simp (disch := first | exact oa | fail) only [AX, Int.reduceToNat, Int.reducePow, Nat.reducePow] | refine wki ?_ | refine wqn ?_)
    refine vp_loop_inv (fun s => s.tmp 0 = .sv (.str (bs l)) /\ s.tmp 1 = .sv (.int .u8 (c.toNat : Int)) /\ ∃ i : Nat, s.tmp 5 = .sv (.int .i64 (i : Int)) /\ i <= (frontL c l).length)
      (fun s => match s.tmp 5 with | .sv (.int _ i) => (frontL c l).length - i.toNat | _ => 0) ⟨rfl, rfl, 0, rfl, by omega⟩ ?_
    rintro s ⟨i0, i1, i, i5, hi⟩
    by_cases hend : i = (frontL c l).length
    · rw [<- hend] at he ⊢
      repeat (first | simp only [go_sem, i0, i1, i5, bs_size, he, vo_ix, idxB_bs, Option.map_some, beq_self_eq_true] | simp (disch := first | exact oa | fail) only [AX, Int.reduceToNat, Int.reducePow, Nat.reducePow, i0, i1, i5, bs_size, he, vo_ix, idxB_bs, Option.map_some, beq_self_eq_true] | refine wki ?_ | refine wqn ?_)
    · obtain ⟨b, h1, h2⟩ := front_idx (c := c) (l := l) (i := i) (by omega)
      have hne : ((b.toNat : Int) == (c.toNat : Int)) = false := by
        rw [beq_eq_false_iff_ne]
        intro e
        apply h2
        apply UInt8.toNat.inj
        omega
      repeat (first | simp only [go_sem, i0, i1, i5, bs_size, h1, vo_ix, idxB_bs, Option.map_some, hne] | simp (disch := first | exact oa | fail) only [AX, Int.reduceToNat, Int.reducePow, Nat.reducePow, i0, i1, i5, bs_size, h1, vo_ix, idxB_bs, Option.map_some, hne] | refine wki ?_ | refine wqn ?_)
      exact ⟨⟨i + 1, rfl, by omega⟩, by omega⟩
  | false =>
    rw [if_neg (by simp)]
    refine fni Tryz.f86 ?_; unfold Tryz.f86; simp only [Option.get!_some]
    repeat (first | simp only [go_sem] | simp (disch := first | exact oa | fail) only [AX, Int.reduceToNat, Int.reducePow, Nat.reducePow] | refine wki ?_ | refine wqn ?_)
    refine vp_loop_inv (fun s => s.tmp 0 = .sv (.str (bs l)) /\ s.tmp 1 = .sv (.int .u8 (c.toNat : Int)) /\ ∃ i : Nat, s.tmp 5 = .sv (.int .i64 (i : Int)) /\ i <= l.length)
      (fun s => match s.tmp 5 with | .sv (.int _ i) => l.length - i.toNat | _ => 0) ⟨rfl, rfl, 0, rfl, by omega⟩ ?_
    rintro s ⟨i0, i1, i, i5, hi⟩
    by_cases hend : i = l.length
    · subst hend
      repeat (first | simp only [go_sem, i0, i1, i5, bs_size] | simp (disch := first | exact oa | fail) only [AX, Int.reduceToNat, Int.reducePow, Nat.reducePow, i0, i1, i5, bs_size] | refine wki ?_ | refine wqn ?_)
    · obtain ⟨b, hb⟩ : ∃ b, l[i]? = some b := ⟨_, List.getElem?_eq_getElem (by omega)⟩
      have hne : ((b.toNat : Int) == (c.toNat : Int)) = false := by
        rw [beq_eq_false_iff_ne]
        intro e
        have : b = c := UInt8.toNat.inj (by omega)
        subst this
        rw [List.contains_iff_mem.2 (List.mem_of_getElem? hb)] at hc
        cases hc
      repeat (first | simp only [go_sem, i0, i1, i5, bs_size, hb, vo_ix, idxB_bs, Option.map_some, hne] | simp (disch := first | exact oa | fail) only [AX, Int.reduceToNat, Int.reducePow, Nat.reducePow, i0, i1, i5, bs_size, hb, vo_ix, idxB_bs, Option.map_some, hne] | refine wki ?_ | refine wqn ?_)
      exact ⟨⟨i + 1, rfl, by omega⟩, by omega⟩
theorem ref16_gap (b : UInt8) : Go.Ev.Fn CX 64 [.int .u8 (b.toNat : Int)] (.bool (gapB b)) := by
  have h : gapB b = (decide (b.toNat = 32) || decide (b.toNat = 44) || decide (b.toNat = 10)) := by
    have key : ∀ n : Nat, n < 256 -> gapB (UInt8.ofNat n) = (decide ((UInt8.ofNat n).toNat = 32) || decide ((UInt8.ofNat n).toNat = 44) || decide ((UInt8.ofNat n).toNat = 10)) := by decide +kernel
    have := key b.toNat b.toNat_lt
    rwa [UInt8.ofNat_toNat] at this
  rw [h]
  by_cases c1 : b.toNat = 32
  · have e : ((b.toNat : Int) == 32) = true := by rw [c1]; rfl
    rw [decide_eq_true c1, Bool.true_or, Bool.true_or]
    refine fni Tryz.f64 ?_; unfold Tryz.f64; simp only [Option.get!_some]
    repeat (first | simp only [go_sem, e] | simp (disch := first | exact oa | fail) only [AX, Int.reduceToNat, Int.reducePow, Nat.reducePow, e] | refine wki ?_ | refine wqn ?_)
  · have e : ((b.toNat : Int) == 32) = false := by rw [beq_eq_false_iff_ne]; omega
    rw [decide_eq_false c1, Bool.false_or]
    by_cases c2 : b.toNat = 44
    · have e2 : ((b.toNat : Int) == 44) = true := by rw [c2]; rfl
      rw [decide_eq_true c2, Bool.true_or]
      refine fni Tryz.f64 ?_; unfold Tryz.f64; simp only [Option.get!_some]
      repeat (first | simp only [go_sem, e, e2] | simp (disch := first | exact oa | fail) only [AX, Int.reduceToNat, Int.reducePow, Nat.reducePow, e, e2] | refine wki ?_ | refine wqn ?_)
    · have e2 : ((b.toNat : Int) == 44) = false := by rw [beq_eq_false_iff_ne]; omega
      rw [decide_eq_false c2, Bool.false_or]
      by_cases c3 : b.toNat = 10
      · have e3 : ((b.toNat : Int) == 10) = true := by rw [c3]; rfl
        rw [decide_eq_true c3]
        refine fni Tryz.f64 ?_; unfold Tryz.f64; simp only [Option.get!_some]
        repeat (first | simp only [go_sem, e, e2, e3] | simp (disch := first | exact oa | fail) only [AX, Int.reduceToNat, Int.reducePow, Nat.reducePow, e, e2, e3] | refine wki ?_ | refine wqn ?_)
      · have e3 : ((b.toNat : Int) == 10) = false := by rw [beq_eq_false_iff_ne]; omega
        rw [decide_eq_false c3]
        refine fni Tryz.f64 ?_; unfold Tryz.f64; simp only [Option.get!_some]
        repeat (first | simp only [go_sem, e, e2, e3] | simp (disch := first | exact oa | fail) only [AX, Int.reduceToNat, Int.reducePow, Nat.reducePow, e, e2, e3] | refine wki ?_ | refine wqn ?_)
theorem ref3_Parse (l : List UInt8) (hl : l.length <= 60) : Go.Ev.Fn CX 87 [.str (bs l)] (docV (docP l)) := by
  cases l with
  | nil =>
    have r1 : Go.Ev.Fn CX 119 [.str (bs [])] (.int .i64 0) := ref3_run [] (by decide)
    have e0 : ((0 : Int) == 0) = true := rfl
    have z := ref2_Int 0 (by omega)
    rw [show (((0 : Int)) : Rat) = 0 by rfl] at z
    rw [show docV (docP []) = .tup [rv 0, .int .i64 2] from rfl]
    refine fni Tryz.f87 ?_; unfold Tryz.f87; simp only [Option.get!_some]
    repeat (first | simp only [go_sem, mk_bs, bs_list, bs_size, vo_ix, idxB_bs, nil_beq, Bool.not_true, bs_extract, e0] | simp (disch := first | exact oa | fail) only [AX, Int.reduceToNat, Int.reducePow, Nat.reducePow, mk_bs, bs_list, bs_size, vo_ix, idxB_bs, nil_beq, Bool.not_true, bs_extract, e0] | refine wki ?_ | refine wqn ?_ | refine vpd 7 [] ?_ | refine vf_of (by first | exact r1 | exact z) ?_)
  | cons b r =>
    by_cases hb : b = 45
    · subst hb
      exact ref3_body (45 :: r) r true hl (.inl ⟨rfl, rfl, rfl, List.take_of_length_le (Nat.le_refl _), rfl⟩)
    · have hn : negP (b :: r) = false := by
        unfold negP
        simpa using hb
      have ha : absP (b :: r) = b :: r := by
        unfold absP
        rw [hn]
        rfl
      have h := ref3_body (b :: r) (b :: r) false hl (.inr ⟨rfl, rfl, rfl, b, rfl, by
        rw [beq_eq_false_iff_ne]
        intro e
        exact hb (UInt8.toNat.inj (by have : (45 : UInt8).toNat = 45 := rfl; omega))⟩)
      unfold docP
      rw [ha, hn]
      exact h
theorem ref16_digit (b : UInt8) : Go.Ev.Fn CX 123 [.int .u8 (b.toNat : Int)] (.bool (dig b)) := by
  unfold dig
  by_cases c1 : 48 <= b.toNat
  · by_cases c2 : b.toNat <= 57
    · rw [decide_eq_true c1, decide_eq_true c2]
      refine fni Tryz.f123 ?_; unfold Tryz.f123; simp only [Option.get!_some]
      repeat (first | simp only [go_sem] | simp (disch := first | exact oa | fail) only [AX, Int.reduceToNat, Int.reducePow, Nat.reducePow] | refine wki ?_ | refine wqn ?_)
    · rw [decide_eq_true c1, decide_eq_false c2]
      refine fni Tryz.f123 ?_; unfold Tryz.f123; simp only [Option.get!_some]
      repeat (first | simp only [go_sem] | simp (disch := first | exact oa | fail) only [AX, Int.reduceToNat, Int.reducePow, Nat.reducePow] | refine wki ?_ | refine wqn ?_)
  · rw [decide_eq_false c1]
    refine fni Tryz.f123 ?_; unfold Tryz.f123; simp only [Option.get!_some]
    repeat (first | simp only [go_sem] | simp (disch := first | exact oa | fail) only [AX, Int.reduceToNat, Int.reducePow, Nat.reducePow] | refine wki ?_ | refine wqn ?_)
theorem ref16_ten (n : Nat) (hn : n <= 60) : Go.Ev.Fn CX 90 [.int .i64 (n : Int)] (rv ((10 : Rat) ^ n)) := by
  have o1 := ref2_Int 1 (by omega)
  have o10 := ref2_Int 10 (by omega)
  rw [show (((1 : Int)) : Rat) = (10 : Rat) ^ 0 by rfl] at o1
  rw [show (((10 : Int)) : Rat) = (10 : Rat) by rfl] at o10
  refine fni Tryz.f90 ?_; unfold Tryz.f90; simp only [Option.get!_some]
  repeat (first | simp only [go_sem] | simp (disch := first | exact oa | fail) only [AX, Int.reduceToNat, Int.reducePow, Nat.reducePow] | refine wki ?_ | refine wqn ?_ | refine vpd 5 [] ?_ | refine vf_of (by first | exact o1) ?_)
  refine vp_loop_inv (fun s => s.tmp 0 = .sv (.int .i64 (n : Int)) /\ s.tmp 2 = .ptr 2 0 0 /\ s.tmp 3 = .ptr 3 0 0 /\ s.obj 2 0 = some [.bool false, .sl 0 [], .sl 0 []] /\ ∃ i : Nat, s.tmp 4 = .sv (.int .i64 (i : Int)) /\ i <= n /\ s.obj 3 0 = some (rvC ((10 : Rat) ^ i)))
    (fun s => match s.tmp 4 with | .sv (.int _ i) => n - i.toNat | _ => 0) ⟨rfl, rfl, rfl, rfl, 0, rfl, by omega, rfl⟩ ?_
  rintro s ⟨i0, i2, i3, iO, i, i4, hi, iR⟩
  unfold rvC at iR
  by_cases hend : i = n
  · subst hend
    generalize hX : (10 : Rat) ^ i = X at *
    repeat (first | simp only [go_sem, i0, i2, i3, iO, i4, iR] | simp (disch := first | exact oa | fail) only [AX, Int.reduceToNat, Int.reducePow, Nat.reducePow, i0, i2, i3, iO, i4, iR] | refine wki ?_ | refine wqn ?_ | refine vpd 5 [] ?_)
  · have hz := RatA_rv (sz_ten i (by omega))
    have hz10 := RatA_rv (sz_ten 1 (by omega))
    rw [show (10 : Rat) ^ 1 = 10 by rfl] at hz10
    have m := ref2_Mul hz hz10 (by omega) (by omega) (by omega)
    have hp : (10 : Rat) ^ i * 10 = (10 : Rat) ^ (i + 1) := (Rat.pow_succ _ _).symm
    rw [hp] at m
    generalize hX : (10 : Rat) ^ i = X at *
    generalize hY : (10 : Rat) ^ (i + 1) = Y at *
    have m' : Go.Ev.Fn CX 89 [.agg [.bool (decide (X.num < 0)), natV (lim X.num.natAbs), natV (lim X.den)], rv 10] (rv Y) := m
    repeat (first | simp only [go_sem, i0, i2, i3, iO, i4, iR] | simp (disch := first | exact oa | fail) only [AX, Int.reduceToNat, Int.reducePow, Nat.reducePow, i0, i2, i3, iO, i4, iR] | refine wki ?_ | refine wqn ?_ | refine vpd 5 [] ?_ | refine vf_of (by first | exact o10 | exact m') ?_)
    exact ⟨⟨i + 1, rfl, by omega, by rw [hY]; rfl⟩, by omega⟩
def bytC (l : List UInt8) : List SV := l.map fun b => .int .u8 (b.toNat : Int)
theorem bytC_len (l : List UInt8) : (bytC l).length = l.length := by unfold bytC; rw [List.length_map]
theorem bytC_of : ∀ l : List UInt8, bytesOf (bytC l) = some l
  | [] => rfl
  | b :: l => by
    show (match bytesOf (bytC l) with | some r => some (UInt8.ofNat ((b.toNat : Int)).toNat :: r) | none => none) = _
    rw [bytC_of l]
    simp
theorem bytC_snoc (l : List UInt8) (b : UInt8) : bytC l ++ [.int .u8 (b.toNat : Int)] = bytC (l ++ [b]) := by unfold bytC; simp
theorem u8_eq (b : UInt8) (n : Nat) (h : n < 256) : ((b.toNat : Int) == (n : Int)) = (b == UInt8.ofNat n) := by
  by_cases e : b = UInt8.ofNat n
  · subst e
    have : (UInt8.ofNat n).toNat = n := by simp; omega
    rw [this, beq_self_eq_true, beq_self_eq_true]
  · rw [beq_eq_false_iff_ne.2 e, beq_eq_false_iff_ne]
    intro h2
    exact e (UInt8.toNat.inj (by have : (UInt8.ofNat n).toNat = n := (by simp; omega); omega))
theorem ud_bytes : Tryz.prog.underlying 38 = some (.slice 5) := by kernel_rfl
theorem ud_str : Tryz.prog.underlying 9 = some .string := by kernel_rfl
theorem plain_cons (off : Bool) (b : UInt8) (r : List UInt8) : plainL off (b :: r) = if b == 10 then 10 :: plainL false r else if off || b == 35 then plainL true r else b :: plainL false r := rfl
theorem drop_get {l : List UInt8} {i : Nat} {b : UInt8} (h : l[i]? = some b) : l.drop i = b :: l.drop (i + 1) := by
  obtain ⟨hi, rfl⟩ := List.getElem?_eq_some_iff.1 h
  exact List.drop_eq_getElem_cons hi
theorem ref16_plain (l : List UInt8) (hl : l.length <= 100000) : Go.Ev.Fn CX 63 [.str (bs l)] (.str (bs (plainL false l))) := by
  refine fni Tryz.f63 ?_; unfold Tryz.f63; simp only [Option.get!_some]
  repeat (first | simp only [go_sem] | simp (disch := first | exact oa | fail) only [AX, Int.reduceToNat, Int.reducePow, Nat.reducePow] | refine wki ?_ | refine wqn ?_)
  refine vp_loop_inv (fun s => s.tmp 0 = .sv (.str (bs l)) /\ ∃ (i : Nat) (off : Bool) (o : List UInt8), s.tmp 5 = .sv (.int .i64 (i : Int)) /\ i <= l.length /\ s.tmp 4 = .sv (.bool off) /\ o.length <= i /\ plainL false l = o ++ plainL off (l.drop i) /\
      ((o = [] /\ s.tmp 3 = .nil) \/ ∃ g, 0 < o.length /\ s.tmp 3 = .ref 27 g 1 0 o.length /\ s.obj 27 g = some (bytC o)))
    (fun s => match s.tmp 5 with | .sv (.int _ i) => l.length - i.toNat | _ => 0) ⟨rfl, 0, false, [], rfl, by omega, rfl, by simp, rfl, .inl ⟨rfl, rfl⟩⟩ ?_
  rintro s ⟨i0, i, off, o, i5, hi, i4, ho, hpl, hc⟩
  by_cases hend : i = l.length
  · subst hend
    rw [List.drop_length, show plainL off [] = [] by cases off <;> rfl, List.append_nil] at hpl
    rw [hpl]
    rcases hc with ⟨rfl, i3⟩ | ⟨g, h0, i3, iO⟩
    · repeat (first | simp only [go_sem, i0, i5, i4, i3, bs_size, ud_bytes, ud_str] | simp (disch := first | exact oa | fail) only [AX, Int.reduceToNat, Int.reducePow, Nat.reducePow, i0, i5, i4, i3, bs_size, ud_bytes, ud_str] | refine wki ?_ | refine wqn ?_)
      rfl
    · have hb := bytC_of o
      have hbl := bytC_len o
      have htk : List.take o.length (bytC o) = bytC o := List.take_of_length_le (by omega)
      repeat (first | simp only [go_sem, i0, i5, i4, i3, iO, bs_size, ud_bytes, ud_str, htk, hb, hbl, mk_bs] | simp (disch := first | exact oa | fail) only [AX, Int.reduceToNat, Int.reducePow, Nat.reducePow, i0, i5, i4, i3, iO, bs_size, ud_bytes, ud_str, htk, hb, hbl, mk_bs] | refine wki ?_ | refine wqn ?_)
  · obtain ⟨b, hb⟩ : ∃ b, l[i]? = some b := ⟨_, List.getElem?_eq_getElem (by omega)⟩
    rw [drop_get hb] at hpl
    have hbl := bytC_len o
    have hsn := bytC_snoc o b
    have e35 : ((b.toNat : Int) == 35) = (b == 35) := u8_eq b 35 (by omega)
    have e10 : ((b.toNat : Int) == 10) = (b == 10) := u8_eq b 10 (by omega)
    rw [plain_cons] at hpl
    by_cases c10 : b = 10
    · have x10 : (b == 10) = true := by rw [c10]; rfl
      have x35 : (b == 35) = false := by rw [c10]; rfl
      rw [x10] at hpl e10
      rw [x35] at e35
      rw [if_pos rfl] at hpl
      have hpl' : plainL false l = (o ++ [b]) ++ plainL false (l.drop (i + 1)) := by rw [hpl, List.append_assoc, c10]; rfl
      rcases hc with ⟨rfl, i3⟩ | ⟨g, h0, i3, iO⟩
      · repeat (first | simp only [go_sem, i0, i5, i4, i3, bs_size, hb, vo_ix, idxB_bs, Option.map_some, e35, e10, Bool.not_true, Bool.not_false, N0] | simp (disch := first | exact oa | fail) only [AX, Int.reduceToNat, Int.reducePow, Nat.reducePow, i0, i5, i4, i3, bs_size, hb, vo_ix, idxB_bs, Option.map_some, e35, e10, Bool.not_true, Bool.not_false, N0] | refine wki ?_ | refine wqn ?_)
        exact ⟨⟨i + 1, false, [b], rfl, by omega, rfl, by simp, hpl', .inr ⟨s.gen 27, by simp, rfl, by rw [if_pos rfl]; rfl⟩⟩, by omega⟩
      · repeat (first | simp only [go_sem, i0, i5, i4, i3, iO, bs_size, hb, vo_ix, idxB_bs, Option.map_some, e35, e10, Bool.not_true, Bool.not_false, N0, hbl, hsn] | simp (disch := first | exact oa | fail) only [AX, Int.reduceToNat, Int.reducePow, Nat.reducePow, i0, i5, i4, i3, iO, bs_size, hb, vo_ix, idxB_bs, Option.map_some, e35, e10, Bool.not_true, Bool.not_false, N0, hbl, hsn] | refine wki ?_ | refine wqn ?_)
        exact ⟨⟨i + 1, false, o ++ [b], rfl, by omega, rfl, by simp; omega, hpl', .inr ⟨g, by simp, by simp, by rw [if_pos rfl]⟩⟩, by omega⟩
    · have x10 : (b == 10) = false := by simpa using c10
      rw [x10] at hpl e10
      rw [if_neg (by simp)] at hpl
      by_cases c35 : b = 35
      · have x35 : (b == 35) = true := by rw [c35]; rfl
        rw [x35] at e35 hpl
        rw [Bool.or_true, if_pos rfl] at hpl
        repeat (first | simp only [go_sem, i0, i5, i4, bs_size, hb, vo_ix, idxB_bs, Option.map_some, e35, e10, Bool.not_true, Bool.not_false, N0] | simp (disch := first | exact oa | fail) only [AX, Int.reduceToNat, Int.reducePow, Nat.reducePow, i0, i5, i4, bs_size, hb, vo_ix, idxB_bs, Option.map_some, e35, e10, Bool.not_true, Bool.not_false, N0] | refine wki ?_ | refine wqn ?_)
        exact ⟨⟨i + 1, true, o, rfl, by omega, rfl, by omega, hpl, hc⟩, by omega⟩
      · have x35 : (b == 35) = false := by simpa using c35
        rw [x35] at e35 hpl
        rw [Bool.or_false] at hpl
        cases off with
        | true =>
          rw [if_pos rfl] at hpl
          repeat (first | simp only [go_sem, i0, i5, i4, bs_size, hb, vo_ix, idxB_bs, Option.map_some, e35, e10, Bool.not_true, Bool.not_false, N0] | simp (disch := first | exact oa | fail) only [AX, Int.reduceToNat, Int.reducePow, Nat.reducePow, i0, i5, i4, bs_size, hb, vo_ix, idxB_bs, Option.map_some, e35, e10, Bool.not_true, Bool.not_false, N0] | refine wki ?_ | refine wqn ?_)
          exact ⟨⟨i + 1, true, o, rfl, by omega, rfl, by omega, hpl, hc⟩, by omega⟩
        | false =>
          rw [if_neg (by simp)] at hpl
          have hpl' : plainL false l = (o ++ [b]) ++ plainL false (l.drop (i + 1)) := by rw [hpl, List.append_assoc]; rfl
          rcases hc with ⟨rfl, i3⟩ | ⟨g, h0, i3, iO⟩
          · repeat (first | simp only [go_sem, i0, i5, i4, i3, bs_size, hb, vo_ix, idxB_bs, Option.map_some, e35, e10, Bool.not_true, Bool.not_false, N0] | simp (disch := first | exact oa | fail) only [AX, Int.reduceToNat, Int.reducePow, Nat.reducePow, i0, i5, i4, i3, bs_size, hb, vo_ix, idxB_bs, Option.map_some, e35, e10, Bool.not_true, Bool.not_false, N0] | refine wki ?_ | refine wqn ?_)
            exact ⟨⟨i + 1, false, [b], rfl, by omega, rfl, by simp, hpl', .inr ⟨s.gen 27, by simp, rfl, by rw [if_pos rfl]; rfl⟩⟩, by omega⟩
          · repeat (first | simp only [go_sem, i0, i5, i4, i3, iO, bs_size, hb, vo_ix, idxB_bs, Option.map_some, e35, e10, Bool.not_true, Bool.not_false, N0, hbl, hsn] | simp (disch := first | exact oa | fail) only [AX, Int.reduceToNat, Int.reducePow, Nat.reducePow, i0, i5, i4, i3, iO, bs_size, hb, vo_ix, idxB_bs, Option.map_some, e35, e10, Bool.not_true, Bool.not_false, N0, hbl, hsn] | refine wki ?_ | refine wqn ?_)
            exact ⟨⟨i + 1, false, o ++ [b], rfl, by omega, rfl, by simp; omega, hpl', .inr ⟨g, by simp, by simp, by rw [if_pos rfl]⟩⟩, by omega⟩
end Go.Proofs.YticocojomlfhgaaGreatDoor
set_option maxHeartbeats 4000000
namespace Go.Proofs.YticocojomlfhgaaGreatDoor
open Go.Ev
theorem natD_two {s : List UInt8} (hd : digs s = true) (hl : s.length <= 2) (i : Nat) : natD (s.take i) < 100 := by
  have hdt : digs (s.take i) = true := by unfold digs; exact List.all_eq_true.2 fun x hx => List.all_eq_true.1 hd x (List.mem_of_mem_take hx)
  have h1 := natD_lt hdt
  have h2 : (s.take i).length <= 2 := by rw [List.length_take]; omega
  have h3 : 10 ^ (s.take i).length <= 10 ^ 2 := Nat.pow_le_pow_right (by omega) h2
  omega
theorem expo_body (l s : List UInt8) (ng : Bool) (hl : l.length <= 60)
    (hsg : ((ng = true /\ l[0]? = some 45) \/ (ng = false /\ l[0]? = some 43)) /\ (l == []) = false /\ (l.drop 1).take (l.length - 1) = s /\ l.length = s.length + 1 \/ (ng = false /\ l = s /\ (s == []) = false /\ ∃ b, s[0]? = some b /\ ((b.toNat : Int) == 45) = false /\ ((b.toNat : Int) == 43) = false)) :
    ∃ k : Int, Go.Ev.Fn CX 88 [.str (bs l)] (.tup [.int .i64 k, .bool (decide (1 <= s.length) && (decide (s.length <= 2) && (digs s && decide (natD s <= 30))))]) /\
      (1 <= s.length -> s.length <= 2 -> digs s = true -> k = if ng = true then - (natD s : Int) else (natD s : Int)) := by
  have pre : ∃ b, l[0]? = some b /\ (l == []) = false /\ ∃ x y, ((b.toNat : Int) == 45) = x /\ ((b.toNat : Int) == 43) = y /\ (((x = true /\ ng = true) \/ (x = false /\ y = true /\ ng = false)) /\ (l.drop 1).take (l.length - 1) = s /\ l.length = s.length + 1 \/ (x = false /\ y = false /\ ng = false /\ l = s)) := by
    rcases hsg with ⟨h1 | h1, h2, h3, h4⟩ | ⟨h1, rfl, h2, b, h3, h4, h5⟩
    · exact ⟨45, h1.2, h2, _, _, rfl, rfl, .inl ⟨.inl ⟨rfl, h1.1⟩, h3, h4⟩⟩
    · exact ⟨43, h1.2, h2, _, _, rfl, rfl, .inl ⟨.inr ⟨rfl, rfl, h1.1⟩, h3, h4⟩⟩
    · exact ⟨b, h3, h2, _, _, rfl, rfl, .inr ⟨h4, h5, h1, rfl⟩⟩
  clear hsg
  obtain ⟨b, hx0, hne, x, y, hbq, hbp, hcase⟩ := pre
  have hsl : (x = false /\ y = false) \/ (l.drop 1).take (l.length - 1) = s := by
    rcases hcase with ⟨_, h, _⟩ | ⟨h1, h2, _⟩
    · exact .inr h
    · exact .inl ⟨h1, h2⟩
  have hls : s.length <= 60 := by
    rcases hcase with ⟨_, _, h⟩ | ⟨_, _, _, h⟩
    · omega
    · rw [<- h]; exact hl
  by_cases c1 : s.length < 1
  · refine ⟨0, ?_, fun h => by omega⟩
    rw [decide_eq_false (by omega), Bool.false_and]
    rcases hcase with ⟨⟨rfl, rfl⟩ | ⟨rfl, rfl, rfl⟩, hsl, hll⟩ | ⟨rfl, rfl, rfl, rfl⟩
    · refine fni Tryz.f88 ?_; unfold Tryz.f88; simp only [Option.get!_some]
      repeat (first | simp only [go_sem, mk_bs, bs_list, bs_size, vo_ix, idxB_bs, Option.map_some, hne, Bool.not_false, hx0, hbq, hbp, bs_extract, hsl] | simp (disch := first | exact oa | fail) only [AX, Int.reduceToNat, Int.reducePow, Nat.reducePow, mk_bs, bs_list, bs_size, vo_ix, idxB_bs, Option.map_some, hne, Bool.not_false, hx0, hbq, hbp, bs_extract, hsl] | refine wki ?_ | refine wqn ?_)
    · refine fni Tryz.f88 ?_; unfold Tryz.f88; simp only [Option.get!_some]
      repeat (first | simp only [go_sem, mk_bs, bs_list, bs_size, vo_ix, idxB_bs, Option.map_some, hne, Bool.not_false, hx0, hbq, hbp, bs_extract, hsl] | simp (disch := first | exact oa | fail) only [AX, Int.reduceToNat, Int.reducePow, Nat.reducePow, mk_bs, bs_list, bs_size, vo_ix, idxB_bs, Option.map_some, hne, Bool.not_false, hx0, hbq, hbp, bs_extract, hsl] | refine wki ?_ | refine wqn ?_)
    · refine fni Tryz.f88 ?_; unfold Tryz.f88; simp only [Option.get!_some]
      repeat (first | simp only [go_sem, mk_bs, bs_list, bs_size, vo_ix, idxB_bs, Option.map_some, hne, Bool.not_false, hx0, hbq, hbp, bs_extract] | simp (disch := first | exact oa | fail) only [AX, Int.reduceToNat, Int.reducePow, Nat.reducePow, mk_bs, bs_list, bs_size, vo_ix, idxB_bs, Option.map_some, hne, Bool.not_false, hx0, hbq, hbp, bs_extract] | refine wki ?_ | refine wqn ?_)
  by_cases c2 : 2 < s.length
  · refine ⟨0, ?_, fun _ h => by omega⟩
    rw [decide_eq_true (by omega : 1 <= s.length), decide_eq_false (by omega : ¬ s.length <= 2), Bool.false_and, Bool.and_false]
    rcases hcase with ⟨⟨rfl, rfl⟩ | ⟨rfl, rfl, rfl⟩, hsl, hll⟩ | ⟨rfl, rfl, rfl, rfl⟩
    · refine fni Tryz.f88 ?_; unfold Tryz.f88; simp only [Option.get!_some]
      repeat (first | simp only [go_sem, mk_bs, bs_list, bs_size, vo_ix, idxB_bs, Option.map_some, hne, Bool.not_false, hx0, hbq, hbp, bs_extract, hsl] | simp (disch := first | exact oa | fail) only [AX, Int.reduceToNat, Int.reducePow, Nat.reducePow, mk_bs, bs_list, bs_size, vo_ix, idxB_bs, Option.map_some, hne, Bool.not_false, hx0, hbq, hbp, bs_extract, hsl] | refine wki ?_ | refine wqn ?_)
    · refine fni Tryz.f88 ?_; unfold Tryz.f88; simp only [Option.get!_some]
      repeat (first | simp only [go_sem, mk_bs, bs_list, bs_size, vo_ix, idxB_bs, Option.map_some, hne, Bool.not_false, hx0, hbq, hbp, bs_extract, hsl] | simp (disch := first | exact oa | fail) only [AX, Int.reduceToNat, Int.reducePow, Nat.reducePow, mk_bs, bs_list, bs_size, vo_ix, idxB_bs, Option.map_some, hne, Bool.not_false, hx0, hbq, hbp, bs_extract, hsl] | refine wki ?_ | refine wqn ?_)
    · refine fni Tryz.f88 ?_; unfold Tryz.f88; simp only [Option.get!_some]
      repeat (first | simp only [go_sem, mk_bs, bs_list, bs_size, vo_ix, idxB_bs, Option.map_some, hne, Bool.not_false, hx0, hbq, hbp, bs_extract] | simp (disch := first | exact oa | fail) only [AX, Int.reduceToNat, Int.reducePow, Nat.reducePow, mk_bs, bs_list, bs_size, vo_ix, idxB_bs, Option.map_some, hne, Bool.not_false, hx0, hbq, hbp, bs_extract] | refine wki ?_ | refine wqn ?_)
  rw [decide_eq_true (by omega : 1 <= s.length), decide_eq_true (by omega : s.length <= 2), Bool.true_and, Bool.true_and]
  cases hd : digs s with
  | false =>
    refine ⟨0, ?_, fun _ _ h => by cases h⟩
    rw [Bool.false_and]
    have hsh := tw_short hd
    have hle := tw_le (p := dig) (l := s)
    have hbad := (tw_end (p := dig) (l := s)).resolve_left hsh
    rcases hcase with ⟨⟨rfl, rfl⟩ | ⟨rfl, rfl, rfl⟩, hsl, hll⟩ | ⟨rfl, rfl, rfl, rfl⟩
    · refine fni Tryz.f88 ?_; unfold Tryz.f88; simp only [Option.get!_some]
      repeat (first | simp only [go_sem, mk_bs, bs_list, bs_size, vo_ix, idxB_bs, Option.map_some, hne, Bool.not_false, hx0, hbq, hbp, bs_extract, hsl] | simp (disch := first | exact oa | fail) only [AX, Int.reduceToNat, Int.reducePow, Nat.reducePow, mk_bs, bs_list, bs_size, vo_ix, idxB_bs, Option.map_some, hne, Bool.not_false, hx0, hbq, hbp, bs_extract, hsl] | refine wki ?_ | refine wqn ?_)
      refine vp_loop_inv (fun st => st.tmp 0 = .sv (.str (bs s)) /\ st.tmp 4 = .sv (.bool true) /\ ∃ (i : Nat) (z : Int), st.tmp 6 = .sv (.int .i64 (i : Int)) /\ i <= (s.takeWhile dig).length /\ st.tmp 5 = .sv (.int .i64 z))
        (fun st => match st.tmp 6 with | .sv (.int _ i) => (s.takeWhile dig).length - i.toNat | _ => 0) ⟨rfl, rfl, 0, 0, rfl, by omega, rfl⟩ ?_
      rintro st ⟨i0, i4, i, z, i6, hi, i5⟩
      by_cases hend : i = (s.takeWhile dig).length
      · obtain ⟨c, hc, hdc⟩ := hbad
        rw [<- hend] at hc
        have hlt : i < s.length := by omega
        have dg := ref16_digit c
        rw [hdc] at dg
        clear hend
        repeat (first | simp only [go_sem, i0, i4, i6, i5, bs_size, hc, vo_ix, idxB_bs, Option.map_some, Bool.not_false] | simp (disch := first | exact oa | fail) only [AX, Int.reduceToNat, Int.reducePow, Nat.reducePow, i0, i4, i6, i5, bs_size, hc, vo_ix, idxB_bs, Option.map_some, Bool.not_false] | refine wki ?_ | refine wqn ?_ | refine vf_of (by first | exact dg) ?_)
      · obtain ⟨c, hc, hdc⟩ := tw_lt (p := dig) (l := s) (i := i) (by omega)
        have dg := ref16_digit c
        rw [hdc] at dg
        repeat (first | simp only [go_sem, i0, i4, i6, i5, bs_size, hc, vo_ix, idxB_bs, Option.map_some, Bool.not_true] | simp (disch := first | exact oa | fail) only [AX, Int.reduceToNat, Int.reducePow, Nat.reducePow, i0, i4, i6, i5, bs_size, hc, vo_ix, idxB_bs, Option.map_some, Bool.not_true] | refine wki ?_ | refine wqn ?_ | refine vf_of (by first | exact dg) ?_)
        exact ⟨⟨i + 1, _, rfl, by omega, rfl⟩, by omega⟩
    · refine fni Tryz.f88 ?_; unfold Tryz.f88; simp only [Option.get!_some]
      repeat (first | simp only [go_sem, mk_bs, bs_list, bs_size, vo_ix, idxB_bs, Option.map_some, hne, Bool.not_false, hx0, hbq, hbp, bs_extract, hsl] | simp (disch := first | exact oa | fail) only [AX, Int.reduceToNat, Int.reducePow, Nat.reducePow, mk_bs, bs_list, bs_size, vo_ix, idxB_bs, Option.map_some, hne, Bool.not_false, hx0, hbq, hbp, bs_extract, hsl] | refine wki ?_ | refine wqn ?_)
      refine vp_loop_inv (fun st => st.tmp 0 = .sv (.str (bs s)) /\ st.tmp 4 = .sv (.bool false) /\ ∃ (i : Nat) (z : Int), st.tmp 6 = .sv (.int .i64 (i : Int)) /\ i <= (s.takeWhile dig).length /\ st.tmp 5 = .sv (.int .i64 z))
        (fun st => match st.tmp 6 with | .sv (.int _ i) => (s.takeWhile dig).length - i.toNat | _ => 0) ⟨rfl, rfl, 0, 0, rfl, by omega, rfl⟩ ?_
      rintro st ⟨i0, i4, i, z, i6, hi, i5⟩
      by_cases hend : i = (s.takeWhile dig).length
      · obtain ⟨c, hc, hdc⟩ := hbad
        rw [<- hend] at hc
        have hlt : i < s.length := by omega
        have dg := ref16_digit c
        rw [hdc] at dg
        clear hend
        repeat (first | simp only [go_sem, i0, i4, i6, i5, bs_size, hc, vo_ix, idxB_bs, Option.map_some, Bool.not_false] | simp (disch := first | exact oa | fail) only [AX, Int.reduceToNat, Int.reducePow, Nat.reducePow, i0, i4, i6, i5, bs_size, hc, vo_ix, idxB_bs, Option.map_some, Bool.not_false] | refine wki ?_ | refine wqn ?_ | refine vf_of (by first | exact dg) ?_)
      · obtain ⟨c, hc, hdc⟩ := tw_lt (p := dig) (l := s) (i := i) (by omega)
        have dg := ref16_digit c
        rw [hdc] at dg
        repeat (first | simp only [go_sem, i0, i4, i6, i5, bs_size, hc, vo_ix, idxB_bs, Option.map_some, Bool.not_true] | simp (disch := first | exact oa | fail) only [AX, Int.reduceToNat, Int.reducePow, Nat.reducePow, i0, i4, i6, i5, bs_size, hc, vo_ix, idxB_bs, Option.map_some, Bool.not_true] | refine wki ?_ | refine wqn ?_ | refine vf_of (by first | exact dg) ?_)
        exact ⟨⟨i + 1, _, rfl, by omega, rfl⟩, by omega⟩
    · refine fni Tryz.f88 ?_; unfold Tryz.f88; simp only [Option.get!_some]
      repeat (first | simp only [go_sem, mk_bs, bs_list, bs_size, vo_ix, idxB_bs, Option.map_some, hne, Bool.not_false, hx0, hbq, hbp, bs_extract] | simp (disch := first | exact oa | fail) only [AX, Int.reduceToNat, Int.reducePow, Nat.reducePow, mk_bs, bs_list, bs_size, vo_ix, idxB_bs, Option.map_some, hne, Bool.not_false, hx0, hbq, hbp, bs_extract] | refine wki ?_ | refine wqn ?_)
      refine vp_loop_inv (fun st => st.tmp 0 = .sv (.str (bs l)) /\ st.tmp 4 = .sv (.bool false) /\ ∃ (i : Nat) (z : Int), st.tmp 6 = .sv (.int .i64 (i : Int)) /\ i <= (l.takeWhile dig).length /\ st.tmp 5 = .sv (.int .i64 z))
        (fun st => match st.tmp 6 with | .sv (.int _ i) => (l.takeWhile dig).length - i.toNat | _ => 0) ⟨rfl, rfl, 0, 0, rfl, by omega, rfl⟩ ?_
      rintro st ⟨i0, i4, i, z, i6, hi, i5⟩
      by_cases hend : i = (l.takeWhile dig).length
      · obtain ⟨c, hc, hdc⟩ := hbad
        rw [<- hend] at hc
        have hlt : i < l.length := by omega
        have dg := ref16_digit c
        rw [hdc] at dg
        clear hend
        repeat (first | simp only [go_sem, i0, i4, i6, i5, bs_size, hc, vo_ix, idxB_bs, Option.map_some, Bool.not_false] | simp (disch := first | exact oa | fail) only [AX, Int.reduceToNat, Int.reducePow, Nat.reducePow, i0, i4, i6, i5, bs_size, hc, vo_ix, idxB_bs, Option.map_some, Bool.not_false] | refine wki ?_ | refine wqn ?_ | refine vf_of (by first | exact dg) ?_)
      · obtain ⟨c, hc, hdc⟩ := tw_lt (p := dig) (l := l) (i := i) (by omega)
        have dg := ref16_digit c
        rw [hdc] at dg
        repeat (first | simp only [go_sem, i0, i4, i6, i5, bs_size, hc, vo_ix, idxB_bs, Option.map_some, Bool.not_true] | simp (disch := first | exact oa | fail) only [AX, Int.reduceToNat, Int.reducePow, Nat.reducePow, i0, i4, i6, i5, bs_size, hc, vo_ix, idxB_bs, Option.map_some, Bool.not_true] | refine wki ?_ | refine wqn ?_ | refine vf_of (by first | exact dg) ?_)
        exact ⟨⟨i + 1, _, rfl, by omega, rfl⟩, by omega⟩
  | true =>
    refine ⟨if ng = true then - (natD s : Int) else (natD s : Int), ?_, fun _ _ _ => rfl⟩
    rw [Bool.true_and]
    rcases hcase with ⟨⟨rfl, rfl⟩ | ⟨rfl, rfl, rfl⟩, hsl, hll⟩ | ⟨rfl, rfl, rfl, rfl⟩
    · refine fni Tryz.f88 ?_; unfold Tryz.f88; simp only [Option.get!_some]
      repeat (first | simp only [go_sem, mk_bs, bs_list, bs_size, vo_ix, idxB_bs, Option.map_some, hne, Bool.not_false, hx0, hbq, hbp, bs_extract, hsl] | simp (disch := first | exact oa | fail) only [AX, Int.reduceToNat, Int.reducePow, Nat.reducePow, mk_bs, bs_list, bs_size, vo_ix, idxB_bs, Option.map_some, hne, Bool.not_false, hx0, hbq, hbp, bs_extract, hsl] | refine wki ?_ | refine wqn ?_)
      refine vp_loop_inv (fun st => st.tmp 0 = .sv (.str (bs s)) /\ st.tmp 4 = .sv (.bool true) /\ ∃ i : Nat, st.tmp 6 = .sv (.int .i64 (i : Int)) /\ i <= s.length /\ st.tmp 5 = .sv (.int .i64 (natD (s.take i) : Int)))
        (fun st => match st.tmp 6 with | .sv (.int _ i) => s.length - i.toNat | _ => 0) ⟨rfl, rfl, 0, rfl, by omega, rfl⟩ ?_
      rintro st ⟨i0, i4, i, i6, hi, i5⟩
      have hN := natD_two hd (by omega) i
      by_cases hend : i = s.length
      · subst hend
        rw [List.take_length] at i5 hN
        generalize natD s = N at *
        have hDec : decide ((N : Int) <= 30) = decide (N <= 30) := by rw [decide_eq_decide]; omega
        repeat (first | simp only [go_sem, i0, i4, i6, i5, bs_size] | simp (disch := first | exact oa | fail) only [AX, Int.reduceToNat, Int.reducePow, Nat.reducePow, i0, i4, i6, i5, bs_size] | refine wki ?_ | refine wqn ?_)
        exact ⟨by rw [Int.zero_sub], by rw [hDec]⟩
      · obtain ⟨c, hc⟩ : ∃ c, s[i]? = some c := ⟨_, List.getElem?_eq_getElem (by omega)⟩
        have hdc : dig c = true := digs_mem hd (List.mem_of_getElem? hc)
        have dg := ref16_digit c
        rw [hdc] at dg
        have hsn := natD_take_succ hc
        unfold dig at hdc
        simp only [Bool.and_eq_true, decide_eq_true_eq] at hdc
        generalize natD (s.take i) = N at *
        generalize hMe : natD (s.take (i + 1)) = M at *
        have hM : (10 * (N : Int) + (c.toNat : Int) - 48) = (M : Int) := by omega
        repeat (first | simp only [go_sem, i0, i4, i6, i5, bs_size, hc, vo_ix, idxB_bs, Option.map_some, Bool.not_true, hM] | simp (disch := first | exact oa | fail) only [AX, Int.reduceToNat, Int.reducePow, Nat.reducePow, i0, i4, i6, i5, bs_size, hc, vo_ix, idxB_bs, Option.map_some, Bool.not_true, hM] | refine wki ?_ | refine wqn ?_ | refine vf_of (by first | exact dg) ?_)
        exact ⟨⟨i + 1, rfl, by omega, by rw [hMe]⟩, by omega⟩
    · refine fni Tryz.f88 ?_; unfold Tryz.f88; simp only [Option.get!_some]
      repeat (first | simp only [go_sem, mk_bs, bs_list, bs_size, vo_ix, idxB_bs, Option.map_some, hne, Bool.not_false, hx0, hbq, hbp, bs_extract, hsl] | simp (disch := first | exact oa | fail) only [AX, Int.reduceToNat, Int.reducePow, Nat.reducePow, mk_bs, bs_list, bs_size, vo_ix, idxB_bs, Option.map_some, hne, Bool.not_false, hx0, hbq, hbp, bs_extract, hsl] | refine wki ?_ | refine wqn ?_)
      refine vp_loop_inv (fun st => st.tmp 0 = .sv (.str (bs s)) /\ st.tmp 4 = .sv (.bool false) /\ ∃ i : Nat, st.tmp 6 = .sv (.int .i64 (i : Int)) /\ i <= s.length /\ st.tmp 5 = .sv (.int .i64 (natD (s.take i) : Int)))
        (fun st => match st.tmp 6 with | .sv (.int _ i) => s.length - i.toNat | _ => 0) ⟨rfl, rfl, 0, rfl, by omega, rfl⟩ ?_
      rintro st ⟨i0, i4, i, i6, hi, i5⟩
      have hN := natD_two hd (by omega) i
      by_cases hend : i = s.length
      · subst hend
        rw [List.take_length] at i5 hN
        generalize natD s = N at *
        have hDec : decide ((N : Int) <= 30) = decide (N <= 30) := by rw [decide_eq_decide]; omega
        repeat (first | simp only [go_sem, i0, i4, i6, i5, bs_size] | simp (disch := first | exact oa | fail) only [AX, Int.reduceToNat, Int.reducePow, Nat.reducePow, i0, i4, i6, i5, bs_size] | refine wki ?_ | refine wqn ?_)
        rw [hDec]
      · obtain ⟨c, hc⟩ : ∃ c, s[i]? = some c := ⟨_, List.getElem?_eq_getElem (by omega)⟩
        have hdc : dig c = true := digs_mem hd (List.mem_of_getElem? hc)
        have dg := ref16_digit c
        rw [hdc] at dg
        have hsn := natD_take_succ hc
        unfold dig at hdc
        simp only [Bool.and_eq_true, decide_eq_true_eq] at hdc
        generalize natD (s.take i) = N at *
        generalize hMe : natD (s.take (i + 1)) = M at *
        have hM : (10 * (N : Int) + (c.toNat : Int) - 48) = (M : Int) := by omega
        repeat (first | simp only [go_sem, i0, i4, i6, i5, bs_size, hc, vo_ix, idxB_bs, Option.map_some, Bool.not_true, hM] | simp (disch := first | exact oa | fail) only [AX, Int.reduceToNat, Int.reducePow, Nat.reducePow, i0, i4, i6, i5, bs_size, hc, vo_ix, idxB_bs, Option.map_some, Bool.not_true, hM] | refine wki ?_ | refine wqn ?_ | refine vf_of (by first | exact dg) ?_)
        exact ⟨⟨i + 1, rfl, by omega, by rw [hMe]⟩, by omega⟩
    · refine fni Tryz.f88 ?_; unfold Tryz.f88; simp only [Option.get!_some]
      repeat (first | simp only [go_sem, mk_bs, bs_list, bs_size, vo_ix, idxB_bs, Option.map_some, hne, Bool.not_false, hx0, hbq, hbp, bs_extract] | simp (disch := first | exact oa | fail) only [AX, Int.reduceToNat, Int.reducePow, Nat.reducePow, mk_bs, bs_list, bs_size, vo_ix, idxB_bs, Option.map_some, hne, Bool.not_false, hx0, hbq, hbp, bs_extract] | refine wki ?_ | refine wqn ?_)
      refine vp_loop_inv (fun st => st.tmp 0 = .sv (.str (bs l)) /\ st.tmp 4 = .sv (.bool false) /\ ∃ i : Nat, st.tmp 6 = .sv (.int .i64 (i : Int)) /\ i <= l.length /\ st.tmp 5 = .sv (.int .i64 (natD (l.take i) : Int)))
        (fun st => match st.tmp 6 with | .sv (.int _ i) => l.length - i.toNat | _ => 0) ⟨rfl, rfl, 0, rfl, by omega, rfl⟩ ?_
      rintro st ⟨i0, i4, i, i6, hi, i5⟩
      have hN := natD_two hd (by omega) i
      by_cases hend : i = l.length
      · subst hend
        rw [List.take_length] at i5 hN
        generalize natD l = N at *
        have hDec : decide ((N : Int) <= 30) = decide (N <= 30) := by rw [decide_eq_decide]; omega
        repeat (first | simp only [go_sem, i0, i4, i6, i5, bs_size] | simp (disch := first | exact oa | fail) only [AX, Int.reduceToNat, Int.reducePow, Nat.reducePow, i0, i4, i6, i5, bs_size] | refine wki ?_ | refine wqn ?_)
        rw [hDec]
      · obtain ⟨c, hc⟩ : ∃ c, l[i]? = some c := ⟨_, List.getElem?_eq_getElem (by omega)⟩
        have hdc : dig c = true := digs_mem hd (List.mem_of_getElem? hc)
        have dg := ref16_digit c
        rw [hdc] at dg
        have hsn := natD_take_succ hc
        unfold dig at hdc
        simp only [Bool.and_eq_true, decide_eq_true_eq] at hdc
        generalize natD (l.take i) = N at *
        generalize hMe : natD (l.take (i + 1)) = M at *
        have hM : (10 * (N : Int) + (c.toNat : Int) - 48) = (M : Int) := by omega
        repeat (first | simp only [go_sem, i0, i4, i6, i5, bs_size, hc, vo_ix, idxB_bs, Option.map_some, Bool.not_true, hM] | simp (disch := first | exact oa | fail) only [AX, Int.reduceToNat, Int.reducePow, Nat.reducePow, i0, i4, i6, i5, bs_size, hc, vo_ix, idxB_bs, Option.map_some, Bool.not_true, hM] | refine wki ?_ | refine wqn ?_ | refine vf_of (by first | exact dg) ?_)
        exact ⟨⟨i + 1, rfl, by omega, by rw [hMe]⟩, by omega⟩
theorem ref16_expo (l : List UInt8) (hl : l.length <= 60) : ∃ k : Int, Go.Ev.Fn CX 88 [.str (bs l)] (.tup [.int .i64 k, .bool (docE l).isSome]) /\ ∀ v, docE l = some v -> k = v := by
  have fin : ∀ s : List UInt8, tailPM l = s -> ∀ ng : Bool, (decide (l.head? = some 45)) = ng -> (∃ k : Int, Go.Ev.Fn CX 88 [.str (bs l)] (.tup [.int .i64 k, .bool (decide (1 <= s.length) && (decide (s.length <= 2) && (digs s && decide (natD s <= 30))))]) /\
      (1 <= s.length -> s.length <= 2 -> digs s = true -> k = if ng = true then - (natD s : Int) else (natD s : Int))) ->
      ∃ k : Int, Go.Ev.Fn CX 88 [.str (bs l)] (.tup [.int .i64 k, .bool (docE l).isSome]) /\ ∀ v, docE l = some v -> k = v := by
    intro s hs ng hng h
    obtain ⟨k, h1, h2⟩ := h
    refine ⟨k, ?_, ?_⟩
    · have e : (docE l).isSome = (decide (1 <= s.length) && (decide (s.length <= 2) && (digs s && decide (natD s <= 30)))) := by
        unfold docE
        rw [hs]
        by_cases c1 : s.length < 1
        · rw [if_pos (.inl c1), decide_eq_false (by omega : ¬ 1 <= s.length)]
          rfl
        by_cases c2 : s.length > 2
        · rw [if_pos (.inr (.inl c2)), decide_eq_false (by omega : ¬ s.length <= 2), Bool.false_and, Bool.and_false]
          rfl
        rw [decide_eq_true (by omega : 1 <= s.length), decide_eq_true (by omega : s.length <= 2), Bool.true_and, Bool.true_and]
        cases hd : digs s with
        | false => rw [if_pos (.inr (.inr rfl))]; rfl
        | true =>
          rw [if_neg (by
            rintro (h | h | h)
            · exact c1 h
            · exact c2 h
            · cases h), Bool.true_and]
          by_cases c3 : natD s <= 30
          · rw [if_pos c3, decide_eq_true c3]; rfl
          · rw [if_neg c3, decide_eq_false c3]; rfl
      rw [e]
      exact h1
    · intro v hv
      unfold docE at hv
      rw [hs] at hv
      split at hv
      · cases hv
      · rename_i hc
        split at hv
        · cases hv
          have hd : digs s = true := by
            cases e : digs s with
            | true => rfl
            | false => exact absurd (.inr (.inr e)) hc
          rw [h2 (by
            rcases Nat.lt_or_ge s.length 1 with h | h
            · exact absurd (.inl h) hc
            · exact h) (by
            rcases Nat.lt_or_ge 2 s.length with h | h
            · exact absurd (.inr (.inl h)) hc
            · exact h) hd]
          by_cases e : l.head? = some 45
          · rw [decide_eq_true e] at hng
            rw [<- hng, if_pos rfl, if_pos e]
          · rw [decide_eq_false e] at hng
            rw [<- hng, if_neg (by simp), if_neg e]
        · cases hv
  cases l with
  | nil =>
    refine ⟨0, ?_, fun v hv => by cases hv⟩
    rw [show (docE []).isSome = false from rfl]
    refine fni Tryz.f88 ?_; unfold Tryz.f88; simp only [Option.get!_some]
    repeat (first | simp only [go_sem, mk_bs, bs_list, bs_size, nil_beq, Bool.not_true] | simp (disch := first | exact oa | fail) only [AX, Int.reduceToNat, Int.reducePow, Nat.reducePow, mk_bs, bs_list, bs_size, nil_beq, Bool.not_true] | refine wki ?_ | refine wqn ?_)
  | cons c r =>
    by_cases h45 : c = 45
    · subst h45
      exact fin r rfl true rfl (expo_body (45 :: r) r true hl (.inl ⟨.inl ⟨rfl, rfl⟩, rfl, List.take_of_length_le (Nat.le_refl _), rfl⟩))
    · by_cases h43 : c = 43
      · subst h43
        exact fin r rfl false rfl (expo_body (43 :: r) r false hl (.inl ⟨.inr ⟨rfl, rfl⟩, rfl, List.take_of_length_le (Nat.le_refl _), rfl⟩))
      · have ht : tailPM (c :: r) = c :: r := by
          unfold tailPM
          rw [if_neg]
          simp [h45, h43]
        refine fin (c :: r) ht false (decide_eq_false (by simpa using h45)) (expo_body (c :: r) (c :: r) false hl (.inr ⟨rfl, rfl, rfl, c, rfl, ?_, ?_⟩))
        · exact (u8_eq c 45 (by omega)).trans (beq_eq_false_iff_ne.2 h45)
        · exact (u8_eq c 43 (by omega)).trans (beq_eq_false_iff_ne.2 h43)
end Go.Proofs.YticocojomlfhgaaGreatDoor
set_option maxHeartbeats 4000000
namespace Go.Proofs.YticocojomlfhgaaGreatDoor
open Go.Ev
theorem doc_exp_le {l : List UInt8} {v : Int} (h : docE l = some v) : v.natAbs <= 30 := by
  unfold docE at h
  split at h
  · cases h
  · split at h
    · rename_i hn
      cases h
      split <;> omega
    · cases h
theorem ref16_Number (l : List UInt8) (hl : l.length <= 100000) : Go.Ev.Fn CX 65 [.str (bs l)] (.tup [rv (numP l).2, .int .i64 ((numP l).1 : Int)]) := by
  have z := ref2_Int 0 (by omega)
  rw [show (((0 : Int)) : Rat) = 0 by rfl] at z
  rw [doc_num]
  by_cases h60 : 60 < l.length
  · have e : docN l = (3, 0) := by unfold docN; rw [if_pos h60]
    rw [e]
    unfold rv ratV at z ⊢
    refine fni Tryz.f65 ?_; unfold Tryz.f65; simp only [Option.get!_some]
    repeat (first | simp only [go_sem, bs_size] | simp (disch := first | exact oa | fail) only [AX, Int.reduceToNat, Int.reducePow, Nat.reducePow, bs_size] | refine wki ?_ | refine wqn ?_ | refine vpd 13 [] ?_ | refine vpd 14 [] ?_ | refine vf_of (by first | exact z) ?_)
    rfl
  have fd := ref16_find l 101 (by omega)
  cases h101 : l.contains 101 with
  | false =>
    rw [h101, if_neg (by simp)] at fd
    have p := ref3_Parse l (by omega)
    cases hd : docP l with
    | some q =>
      have e : docN l = (0, q) := by unfold docN; rw [if_neg h60, h101, hd]; rfl
      rw [e]
      rw [hd] at p
      unfold docV at p
      dsimp only at p
      unfold rv ratV at z p ⊢
      refine fni Tryz.f65 ?_; unfold Tryz.f65; simp only [Option.get!_some]
      repeat (first | simp only [go_sem, bs_size] | simp (disch := first | exact oa | fail) only [AX, Int.reduceToNat, Int.reducePow, Nat.reducePow, bs_size] | refine wki ?_ | refine wqn ?_ | refine vpd 13 [] ?_ | refine vpd 14 [] ?_ | refine vf_of (by first | exact z | exact fd | exact p) ?_)
      rfl
    | none =>
      have e : docN l = (2, 0) := by unfold docN; rw [if_neg h60, h101, hd]; rfl
      rw [e]
      rw [hd] at p
      unfold docV at p
      dsimp only at p
      unfold rv ratV at z p ⊢
      refine fni Tryz.f65 ?_; unfold Tryz.f65; simp only [Option.get!_some]
      repeat (first | simp only [go_sem, bs_size] | simp (disch := first | exact oa | fail) only [AX, Int.reduceToNat, Int.reducePow, Nat.reducePow, bs_size] | refine wki ?_ | refine wqn ?_ | refine vpd 13 [] ?_ | refine vpd 14 [] ?_ | refine vf_of (by first | exact z | exact fd | exact p) ?_)
      rfl
  | true =>
    rw [h101, if_pos rfl] at fd
    have hcut := cut_at h101
    have hll : l.length = (frontL 101 l).length + ((backL 101 l).length + 1) := by
      have := congrArg List.length hcut
      rw [List.length_append, List.length_cons] at this
      exact this
    have hT : List.take (frontL 101 l).length l = frontL 101 l := by
      have key : ∀ F B : List UInt8, l = F ++ 101 :: B -> List.take F.length l = F := fun F B e => by rw [e, List.take_left]
      exact key _ _ hcut
    have hB : List.drop ((frontL 101 l).length + 1) l = backL 101 l := by
      have key : ∀ F B : List UInt8, l = F ++ 101 :: B -> List.drop (F.length + 1) l = B := fun F B e => by
        rw [e, <- List.drop_drop, List.drop_left]
        rfl
      exact key _ _ hcut
    have hB2 : List.take (l.length - ((frontL 101 l).length + 1)) (backL 101 l) = backL 101 l := List.take_of_length_le (by omega)
    have p := ref3_Parse (frontL 101 l) (by omega)
    obtain ⟨k, ex, hk⟩ := ref16_expo (backL 101 l) (by omega)
    have f47 := ref16_find l 47 (by omega)
    have hN : docN l = (match docP (frontL 101 l), docE (backL 101 l) with
      | some q, some k => if l.contains 47 then (2, 0) else (0, q * tenR k)
      | _, _ => (2, 0)) := by unfold docN; rw [if_neg h60, h101]; rfl
    rw [hN]
    clear hN hcut
    have hsz : ∀ q, docP (frontL 101 l) = some q -> szR q 401 := fun q h => szR_decP (l := frontL 101 l) (by rw [doc_dec (by omega)]; exact h) (by omega)
    have hkl : ∀ v, docE (backL 101 l) = some v -> v.natAbs <= 30 := fun v => doc_exp_le
    generalize frontL 101 l = F at *
    generalize backL 101 l = B at *
    cases hd : docP F with
    | none =>
      rw [hd] at p
      unfold docV at p
      dsimp only at p ⊢
      generalize (docE B).isSome = bb at *
      generalize (if l.contains 47 = true then ((frontL 47 l).length : Int) else -1) = f at *
      unfold rv ratV at z p ⊢
      refine fni Tryz.f65 ?_; unfold Tryz.f65; simp only [Option.get!_some]
      repeat (first | simp only [go_sem, bs_size, bs_extract, hT, hB, hB2] | simp (disch := first | exact oa | fail) only [AX, Int.reduceToNat, Int.reducePow, Nat.reducePow, bs_size, bs_extract, hT, hB, hB2] | refine wki ?_ | refine wqn ?_ | refine vpd 13 [] ?_ | refine vpd 14 [] ?_ | refine vf_of (by first | exact z | exact fd | exact p | exact ex) ?_)
      rfl
    | some q =>
      rw [hd] at p
      unfold docV at p
      dsimp only at p
      have hq := RatA_rv (hsz q hd)
      cases hx : docE B with
      | none =>
        rw [hx] at ex
        dsimp only [Option.isSome_none] at ex ⊢
        generalize (if l.contains 47 = true then ((frontL 47 l).length : Int) else -1) = f at *
        unfold rv ratV at z p ⊢
        refine fni Tryz.f65 ?_; unfold Tryz.f65; simp only [Option.get!_some]
        repeat (first | simp only [go_sem, bs_size, bs_extract, hT, hB, hB2, Bool.not_false] | simp (disch := first | exact oa | fail) only [AX, Int.reduceToNat, Int.reducePow, Nat.reducePow, bs_size, bs_extract, hT, hB, hB2, Bool.not_false] | refine wki ?_ | refine wqn ?_ | refine vpd 13 [] ?_ | refine vpd 14 [] ?_ | refine vf_of (by first | exact z | exact fd | exact p | exact ex) ?_)
        rfl
      | some v =>
        have hkv := hk v hx
        subst hkv
        have h30 := hkl k hx
        rw [hx] at ex
        dsimp only [Option.isSome_some] at ex ⊢
        cases h47 : l.contains 47 with
        | true =>
          rw [h47, if_pos rfl] at f47
          rw [if_pos rfl]
          unfold rv ratV at z p ⊢
          refine fni Tryz.f65 ?_; unfold Tryz.f65; simp only [Option.get!_some]
          repeat (first | simp only [go_sem, bs_size, bs_extract, hT, hB, hB2, Bool.not_true] | simp (disch := first | exact oa | fail) only [AX, Int.reduceToNat, Int.reducePow, Nat.reducePow, bs_size, bs_extract, hT, hB, hB2, Bool.not_true] | refine wki ?_ | refine wqn ?_ | refine vpd 13 [] ?_ | refine vpd 14 [] ?_ | refine vf_of (by first | exact z | exact fd | exact p | exact ex | exact f47) ?_)
          rfl
        | false =>
          rw [h47, if_neg (by simp)] at f47
          rw [if_neg (by simp)]
          have tn := ref16_ten k.natAbs (by omega)
          have ht := RatA_rv (sz_ten k.natAbs (by omega))
          by_cases hneg : k < 0
          · have e5 : tenR k = 1 / (10 : Rat) ^ k.natAbs := by unfold tenR; rw [if_pos hneg]
            have e6 : q / (10 : Rat) ^ k.natAbs = q * tenR k := by rw [e5, Rat.div_def, Rat.div_def, Rat.one_mul]
            have dv := ref2_Div hq ht (by omega) (by omega) (by omega)
            rw [e6] at dv
            have e7 : (k.natAbs : Int) = 0 - k := by omega
            rw [e7] at tn
            generalize q * tenR k = r at *
            generalize (10 : Rat) ^ k.natAbs = T at *
            unfold rv ratV at z p dv ⊢
            refine fni Tryz.f65 ?_; unfold Tryz.f65; simp only [Option.get!_some]
            repeat (first | simp only [go_sem, bs_size, bs_extract, hT, hB, hB2, Bool.not_true] | simp (disch := first | exact oa | fail) only [AX, Int.reduceToNat, Int.reducePow, Nat.reducePow, bs_size, bs_extract, hT, hB, hB2, Bool.not_true] | refine wki ?_ | refine wqn ?_ | refine vpd 13 [] ?_ | refine vpd 14 [] ?_ | refine vf_of (by first | exact z | exact fd | exact p | exact ex | exact f47) ?_)
            repeat (first | simp only [go_sem, rv, ratV] | simp (disch := first | exact oa | fail) only [AX, Int.reduceToNat, Int.reducePow, Nat.reducePow, rv, ratV] | refine wki ?_ | refine wqn ?_ | refine vpd 13 [] ?_ | refine vpd 14 [] ?_ | refine vf_of (by first | exact tn | exact dv) ?_)
            rfl
          · have e5 : tenR k = (10 : Rat) ^ k.natAbs := by unfold tenR; rw [if_neg hneg]
            have m := ref2_Mul hq ht (by omega) (by omega) (by omega)
            rw [<- e5] at m tn
            have e7 : (k.natAbs : Int) = k := by omega
            rw [e7] at tn
            generalize hX : q * tenR k = r at *
            generalize tenR k = T at *
            unfold rv ratV at z p m ⊢
            refine fni Tryz.f65 ?_; unfold Tryz.f65; simp only [Option.get!_some]
            repeat (first | simp only [go_sem, bs_size, bs_extract, hT, hB, hB2, Bool.not_true] | simp (disch := first | exact oa | fail) only [AX, Int.reduceToNat, Int.reducePow, Nat.reducePow, bs_size, bs_extract, hT, hB, hB2, Bool.not_true] | refine wki ?_ | refine wqn ?_ | refine vpd 13 [] ?_ | refine vpd 14 [] ?_ | refine vf_of (by first | exact z | exact fd | exact p | exact ex | exact f47) ?_)
            repeat (first | simp only [go_sem, rv, ratV] | simp (disch := first | exact oa | fail) only [AX, Int.reduceToNat, Int.reducePow, Nat.reducePow, rv, ratV] | refine wki ?_ | refine wqn ?_ | refine vpd 13 [] ?_ | refine vpd 14 [] ?_ | refine vf_of (by first | exact tn | exact m) ?_)
            rfl
end Go.Proofs.YticocojomlfhgaaGreatDoor
set_option maxHeartbeats 4000000
namespace Go.Proofs.YticocojomlfhgaaGreatDoor
open Go.Ev
theorem plain_le : ∀ (l : List UInt8) (off : Bool), (plainL off l).length <= l.length
  | [], off => by cases off <;> exact Nat.le_refl _
  | b :: l, off => by
    rw [plain_cons]
    split
    · have := plain_le l false
      simp only [List.length_cons]; omega
    · split
      · have := plain_le l true
        simp only [List.length_cons]; omega
      · have := plain_le l false
        simp only [List.length_cons]; omega
theorem rev_cur {T cur : List UInt8} {f i : Nat} {b : UInt8} (h : cur.reverse = (T.drop f).take (i - f)) (hf : f < i) (hb : T[i]? = some b) : (b :: cur).reverse = (T.drop f).take (i + 1 - f) := by
  rw [List.reverse_cons, h, show i + 1 - f = (i - f) + 1 by omega, List.take_add_one, List.getElem?_drop, show f + (i - f) = i by omega, hb]
  rfl
theorem ref16_Parse (l : List UInt8) (hl : l.length <= 100000) : Go.Ev.Fn CX 42 [.str (bs l)] (.tup [.sl (parseP l).2.length (rvsC (parseP l).2), .int .i64 ((parseP l).1 : Int)]) := by
  have pl := ref16_plain l hl
  have hTl := plain_le l false
  rw [parse_runA]
  generalize plainL false l = T at *
  generalize hA : runA [] (toks [] T) = A at *
  refine fni Tryz.f42 ?_; unfold Tryz.f42; simp only [Option.get!_some]
  repeat (first | simp only [go_sem] | simp (disch := first | exact oa | fail) only [AX, Int.reduceToNat, Int.reducePow, Nat.reducePow] | refine wki ?_ | refine wqn ?_ | refine vf_of (by first | exact pl) ?_)
  refine vp_loop_inv (fun s => s.tmp 0 = .sv (.str (bs T)) /\ ∃ (i : Nat) (cur : List UInt8) (qs : List Rat), s.tmp 6 = .sv (.int .i64 (i : Int)) /\ i <= T.length + 1 /\
      ((cur = [] /\ s.tmp 5 = .sv (.int .i64 (-1))) \/ ∃ f : Nat, s.tmp 5 = .sv (.int .i64 (f : Int)) /\ f < i /\ i <= T.length /\ cur ≠ [] /\ cur.reverse = (T.drop f).take (i - f)) /\
      A = runA qs (if i <= T.length then toks cur (T.drop i) else []) /\ qs.length <= i /\
      ((qs = [] /\ s.tmp 4 = .nil) \/ ∃ g, 0 < qs.length /\ s.tmp 4 = .ref 47 g 3 0 qs.length /\ s.obj 47 g = some (rvsC qs)))
    (fun s => match s.tmp 6 with | .sv (.int _ i) => T.length + 1 - i.toNat | _ => 0) ⟨rfl, 0, [], [], rfl, by omega, .inl ⟨rfl, rfl⟩, by rw [if_pos (Nat.zero_le _)]; exact hA.symm, by simp, .inl ⟨rfl, rfl⟩⟩ ?_
  rintro s ⟨i0, i, cur, qs, i6, hi, hcur, hrun, hq, hrow⟩
  by_cases hend : i = T.length + 1
  · rw [if_neg (by omega), runA_nil] at hrun
    rw [hrun]
    have hfin : finP (0, qs) = if 256 < qs.length then (3, []) else (0, qs) := rfl
    rw [hfin]
    by_cases h256 : 256 < qs.length
    · rw [if_pos h256]
      rcases hrow with ⟨rfl, i4⟩ | ⟨g, h0, i4, iO⟩
      · simp at h256
      · repeat (first | simp only [go_sem, i0, i6, i4, bs_size] | simp (disch := first | exact oa | fail) only [AX, Int.reduceToNat, Int.reducePow, Nat.reducePow, i0, i6, i4, bs_size] | refine wki ?_ | refine wqn ?_)
        exact ⟨rfl, rfl⟩
    · rw [if_neg h256]
      rcases hrow with ⟨rfl, i4⟩ | ⟨g, h0, i4, iO⟩
      · repeat (first | simp only [go_sem, i0, i6, i4, bs_size] | simp (disch := first | exact oa | fail) only [AX, Int.reduceToNat, Int.reducePow, Nat.reducePow, i0, i6, i4, bs_size] | refine wki ?_ | refine wqn ?_)
        exact ⟨rfl, rfl⟩
      · have hrl := rvsC_len qs
        repeat (first | simp only [go_sem, i0, i6, i4, iO, bs_size] | simp (disch := first | exact oa | fail) only [AX, Int.reduceToNat, Int.reducePow, Nat.reducePow, i0, i6, i4, iO, bs_size] | refine wki ?_ | refine wqn ?_)
        refine ⟨ro_ref (cs := rvsC qs) (by decide) ?_ ?_, rfl⟩
        · simp only [go_sem, i4, iO]
        · rw [List.drop_zero, List.take_of_length_le (by omega)]
  · have hile : i <= T.length := by omega
    rw [if_pos hile] at hrun
    by_cases hlt : i < T.length
    · obtain ⟨b, hb⟩ : ∃ b, T[i]? = some b := ⟨_, List.getElem?_eq_getElem hlt⟩
      have hd := drop_get hb
      have gp := ref16_gap b
      cases hg : gapB b with
      | false =>
        rw [hg] at gp
        have htk : toks cur (T.drop i) = toks (b :: cur) (T.drop (i + 1)) := by
          rw [hd]
          show (if gapB b then (if cur = [] then toks [] (T.drop (i + 1)) else cur.reverse :: toks [] (T.drop (i + 1))) else toks (b :: cur) (T.drop (i + 1))) = _
          rw [hg]
          rfl
        rw [htk] at hrun
        have hrun' : A = runA qs (if i + 1 <= T.length then toks (b :: cur) (T.drop (i + 1)) else []) := by rw [if_pos (by omega)]; exact hrun
        rcases hcur with ⟨rfl, i5⟩ | ⟨f, i5, hf1, hf2, hne, hrev⟩
        · repeat (first | simp only [go_sem, i0, i6, i5, bs_size, hb, vo_ix, idxB_bs, Option.map_some] | simp (disch := first | exact oa | fail) only [AX, Int.reduceToNat, Int.reducePow, Nat.reducePow, i0, i6, i5, bs_size, hb, vo_ix, idxB_bs, Option.map_some] | refine wki ?_ | refine wqn ?_)
          refine vf_of (gp) ?_; repeat (first | simp only [go_sem, i0, i6, i5, bs_size, hb, vo_ix, idxB_bs, Option.map_some, Bool.not_false] | simp (disch := first | exact oa | fail) only [AX, Int.reduceToNat, Int.reducePow, Nat.reducePow, i0, i6, i5, bs_size, hb, vo_ix, idxB_bs, Option.map_some, Bool.not_false] | refine wki ?_ | refine wqn ?_)
          exact ⟨⟨i + 1, [b], qs, rfl, by omega, .inr ⟨i, rfl, by omega, by omega, by simp, by rw [show i + 1 - i = 1 by omega, hd]; rfl⟩, hrun', by omega, hrow⟩, by omega⟩
        · repeat (first | simp only [go_sem, i0, i6, i5, bs_size, hb, vo_ix, idxB_bs, Option.map_some] | simp (disch := first | exact oa | fail) only [AX, Int.reduceToNat, Int.reducePow, Nat.reducePow, i0, i6, i5, bs_size, hb, vo_ix, idxB_bs, Option.map_some] | refine wki ?_ | refine wqn ?_)
          refine vf_of (gp) ?_; repeat (first | simp only [go_sem, i0, i6, i5, bs_size, hb, vo_ix, idxB_bs, Option.map_some, Bool.not_false] | simp (disch := first | exact oa | fail) only [AX, Int.reduceToNat, Int.reducePow, Nat.reducePow, i0, i6, i5, bs_size, hb, vo_ix, idxB_bs, Option.map_some, Bool.not_false] | refine wki ?_ | refine wqn ?_)
          exact ⟨⟨i + 1, b :: cur, qs, rfl, by omega, .inr ⟨f, rfl, by omega, by omega, by simp, rev_cur hrev hf1 hb⟩, hrun', by omega, hrow⟩, by omega⟩
      | true =>
        rw [hg] at gp
        have htk : toks cur (T.drop i) = if cur = [] then toks [] (T.drop (i + 1)) else cur.reverse :: toks [] (T.drop (i + 1)) := by
          rw [hd]
          show (if gapB b then (if cur = [] then toks [] (T.drop (i + 1)) else cur.reverse :: toks [] (T.drop (i + 1))) else toks (b :: cur) (T.drop (i + 1))) = _
          rw [hg]
          rfl
        rw [htk] at hrun
        rcases hcur with ⟨rfl, i5⟩ | ⟨f, i5, hf1, hf2, hne, hrev⟩
        · rw [if_pos rfl] at hrun
          repeat (first | simp only [go_sem, i0, i6, i5, bs_size, hb, vo_ix, idxB_bs, Option.map_some, Bool.not_true] | simp (disch := first | exact oa | fail) only [AX, Int.reduceToNat, Int.reducePow, Nat.reducePow, i0, i6, i5, bs_size, hb, vo_ix, idxB_bs, Option.map_some, Bool.not_true] | refine wki ?_ | refine wqn ?_ | refine vf_of (by first | exact gp) ?_)
          exact ⟨⟨i + 1, [], qs, rfl, by omega, .inl rfl, by rw [if_pos (by omega)]; exact hrun, by omega, hrow⟩, by omega⟩
        · rw [if_neg hne, hrev] at hrun
          have nm := ref16_Number ((T.drop f).take (i - f)) (by rw [List.length_take, List.length_drop]; omega)
          generalize hw : (T.drop f).take (i - f) = w at *
          by_cases he : (numP w).1 = 0
          · rw [runA_cons_ok he] at hrun
            rw [he] at nm
            have e0 : (((0 : Nat) : Int) != 0) = false := rfl
            generalize (numP w).2 = q at *
            unfold rv ratV at nm
            rcases hrow with ⟨rfl, i4⟩ | ⟨g, h0, i4, iO⟩
            · repeat (first | simp only [go_sem, i0, i6, i5, i4, bs_size, hb, vo_ix, idxB_bs, Option.map_some] | simp (disch := first | exact oa | fail) only [AX, Int.reduceToNat, Int.reducePow, Nat.reducePow, i0, i6, i5, i4, bs_size, hb, vo_ix, idxB_bs, Option.map_some] | refine wki ?_ | refine wqn ?_)
              repeat (first | simp only [go_sem, i0, i6, i5, bs_size, hb, vo_ix, idxB_bs, Option.map_some, i4, Bool.not_true, bs_extract, hw, e0] | simp (disch := first | exact oa | fail) only [AX, Int.reduceToNat, Int.reducePow, Nat.reducePow, i0, i6, i5, bs_size, hb, vo_ix, idxB_bs, Option.map_some, i4, Bool.not_true, bs_extract, hw, e0] | refine wki ?_ | refine wqn ?_ | refine vf_of (by first | exact gp | exact nm) ?_)
              exact ⟨⟨i + 1, [], [q], rfl, by omega, .inl rfl, by rw [if_pos (by omega)]; exact hrun, by simp, .inr ⟨s.gen 47, by simp, rfl, by rw [if_pos rfl]; rfl⟩⟩, by omega⟩
            · have hrl := rvsC_len qs
              repeat (first | simp only [go_sem, i0, i6, i5, i4, iO, bs_size, hb, vo_ix, idxB_bs, Option.map_some, Bool.not_true, bs_extract, hw, e0, hrl, N0] | simp (disch := first | exact oa | fail) only [AX, Int.reduceToNat, Int.reducePow, Nat.reducePow, i0, i6, i5, i4, iO, bs_size, hb, vo_ix, idxB_bs, Option.map_some, Bool.not_true, bs_extract, hw, e0, hrl, N0] | refine wki ?_ | refine wqn ?_ | refine vf_of (by first | exact gp | exact nm) ?_)
              exact ⟨⟨i + 1, [], qs ++ [q], rfl, by omega, .inl rfl, by rw [if_pos (by omega)]; exact hrun, by simp; omega, .inr ⟨g, by simp, by simp, by rw [if_pos rfl, rvsC_app]; rfl⟩⟩, by omega⟩
          · rw [runA_cons_bad he] at hrun
            rw [hrun]
            have hfin : finP ((numP w).1, []) = ((numP w).1, []) := by
              cases hx : (numP w).1 with
              | zero => exact absurd hx he
              | succ n => rfl
            rw [hfin]
            have e1 : (((numP w).1 : Int) != 0) = true := by rw [bne_iff_ne]; omega
            generalize (numP w).2 = q at *
            generalize (numP w).1 = e at *
            unfold rv ratV at nm
            repeat (first | simp only [go_sem, i0, i6, i5, bs_size, hb, vo_ix, idxB_bs, Option.map_some, Bool.not_true, bs_extract, hw, e1] | simp (disch := first | exact oa | fail) only [AX, Int.reduceToNat, Int.reducePow, Nat.reducePow, i0, i6, i5, bs_size, hb, vo_ix, idxB_bs, Option.map_some, Bool.not_true, bs_extract, hw, e1] | refine wki ?_ | refine wqn ?_ | refine vf_of (by first | exact gp | exact nm) ?_)
            rfl
    · have hiT : i = T.length := by omega
      have htk : toks cur (T.drop i) = if cur = [] then [] else [cur.reverse] := by
        rw [hiT, List.drop_length]
        rfl
      rw [htk] at hrun
      rcases hcur with ⟨rfl, i5⟩ | ⟨f, i5, hf1, hf2, hne, hrev⟩
      · rw [if_pos rfl] at hrun
        repeat (first | simp only [go_sem, i0, i6, i5, bs_size] | simp (disch := first | exact oa | fail) only [AX, Int.reduceToNat, Int.reducePow, Nat.reducePow, i0, i6, i5, bs_size] | refine wki ?_ | refine wqn ?_)
        exact ⟨⟨i + 1, [], qs, rfl, by omega, .inl rfl, by rw [if_neg (by omega)]; exact hrun, by omega, hrow⟩, by omega⟩
      · rw [if_neg hne, hrev] at hrun
        have nm := ref16_Number ((T.drop f).take (i - f)) (by rw [List.length_take, List.length_drop]; omega)
        generalize hw : (T.drop f).take (i - f) = w at *
        by_cases he : (numP w).1 = 0
        · rw [runA_cons_ok he] at hrun
          rw [he] at nm
          have e0 : (((0 : Nat) : Int) != 0) = false := rfl
          generalize (numP w).2 = q at *
          unfold rv ratV at nm
          rcases hrow with ⟨rfl, i4⟩ | ⟨g, h0, i4, iO⟩
          · repeat (first | simp only [go_sem, i0, i6, i5, i4, bs_size, bs_extract, hw] | simp (disch := first | exact oa | fail) only [AX, Int.reduceToNat, Int.reducePow, Nat.reducePow, i0, i6, i5, i4, bs_size, bs_extract, hw] | refine wki ?_ | refine wqn ?_)
            refine vf_of (nm) ?_; repeat (first | simp only [go_sem, i0, i6, i5, bs_size, i4, Bool.not_true, bs_extract, hw, e0] | simp (disch := first | exact oa | fail) only [AX, Int.reduceToNat, Int.reducePow, Nat.reducePow, i0, i6, i5, bs_size, i4, Bool.not_true, bs_extract, hw, e0] | refine wki ?_ | refine wqn ?_)
            exact ⟨⟨i + 1, [], [q], rfl, by omega, .inl rfl, by rw [if_neg (by omega)]; exact hrun, by simp, .inr ⟨s.gen 47, by simp, rfl, by rw [if_pos rfl]; rfl⟩⟩, by omega⟩
          · have hrl := rvsC_len qs
            repeat (first | simp only [go_sem, i0, i6, i5, i4, iO, bs_size, bs_extract, hw, Bool.not_true, e0, hrl, N0] | simp (disch := first | exact oa | fail) only [AX, Int.reduceToNat, Int.reducePow, Nat.reducePow, i0, i6, i5, i4, iO, bs_size, bs_extract, hw, Bool.not_true, e0, hrl, N0] | refine wki ?_ | refine wqn ?_ | refine vf_of (by first | exact nm) ?_)
            exact ⟨⟨i + 1, [], qs ++ [q], rfl, by omega, .inl rfl, by rw [if_neg (by omega)]; exact hrun, by simp; omega, .inr ⟨g, by simp, by simp, by rw [if_pos rfl, rvsC_app]; rfl⟩⟩, by omega⟩
        · rw [runA_cons_bad he] at hrun
          rw [hrun]
          have hfin : finP ((numP w).1, []) = ((numP w).1, []) := by
            cases hx : (numP w).1 with
            | zero => exact absurd hx he
            | succ n => rfl
          rw [hfin]
          have e1 : (((numP w).1 : Int) != 0) = true := by rw [bne_iff_ne]; omega
          generalize (numP w).2 = q at *
          generalize (numP w).1 = e at *
          unfold rv ratV at nm
          repeat (first | simp only [go_sem, i0, i6, i5, bs_size, bs_extract, hw, Bool.not_true, e1] | simp (disch := first | exact oa | fail) only [AX, Int.reduceToNat, Int.reducePow, Nat.reducePow, i0, i6, i5, bs_size, bs_extract, hw, Bool.not_true, e1] | refine wki ?_ | refine wqn ?_ | refine vf_of (by first | exact nm) ?_)
          rfl
end Go.Proofs.YticocojomlfhgaaGreatDoor
