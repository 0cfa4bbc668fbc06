/- Part 8 of the proof: the evaluator, contracts of functions and their plain laws (joined by program). No condition. -/
import Derived.Test.YtdnmhnjblgkjaaaGreatPart7
/- vernierref19.rows, column; vernierref17.Sum, in the evaluator. -/
namespace Go.Proofs.YtdnmhnjblgkjaaaGreat
set_option linter.unusedSimpArgs false
set_option linter.unusedVariables false
set_option maxRecDepth 8000
open Go.Ev
section
variable {cs : List SV} {T : List (List Rat)}
theorem ref19_rows (h : TabC cs T 1) (hn : T.length ≤ 4) (hl : ∀ r ∈ T, r.length ≤ 4) : Go.Ev.Fn CX 31 [.sl T.length cs] (.int .i64 (tabE T)) := by
  have hlen := tab_len h
  have hat := fun {i : Nat} (hi : i < T.length) => tabC_at (i := i) h hi
  have h4 := tab_ok hl
  unfold tabE
  by_cases c1 : T.length < 2
  · rw [if_pos (.inl c1)]
    clear hat h4
    refine Go.Ev.Fn.intro (fn := Tryz.f31) (body := (Tryz.f31).body.get!) (by kernel_rfl) (by kernel_rfl) (by kernel_rfl) (fun _ => rfl) (Nat.le_of_ble_eq_true (by kernel_rfl)) ?_; unfold Tryz.f31; simp only [Option.get!_some]
    repeat (first | (simp only [go_sem, Nat.reduceEqDiff, Nat.reduceAdd, Nat.reduceSub, Nat.reduceMul, Nat.reduceLeDiff, Nat.reduceLT, reduceIte, reduceCtorEq, Nat.succ_ne_zero, elemsC, Int.reduceToNat, Nat.reducePow]) | (simp (disch := (first | omega | (simp only [AL, List.length_map]; omega))) only [AR, AL, ifT, ifF, take_all, List.length_cons, List.length_nil, Int.reduceToNat, Int.reducePow, Nat.reducePow]) | (refine wk_intro (by kernel_rfl) ?_) | (refine vp_draw (id := 6) (l := []) (by kernel_rfl) ?_) | (refine vp_draw (id := 16) (l := []) (by kernel_rfl) ?_))
  obtain ⟨rc0, a0, -⟩ := hat (i := 0) (by omega)
  have a0' : cs.head? = some (.sl (T.getD 0 []).length rc0) := a0
  have h40 := h4 0
  generalize hw : (T.getD 0 []).length = w at *
  by_cases c2 : w < 2
  · rw [if_pos (.inr c2)]
    clear hat h4
    refine Go.Ev.Fn.intro (fn := Tryz.f31) (body := (Tryz.f31).body.get!) (by kernel_rfl) (by kernel_rfl) (by kernel_rfl) (fun _ => rfl) (Nat.le_of_ble_eq_true (by kernel_rfl)) ?_; unfold Tryz.f31; simp only [Option.get!_some]
    repeat (first | (simp only [go_sem, Nat.reduceEqDiff, Nat.reduceAdd, Nat.reduceSub, Nat.reduceMul, Nat.reduceLeDiff, Nat.reduceLT, reduceIte, reduceCtorEq, Nat.succ_ne_zero, elemsC, Int.reduceToNat, Nat.reducePow, a0, a0', hlen]) | (simp (disch := (first | omega | (simp only [AL, List.length_map]; omega))) only [AR, AL, ifT, ifF, take_all, List.length_cons, List.length_nil, Int.reduceToNat, Int.reducePow, Nat.reducePow, a0, a0', hlen]) | (refine wk_intro (by kernel_rfl) ?_) | (refine vp_draw (id := 6) (l := []) (by kernel_rfl) ?_) | (refine vp_draw (id := 16) (l := []) (by kernel_rfl) ?_))
  rw [if_neg (by omega)]
  have hpm : T.length * w ≤ 16 := Nat.mul_le_mul hn h40
  have hmul : IntKind.i64.wrap ((T.length : Int) * (w : Int)) = ((T.length * w : Nat) : Int) := by
    rw [show (T.length : Int) * (w : Int) = ((T.length * w : Nat) : Int) from (Int.natCast_mul _ _).symm]
    exact wI64 (by omega)
  generalize hpr : T.length * w = pr at *
  clear hpr
  have z0 := ref19_zero
  by_cases c3 : T.any (fun r => decide (r.length ≠ w)) = true
  · rw [if_pos c3]
    refine Go.Ev.Fn.intro (fn := Tryz.f31) (body := (Tryz.f31).body.get!) (by kernel_rfl) (by kernel_rfl) (by kernel_rfl) (fun _ => rfl) (Nat.le_of_ble_eq_true (by kernel_rfl)) ?_; unfold Tryz.f31; simp only [Option.get!_some]
    repeat (first | (simp only [go_sem, Nat.reduceEqDiff, Nat.reduceAdd, Nat.reduceSub, Nat.reduceMul, Nat.reduceLeDiff, Nat.reduceLT, reduceIte, reduceCtorEq, Nat.succ_ne_zero, elemsC, Int.reduceToNat, Nat.reducePow, a0, a0', hlen]) | (simp (disch := (first | omega | (simp only [AL, List.length_map]; omega))) only [AR, AL, ifT, ifF, take_all, List.length_cons, List.length_nil, Int.reduceToNat, Int.reducePow, Nat.reducePow, a0, a0', hlen]) | (refine wk_intro (by kernel_rfl) ?_) | (refine vp_draw (id := 6) (l := []) (by kernel_rfl) ?_) | (refine vp_draw (id := 16) (l := []) (by kernel_rfl) ?_))
    refine vp_loop_inv (fun s => s.tmp 0 = .sv (.sl T.length cs) ∧
        ∃ i : Nat, s.tmp 3 = .sv (.int .i64 (i : Int)) ∧ i ≤ T.length ∧ (T.take i).any (fun r => decide (r.length ≠ w)) = false)
      (fun s => match s.tmp 3 with | .sv (.int _ i) => T.length - i.toNat | _ => 0) ⟨rfl, 0, rfl, by omega, rfl⟩ ?_
    rintro s2 ⟨i0, i, i21, hi, hb⟩
    by_cases hend : i = T.length
    · subst hend
      rw [List.take_length, c3] at hb
      cases hb
    · obtain ⟨rc, a1, -⟩ := hat (i := i) (by omega)
      have h4i := h4 i
      have hor := any_take (fun r : List Rat => decide (r.length ≠ w)) T [] (i := i) (by omega)
      rw [hb, Bool.false_or] at hor
      generalize (T.getD i []).length = u at *
      clear hat h4 c3
      by_cases hu : u = w
      · subst hu
        rw [decide_eq_false (not_not_intro rfl)] at hor
        repeat (first | (simp only [go_sem, Nat.reduceEqDiff, Nat.reduceAdd, Nat.reduceSub, Nat.reduceMul, Nat.reduceLeDiff, Nat.reduceLT, reduceIte, reduceCtorEq, Nat.succ_ne_zero, elemsC, Int.reduceToNat, Nat.reducePow, i0, i21, a1, a0, a0', hlen]) | (simp (disch := (first | omega | (simp only [AL, List.length_map]; omega))) only [AR, AL, ifT, ifF, take_all, List.length_cons, List.length_nil, Int.reduceToNat, Int.reducePow, Nat.reducePow, i0, i21, a1, a0, a0', hlen]) | (refine wk_intro (by kernel_rfl) ?_) | (refine vp_draw (id := 6) (l := []) (by kernel_rfl) ?_) | (refine vp_draw (id := 16) (l := []) (by kernel_rfl) ?_))
        exact ⟨⟨i + 1, rfl, by omega, hor⟩, by omega⟩
      · clear hor
        repeat (first | (simp only [go_sem, Nat.reduceEqDiff, Nat.reduceAdd, Nat.reduceSub, Nat.reduceMul, Nat.reduceLeDiff, Nat.reduceLT, reduceIte, reduceCtorEq, Nat.succ_ne_zero, elemsC, Int.reduceToNat, Nat.reducePow, i0, i21, a1, a0, a0', hlen]) | (simp (disch := (first | omega | (simp only [AL, List.length_map]; omega))) only [AR, AL, ifT, ifF, take_all, List.length_cons, List.length_nil, Int.reduceToNat, Int.reducePow, Nat.reducePow, i0, i21, a1, a0, a0', hlen]) | (refine wk_intro (by kernel_rfl) ?_) | (refine vp_draw (id := 6) (l := []) (by kernel_rfl) ?_) | (refine vp_draw (id := 16) (l := []) (by kernel_rfl) ?_))
  rw [if_neg c3]
  have hsame : ∀ i, i < T.length → (T.getD i []).length = w := by
    intro i hi
    have := fun e => c3 (any_of_getD (fun r : List Rat => decide (r.length ≠ w)) T [] hi e)
    by_cases e : (T.getD i []).length = w
    · exact e
    · exact absurd (decide_eq_true e) this
  clear h4 c3
  by_cases c4 : T.any (fun r => r.any fun x => decide (x < 0)) = true
  · rw [if_pos c4]
    refine Go.Ev.Fn.intro (fn := Tryz.f31) (body := (Tryz.f31).body.get!) (by kernel_rfl) (by kernel_rfl) (by kernel_rfl) (fun _ => rfl) (Nat.le_of_ble_eq_true (by kernel_rfl)) ?_; unfold Tryz.f31; simp only [Option.get!_some]
    repeat (first | (simp only [go_sem, Nat.reduceEqDiff, Nat.reduceAdd, Nat.reduceSub, Nat.reduceMul, Nat.reduceLeDiff, Nat.reduceLT, reduceIte, reduceCtorEq, Nat.succ_ne_zero, elemsC, Int.reduceToNat, Nat.reducePow, a0, a0', hlen]) | (simp (disch := (first | omega | (simp only [AL, List.length_map]; omega))) only [AR, AL, ifT, ifF, take_all, List.length_cons, List.length_nil, Int.reduceToNat, Int.reducePow, Nat.reducePow, a0, a0', hlen]) | (refine wk_intro (by kernel_rfl) ?_) | (refine vp_draw (id := 6) (l := []) (by kernel_rfl) ?_) | (refine vp_draw (id := 16) (l := []) (by kernel_rfl) ?_))
    refine vp_loop_inv (fun s => s.tmp 0 = .sv (.sl T.length cs) ∧
        ∃ i : Nat, s.tmp 3 = .sv (.int .i64 (i : Int)) ∧ i ≤ T.length)
      (fun s => match s.tmp 3 with | .sv (.int _ i) => T.length - i.toNat | _ => 0) ⟨rfl, 0, rfl, by omega⟩ ?_
    rintro s2 ⟨i0, i, i21, hi⟩
    by_cases hend : i = T.length
    · subst hend
      repeat (first | (simp only [go_sem, Nat.reduceEqDiff, Nat.reduceAdd, Nat.reduceSub, Nat.reduceMul, Nat.reduceLeDiff, Nat.reduceLT, reduceIte, reduceCtorEq, Nat.succ_ne_zero, elemsC, Int.reduceToNat, Nat.reducePow, i0, i21, a0, a0', hlen, hmul]) | (simp (disch := (first | omega | (simp only [AL, List.length_map]; omega))) only [AR, AL, ifT, ifF, take_all, List.length_cons, List.length_nil, Int.reduceToNat, Int.reducePow, Nat.reducePow, i0, i21, a0, a0', hlen, hmul]) | (refine wk_intro (by kernel_rfl) ?_) | (refine vp_draw (id := 6) (l := []) (by kernel_rfl) ?_) | (refine vp_draw (id := 16) (l := []) (by kernel_rfl) ?_))
      refine vp_loop_inv (fun s => s.tmp 0 = .sv (.sl T.length cs) ∧
          ∃ i : Nat, s.tmp 4 = .sv (.int .i64 (i : Int)) ∧ i ≤ T.length ∧ (T.take i).any (fun r => r.any fun x => decide (x < 0)) = false)
        (fun s => match s.tmp 4 with | .sv (.int _ i) => T.length - i.toNat | _ => 0) ⟨i0, 0, rfl, by omega, rfl⟩ ?_
      rintro s3 ⟨i41, i, i43, hi, hb⟩
      by_cases hend : i = T.length
      · subst hend
        rw [List.take_length, c4] at hb
        cases hb
      · obtain ⟨rc, a1, hr⟩ := hat (i := i) (by omega)
        have hwi := hsame i (by omega)
        have hor := any_take (fun r : List Rat => r.any fun x => decide (x < 0)) T [] (i := i) (by omega)
        rw [hb, Bool.false_or] at hor
        generalize T.getD i [] = r at *
        have hrl := row_len hr
        clear hat c4 hsame
        repeat (first | (simp only [go_sem, Nat.reduceEqDiff, Nat.reduceAdd, Nat.reduceSub, Nat.reduceMul, Nat.reduceLeDiff, Nat.reduceLT, reduceIte, reduceCtorEq, Nat.succ_ne_zero, elemsC, Int.reduceToNat, Nat.reducePow, i41, i43, a1, hlen, hwi]) | (simp (disch := (first | omega | (simp only [AL, List.length_map]; omega))) only [AR, AL, ifT, ifF, take_all, List.length_cons, List.length_nil, Int.reduceToNat, Int.reducePow, Nat.reducePow, i41, i43, a1, hlen, hwi]) | (refine wk_intro (by kernel_rfl) ?_) | (refine vp_draw (id := 6) (l := []) (by kernel_rfl) ?_) | (refine vp_draw (id := 16) (l := []) (by kernel_rfl) ?_))
        refine vp_loop_inv (fun s => s.tmp 0 = .sv (.sl T.length cs) ∧ s.tmp 4 = .sv (.int .i64 (i : Int)) ∧
            ∃ k : Nat, s.tmp 5 = .sv (.int .i64 (k : Int)) ∧ k ≤ w ∧ (r.take k).any (fun x => decide (x < 0)) = false)
          (fun s => match s.tmp 5 with | .sv (.int _ i) => w - i.toNat | _ => 0) ⟨i41, i43, 0, rfl, by omega, rfl⟩ ?_
        rintro s4 ⟨j41, j43, k, j49, hk, hkb⟩
        by_cases hkend : k = w
        · subst hkend
          rw [← hwi, List.take_length] at hkb
          rw [hkb] at hor
          repeat (first | (simp only [go_sem, Nat.reduceEqDiff, Nat.reduceAdd, Nat.reduceSub, Nat.reduceMul, Nat.reduceLeDiff, Nat.reduceLT, reduceIte, reduceCtorEq, Nat.succ_ne_zero, elemsC, Int.reduceToNat, Nat.reducePow, j41, j43, j49, a1, hlen, hwi]) | (simp (disch := (first | omega | (simp only [AL, List.length_map]; omega))) only [AR, AL, ifT, ifF, take_all, List.length_cons, List.length_nil, Int.reduceToNat, Int.reducePow, Nat.reducePow, j41, j43, j49, a1, hlen, hwi]) | (refine wk_intro (by kernel_rfl) ?_) | (refine vp_draw (id := 6) (l := []) (by kernel_rfl) ?_) | (refine vp_draw (id := 16) (l := []) (by kernel_rfl) ?_))
          exact ⟨⟨i + 1, rfl, by omega, hor⟩, by omega⟩
        · obtain ⟨s, n, d, rest, g1, hA⟩ := row_at (i := k) hr (by omega)
          have b1 := ref2_Cmp hA (RatA_rv (szR_zero (L := 1) (by omega))) (by omega) (by omega) (by omega)
          have gor := any_take (fun x : Rat => decide (x < 0)) r 0 (i := k) (by omega)
          rw [hkb, Bool.false_or] at gor
          generalize r.getD k 0 = x at *
          have e1 : decide (cmpR x 0 < 0) = decide (x < 0) := cmpR_lt
          clear hor hA
          by_cases hx : x < 0
          · rw [decide_eq_true hx] at e1
            clear gor hx
            repeat (first | (simp only [go_sem, Nat.reduceEqDiff, Nat.reduceAdd, Nat.reduceSub, Nat.reduceMul, Nat.reduceLeDiff, Nat.reduceLT, reduceIte, reduceCtorEq, Nat.succ_ne_zero, elemsC, Int.reduceToNat, Nat.reducePow, j41, j43, j49, g1, hrl, hwi, a1, hlen, e1]) | (simp (disch := (first | omega | (simp only [AL, List.length_map]; omega))) only [AR, AL, ifT, ifF, take_all, List.length_cons, List.length_nil, Int.reduceToNat, Int.reducePow, Nat.reducePow, j41, j43, j49, g1, hrl, hwi, a1, hlen, e1]) | (refine wk_intro (by kernel_rfl) ?_) | (refine vp_draw (id := 6) (l := []) (by kernel_rfl) ?_) | (refine vp_draw (id := 16) (l := []) (by kernel_rfl) ?_) | (refine vf_of (by first | exact z0 | exact b1) ?_))
          · rw [decide_eq_false hx] at e1 gor
            clear hx
            repeat (first | (simp only [go_sem, Nat.reduceEqDiff, Nat.reduceAdd, Nat.reduceSub, Nat.reduceMul, Nat.reduceLeDiff, Nat.reduceLT, reduceIte, reduceCtorEq, Nat.succ_ne_zero, elemsC, Int.reduceToNat, Nat.reducePow, j41, j43, j49, g1, hrl, hwi, a1, hlen, e1]) | (simp (disch := (first | omega | (simp only [AL, List.length_map]; omega))) only [AR, AL, ifT, ifF, take_all, List.length_cons, List.length_nil, Int.reduceToNat, Int.reducePow, Nat.reducePow, j41, j43, j49, g1, hrl, hwi, a1, hlen, e1]) | (refine wk_intro (by kernel_rfl) ?_) | (refine vp_draw (id := 6) (l := []) (by kernel_rfl) ?_) | (refine vp_draw (id := 16) (l := []) (by kernel_rfl) ?_) | (refine vf_of (by first | exact z0 | exact b1) ?_))
            exact ⟨⟨k + 1, rfl, by omega, gor⟩, by omega⟩
    · obtain ⟨rc, a1, -⟩ := hat (i := i) (by omega)
      have hwi := hsame i (by omega)
      clear hat c4 hsame
      repeat (first | (simp only [go_sem, Nat.reduceEqDiff, Nat.reduceAdd, Nat.reduceSub, Nat.reduceMul, Nat.reduceLeDiff, Nat.reduceLT, reduceIte, reduceCtorEq, Nat.succ_ne_zero, elemsC, Int.reduceToNat, Nat.reducePow, i0, i21, a1, a0, a0', hlen, hwi]) | (simp (disch := (first | omega | (simp only [AL, List.length_map]; omega))) only [AR, AL, ifT, ifF, take_all, List.length_cons, List.length_nil, Int.reduceToNat, Int.reducePow, Nat.reducePow, i0, i21, a1, a0, a0', hlen, hwi]) | (refine wk_intro (by kernel_rfl) ?_) | (refine vp_draw (id := 6) (l := []) (by kernel_rfl) ?_) | (refine vp_draw (id := 16) (l := []) (by kernel_rfl) ?_))
      exact ⟨⟨i + 1, rfl, by omega⟩, by omega⟩
  · rw [if_neg c4]
    have hneg : ∀ i k, i < T.length → k < w → ¬ (T.getD i []).getD k 0 < 0 := by
      intro i k hi hk hx
      refine c4 (any_of_getD _ T [] hi (any_of_getD (fun x : Rat => decide (x < 0)) _ 0 (i := k) ?_ (decide_eq_true hx)))
      rw [hsame i hi]; exact hk
    refine Go.Ev.Fn.intro (fn := Tryz.f31) (body := (Tryz.f31).body.get!) (by kernel_rfl) (by kernel_rfl) (by kernel_rfl) (fun _ => rfl) (Nat.le_of_ble_eq_true (by kernel_rfl)) ?_; unfold Tryz.f31; simp only [Option.get!_some]
    repeat (first | (simp only [go_sem, Nat.reduceEqDiff, Nat.reduceAdd, Nat.reduceSub, Nat.reduceMul, Nat.reduceLeDiff, Nat.reduceLT, reduceIte, reduceCtorEq, Nat.succ_ne_zero, elemsC, Int.reduceToNat, Nat.reducePow, a0, a0', hlen]) | (simp (disch := (first | omega | (simp only [AL, List.length_map]; omega))) only [AR, AL, ifT, ifF, take_all, List.length_cons, List.length_nil, Int.reduceToNat, Int.reducePow, Nat.reducePow, a0, a0', hlen]) | (refine wk_intro (by kernel_rfl) ?_) | (refine vp_draw (id := 6) (l := []) (by kernel_rfl) ?_) | (refine vp_draw (id := 16) (l := []) (by kernel_rfl) ?_))
    refine vp_loop_inv (fun s => s.tmp 0 = .sv (.sl T.length cs) ∧
        ∃ i : Nat, s.tmp 3 = .sv (.int .i64 (i : Int)) ∧ i ≤ T.length)
      (fun s => match s.tmp 3 with | .sv (.int _ i) => T.length - i.toNat | _ => 0) ⟨rfl, 0, rfl, by omega⟩ ?_
    rintro s2 ⟨i0, i, i21, hi⟩
    by_cases hend : i = T.length
    · subst hend
      repeat (first | (simp only [go_sem, Nat.reduceEqDiff, Nat.reduceAdd, Nat.reduceSub, Nat.reduceMul, Nat.reduceLeDiff, Nat.reduceLT, reduceIte, reduceCtorEq, Nat.succ_ne_zero, elemsC, Int.reduceToNat, Nat.reducePow, i0, i21, a0, a0', hlen, hmul]) | (simp (disch := (first | omega | (simp only [AL, List.length_map]; omega))) only [AR, AL, ifT, ifF, take_all, List.length_cons, List.length_nil, Int.reduceToNat, Int.reducePow, Nat.reducePow, i0, i21, a0, a0', hlen, hmul]) | (refine wk_intro (by kernel_rfl) ?_) | (refine vp_draw (id := 6) (l := []) (by kernel_rfl) ?_) | (refine vp_draw (id := 16) (l := []) (by kernel_rfl) ?_))
      refine vp_loop_inv (fun s => s.tmp 0 = .sv (.sl T.length cs) ∧
          ∃ i : Nat, s.tmp 4 = .sv (.int .i64 (i : Int)) ∧ i ≤ T.length)
        (fun s => match s.tmp 4 with | .sv (.int _ i) => T.length - i.toNat | _ => 0) ⟨i0, 0, rfl, by omega⟩ ?_
      rintro s3 ⟨i41, i, i43, hi⟩
      by_cases hend : i = T.length
      · subst hend
        repeat (first | (simp only [go_sem, Nat.reduceEqDiff, Nat.reduceAdd, Nat.reduceSub, Nat.reduceMul, Nat.reduceLeDiff, Nat.reduceLT, reduceIte, reduceCtorEq, Nat.succ_ne_zero, elemsC, Int.reduceToNat, Nat.reducePow, i41, i43]) | (simp (disch := (first | omega | (simp only [AL, List.length_map]; omega))) only [AR, AL, ifT, ifF, take_all, List.length_cons, List.length_nil, Int.reduceToNat, Int.reducePow, Nat.reducePow, i41, i43]) | (refine wk_intro (by kernel_rfl) ?_) | (refine vp_draw (id := 6) (l := []) (by kernel_rfl) ?_) | (refine vp_draw (id := 16) (l := []) (by kernel_rfl) ?_))
      · obtain ⟨rc, a1, hr⟩ := hat (i := i) (by omega)
        have hwi := hsame i (by omega)
        have hni := fun k hk => hneg i k (by omega) hk
        generalize T.getD i [] = r at *
        have hrl := row_len hr
        clear hat c4 hsame hneg
        repeat (first | (simp only [go_sem, Nat.reduceEqDiff, Nat.reduceAdd, Nat.reduceSub, Nat.reduceMul, Nat.reduceLeDiff, Nat.reduceLT, reduceIte, reduceCtorEq, Nat.succ_ne_zero, elemsC, Int.reduceToNat, Nat.reducePow, i41, i43, a1, hlen, hwi]) | (simp (disch := (first | omega | (simp only [AL, List.length_map]; omega))) only [AR, AL, ifT, ifF, take_all, List.length_cons, List.length_nil, Int.reduceToNat, Int.reducePow, Nat.reducePow, i41, i43, a1, hlen, hwi]) | (refine wk_intro (by kernel_rfl) ?_) | (refine vp_draw (id := 6) (l := []) (by kernel_rfl) ?_) | (refine vp_draw (id := 16) (l := []) (by kernel_rfl) ?_))
        refine vp_loop_inv (fun s => s.tmp 0 = .sv (.sl T.length cs) ∧ s.tmp 4 = .sv (.int .i64 (i : Int)) ∧
            ∃ k : Nat, s.tmp 5 = .sv (.int .i64 (k : Int)) ∧ k ≤ w)
          (fun s => match s.tmp 5 with | .sv (.int _ i) => w - i.toNat | _ => 0) ⟨i41, i43, 0, rfl, by omega⟩ ?_
        rintro s4 ⟨j41, j43, k, j49, hk⟩
        by_cases hkend : k = w
        · subst hkend
          repeat (first | (simp only [go_sem, Nat.reduceEqDiff, Nat.reduceAdd, Nat.reduceSub, Nat.reduceMul, Nat.reduceLeDiff, Nat.reduceLT, reduceIte, reduceCtorEq, Nat.succ_ne_zero, elemsC, Int.reduceToNat, Nat.reducePow, j41, j43, j49, a1, hlen, hwi]) | (simp (disch := (first | omega | (simp only [AL, List.length_map]; omega))) only [AR, AL, ifT, ifF, take_all, List.length_cons, List.length_nil, Int.reduceToNat, Int.reducePow, Nat.reducePow, j41, j43, j49, a1, hlen, hwi]) | (refine wk_intro (by kernel_rfl) ?_) | (refine vp_draw (id := 6) (l := []) (by kernel_rfl) ?_) | (refine vp_draw (id := 16) (l := []) (by kernel_rfl) ?_))
          exact ⟨⟨i + 1, rfl, by omega⟩, by omega⟩
        · obtain ⟨s, n, d, rest, g1, hA⟩ := row_at (i := k) hr (by omega)
          have b1 := ref2_Cmp hA (RatA_rv (szR_zero (L := 1) (by omega))) (by omega) (by omega) (by omega)
          have hx := hni k (by omega)
          generalize r.getD k 0 = x at *
          have e1 : decide (cmpR x 0 < 0) = decide (x < 0) := cmpR_lt
          rw [decide_eq_false hx] at e1
          clear hx hni hA
          repeat (first | (simp only [go_sem, Nat.reduceEqDiff, Nat.reduceAdd, Nat.reduceSub, Nat.reduceMul, Nat.reduceLeDiff, Nat.reduceLT, reduceIte, reduceCtorEq, Nat.succ_ne_zero, elemsC, Int.reduceToNat, Nat.reducePow, j41, j43, j49, g1, hrl, hwi, a1, hlen, e1]) | (simp (disch := (first | omega | (simp only [AL, List.length_map]; omega))) only [AR, AL, ifT, ifF, take_all, List.length_cons, List.length_nil, Int.reduceToNat, Int.reducePow, Nat.reducePow, j41, j43, j49, g1, hrl, hwi, a1, hlen, e1]) | (refine wk_intro (by kernel_rfl) ?_) | (refine vp_draw (id := 6) (l := []) (by kernel_rfl) ?_) | (refine vp_draw (id := 16) (l := []) (by kernel_rfl) ?_) | (refine vf_of (by first | exact z0 | exact b1) ?_))
          exact ⟨⟨k + 1, rfl, by omega⟩, by omega⟩
    · obtain ⟨rc, a1, -⟩ := hat (i := i) (by omega)
      have hwi := hsame i (by omega)
      clear hat c4 hsame hneg
      repeat (first | (simp only [go_sem, Nat.reduceEqDiff, Nat.reduceAdd, Nat.reduceSub, Nat.reduceMul, Nat.reduceLeDiff, Nat.reduceLT, reduceIte, reduceCtorEq, Nat.succ_ne_zero, elemsC, Int.reduceToNat, Nat.reducePow, i0, i21, a1, a0, a0', hlen, hwi]) | (simp (disch := (first | omega | (simp only [AL, List.length_map]; omega))) only [AR, AL, ifT, ifF, take_all, List.length_cons, List.length_nil, Int.reduceToNat, Int.reducePow, Nat.reducePow, i0, i21, a1, a0, a0', hlen, hwi]) | (refine wk_intro (by kernel_rfl) ?_) | (refine vp_draw (id := 6) (l := []) (by kernel_rfl) ?_) | (refine vp_draw (id := 16) (l := []) (by kernel_rfl) ?_))
      exact ⟨⟨i + 1, rfl, by omega⟩, by omega⟩
end
theorem ref17_Sum {cs : List SV} {l : List Rat} {L : Nat} (h : RowC cs l L) (hL : 1 ≤ L) (hL2 : L ≤ 100000) (hl : l.length ≤ 12) :
    Go.Ev.Fn CX 14 [.sl l.length cs] (rv (sumR l)) := by
  have r0 := ref2_Int 0 (by omega)
  have hlen := row_len h
  have hz := row_sz hL h
  refine Go.Ev.Fn.intro (fn := Tryz.f14) (body := (Tryz.f14).body.get!) (by kernel_rfl) (by kernel_rfl) (by kernel_rfl) (fun _ => rfl) (Nat.le_of_ble_eq_true (by kernel_rfl)) ?_; unfold Tryz.f14; simp only [Option.get!_some]
  repeat (first | (simp only [go_sem, Nat.reduceEqDiff, Nat.reduceAdd, Nat.reduceSub, Nat.reduceMul, Nat.reduceLeDiff, Nat.reduceLT, reduceIte, reduceCtorEq, Nat.succ_ne_zero, elemsC, Int.reduceToNat, Nat.reducePow]) | (simp (disch := (first | omega | (simp only [AL, List.length_map]; omega))) only [AR, AL, ifT, ifF, take_all, List.length_cons, List.length_nil, Int.reduceToNat, Int.reducePow, Nat.reducePow]) | (refine wk_intro (by kernel_rfl) ?_) | (refine vp_draw (id := 5) (l := []) (by kernel_rfl) ?_) | (refine vf_of (by first | exact r0) ?_))
  refine vp_loop_inv (fun s => s.tmp 0 = .sv (.sl l.length cs) ∧ s.tmp 2 = .ptr 2 0 0 ∧ s.obj 2 0 = some [.bool false, .sl 0 [], .sl 0 []] ∧ s.tmp 3 = .ptr 3 0 0 ∧
      ∃ i : Nat, s.tmp 4 = .sv (.int .i64 (i : Int)) ∧ i ≤ l.length ∧ s.obj 3 0 = some (rvC (sumR (l.take i))))
    (fun s => match s.tmp 4 with | .sv (.int _ i) => l.length - i.toNat | _ => 0) ⟨rfl, rfl, rfl, rfl, 0, rfl, by omega, rfl⟩ ?_
  rintro s2 ⟨i0, i2, iO, i3, i, i4, hi, iP⟩
  by_cases hend : i = l.length
  · subst hend
    rw [List.take_length] at iP
    repeat (first | (simp only [go_sem, Nat.reduceEqDiff, Nat.reduceAdd, Nat.reduceSub, Nat.reduceMul, Nat.reduceLeDiff, Nat.reduceLT, reduceIte, reduceCtorEq, Nat.succ_ne_zero, elemsC, Int.reduceToNat, Nat.reducePow, i0, i2, iO, i3, i4, iP, rvC]) | (simp (disch := (first | omega | (simp only [AL, List.length_map]; omega))) only [AR, AL, ifT, ifF, take_all, List.length_cons, List.length_nil, Int.reduceToNat, Int.reducePow, Nat.reducePow, i0, i2, iO, i3, i4, iP, rvC]) | (refine wk_intro (by kernel_rfl) ?_) | (refine vp_draw (id := 5) (l := []) (by kernel_rfl) ?_))
  · obtain ⟨s, n, d, rest, hat, hA⟩ := row_at (i := i) h (by omega)
    have hS := sumR_take l (i := i) (by omega)
    have z := sz_take12 hL hz hl i
    have a := ref2_Add (RatA_rv z) hA (by omega) hL (by omega)
    rw [← hS] at a
    clear hz z h hS hA
    repeat (first | (simp only [go_sem, Nat.reduceEqDiff, Nat.reduceAdd, Nat.reduceSub, Nat.reduceMul, Nat.reduceLeDiff, Nat.reduceLT, reduceIte, reduceCtorEq, Nat.succ_ne_zero, elemsC, Int.reduceToNat, Nat.reducePow, i0, i2, iO, i3, i4, iP, rvC, hat, hlen]) | (simp (disch := (first | omega | (simp only [AL, List.length_map]; omega))) only [AR, AL, ifT, ifF, take_all, List.length_cons, List.length_nil, Int.reduceToNat, Int.reducePow, Nat.reducePow, i0, i2, iO, i3, i4, iP, rvC, hat, hlen]) | (refine wk_intro (by kernel_rfl) ?_) | (refine vp_draw (id := 5) (l := []) (by kernel_rfl) ?_) | (refine vf_of (by first | exact a) ?_))
    exact ⟨⟨i + 1, rfl, by omega, rfl⟩, by omega⟩
end Go.Proofs.YtdnmhnjblgkjaaaGreat

/- test.Expected, in the evaluator. -/
namespace Go.Proofs.YtdnmhnjblgkjaaaGreat
set_option linter.unusedSimpArgs false
set_option linter.unusedVariables false
set_option maxRecDepth 8000
open Go.Ev
theorem colS_sz {T : List (List Rat)} (hz : ∀ r ∈ T, ∀ x ∈ r, szR x 1) (hn : T.length ≤ 4) (i k : Nat) : szR (colS T i k) 25 := by
  unfold colS
  refine sz_sum12 (L := 1) (by omega) ?_ (by rw [List.length_map, List.length_take]; omega)
  intro x hx
  obtain ⟨r, hr, rfl⟩ := List.mem_map.1 hx
  have hr' := List.mem_of_mem_take hr
  rw [List.getD_eq_getElem?_getD]
  by_cases h : k < r.length
  · rw [List.getElem?_eq_getElem h]; exact hz r hr' _ (List.getElem_mem h)
  · rw [List.getElem?_eq_none (by omega)]; exact szR_zero (by omega)
theorem rowR_sz {T : List (List Rat)} (hz : ∀ r ∈ T, ∀ x ∈ r, szR x 1) (hl : ∀ r ∈ T, r.length ≤ 4) : ∀ x ∈ rowR T, szR x 25 := by
  intro x hx
  obtain ⟨r, hr, rfl⟩ := List.mem_map.1 hx
  exact sz_sum12 (L := 1) (by omega) (hz r hr) (by have := hl r hr; omega)
theorem colR_sz {T : List (List Rat)} (hz : ∀ r ∈ T, ∀ x ∈ r, szR x 1) (hn : T.length ≤ 4) : ∀ x ∈ colR T, szR x 25 := by
  intro x hx
  obtain ⟨k, -, rfl⟩ := List.mem_map.1 hx
  exact colS_sz hz hn _ _
theorem tab_szall {cs : List SV} {T : List (List Rat)} {L : Nat} (hL : 1 ≤ L) (h : TabC cs T L) : ∀ r ∈ T, ∀ x ∈ r, szR x L := by
  induction T generalizing cs with
  | nil => intro r hr; cases hr
  | cons p T ih =>
    obtain ⟨rc, rest, rfl, h1, h2⟩ := h
    intro r hr
    rcases List.mem_cons.1 hr with rfl | hr
    · exact row_sz hL h1
    · exact ih h2 r hr
/-- A table's cells by its rows' and columns' sums. -/
def cellR (T : List (List Rat)) (x : Rat) : List Rat := (colR T).map fun y => x * y / sumR (rowR T)
theorem colR_len (T : List (List Rat)) : (colR T).length = (T.getD 0 []).length := by simp [colR]
theorem rowR_len (T : List (List Rat)) : (rowR T).length = T.length := by simp [rowR]
theorem any_append' {α : Type} (f : α → Bool) (a b : List α) : (a ++ b).any f = (a.any f || b.any f) := List.any_append
theorem tabE_zero {T : List (List Rat)} (h : tabE T = 0) : 2 ≤ T.length ∧ 2 ≤ (T.getD 0 []).length ∧ (∀ i, i < T.length → (T.getD i []).length = (T.getD 0 []).length) ∧ T.any (fun r => r.any fun x => decide (x < 0)) = false := by
  unfold tabE at h
  by_cases c1 : T.length < 2 ∨ (T.getD 0 []).length < 2
  · rw [if_pos c1] at h; cases h
  rw [if_neg c1] at h
  by_cases c3 : T.any (fun r => decide (r.length ≠ (T.getD 0 []).length)) = true
  · rw [if_pos c3] at h; cases h
  rw [if_neg c3] at h
  by_cases c4 : T.any (fun r => r.any fun x => decide (x < 0)) = true
  · rw [if_pos c4] at h; cases h
  refine ⟨by omega, by omega, fun i hi => ?_, Bool.eq_false_iff.2 c4⟩
  have := fun e => c3 (any_of_getD (fun r : List Rat => decide (r.length ≠ (T.getD 0 []).length)) T [] hi e)
  by_cases e : (T.getD i []).length = (T.getD 0 []).length
  · exact e
  · exact absurd (decide_eq_true e) this
set_option maxHeartbeats 2000000 in
theorem test_Expected {cs : List SV} {T : List (List Rat)} (h : TabC cs T 1) (hn : T.length ≤ 4) (hl : ∀ r ∈ T, r.length ≤ 4) :
    Go.Ev.Fn CX 8 [.sl T.length cs] (.tup [.sl (expR T).1.length (tabsC (expR T).1), .int .i64 (expR T).2]) := by
  have hE := test_isTable h hn hl
  by_cases he : tabE T = 0
  rotate_left
  · unfold expR
    rw [if_pos he]
    generalize tabE T = e at *
    clear h hl
    refine Go.Ev.Fn.intro (fn := Tryz.f8) (body := (Tryz.f8).body.get!) (by kernel_rfl) (by kernel_rfl) (by kernel_rfl) (fun _ => rfl) (Nat.le_of_ble_eq_true (by kernel_rfl)) ?_; unfold Tryz.f8; simp only [Option.get!_some]
    repeat (first | (simp only [go_sem, Nat.reduceEqDiff, Nat.reduceAdd, Nat.reduceSub, Nat.reduceMul, Nat.reduceLeDiff, Nat.reduceLT, reduceIte, reduceCtorEq, Nat.succ_ne_zero, elemsC, Int.reduceToNat, Nat.reducePow]) | (simp (disch := (first | omega | (simp only [AL, List.length_map]; omega))) only [AR, AL, ifT, ifF, take_all, List.length_cons, List.length_nil, Int.reduceToNat, Int.reducePow, Nat.reducePow]) | (refine wk_intro (by kernel_rfl) ?_) | (refine vp_draw (id := 4) (l := []) (by kernel_rfl) ?_) | (refine vp_draw (id := 12) (l := []) (by kernel_rfl) ?_) | (refine vp_draw (id := 30) (l := []) (by kernel_rfl) ?_) | (refine vf_of (by first | exact hE) ?_))
    rfl
  obtain ⟨t1, t2, t3, -⟩ := tabE_zero he
  rw [he] at hE
  have hz := tab_szall (by omega) h
  have hcz := fun i k => colS_sz hz hn i k
  have hrz := rowR_sz hz hl
  have hlen := tab_len h
  have hat := fun {i : Nat} (hi : i < T.length) => tabC_at (i := i) h hi
  obtain ⟨rc0, a0, -⟩ := hat (i := 0) (by omega)
  have a0' : cs.head? = some (.sl (T.getD 0 []).length rc0) := a0
  have h40 := tab_ok hl 0
  have hra := rowsS_all T
  have hca := colsR_all T (w := (T.getD 0 []).length) rfl
  have hlc := colR_len T
  have hlr := rowR_len T
  have hro := row_zero (L := 25) (by omega) T.length
  have hco := row_zero (L := 25) (by omega) (T.getD 0 []).length
  rw [← rowsS_zero] at hro
  rw [← colsR_zero T] at hco
  have hzR := fun i => rowsS_len T i
  have hzC := fun w i k => colsR_len T w i k
  have hexp : expR T = if (rowR T ++ colR T).any (fun x => decide (x = 0)) = true then ([], 5) else ((rowR T).map fun x => cellR T x, 0) := by
    unfold expR
    rw [if_neg (not_not_intro he)]
    rfl
  rw [hexp]
  clear hexp
  generalize hw : (T.getD 0 []).length = w at *
  refine Go.Ev.Fn.intro (fn := Tryz.f8) (body := (Tryz.f8).body.get!) (by kernel_rfl) (by kernel_rfl) (by kernel_rfl) (fun _ => rfl) (Nat.le_of_ble_eq_true (by kernel_rfl)) ?_; unfold Tryz.f8; simp only [Option.get!_some]
  repeat (first | (simp only [go_sem, Nat.reduceEqDiff, Nat.reduceAdd, Nat.reduceSub, Nat.reduceMul, Nat.reduceLeDiff, Nat.reduceLT, reduceIte, reduceCtorEq, Nat.succ_ne_zero, elemsC, Int.reduceToNat, Nat.reducePow]) | (simp (disch := (first | omega | (simp only [AL, List.length_map]; omega))) only [AR, AL, ifT, ifF, take_all, List.length_cons, List.length_nil, Int.reduceToNat, Int.reducePow, Nat.reducePow]) | (refine wk_intro (by kernel_rfl) ?_) | (refine vp_draw (id := 4) (l := []) (by kernel_rfl) ?_) | (refine vp_draw (id := 12) (l := []) (by kernel_rfl) ?_) | (refine vp_draw (id := 30) (l := []) (by kernel_rfl) ?_) | (refine vf_of (by first | exact hE) ?_))
  repeat (first | (simp only [go_sem, Nat.reduceEqDiff, Nat.reduceAdd, Nat.reduceSub, Nat.reduceMul, Nat.reduceLeDiff, Nat.reduceLT, reduceIte, reduceCtorEq, Nat.succ_ne_zero, elemsC, Int.reduceToNat, Nat.reducePow, a0, a0', hlen]) | (simp (disch := (first | omega | (simp only [AL, List.length_map]; omega))) only [AR, AL, ifT, ifF, take_all, List.length_cons, List.length_nil, Int.reduceToNat, Int.reducePow, Nat.reducePow, a0, a0', hlen]) | (refine wk_intro (by kernel_rfl) ?_) | (refine vp_draw (id := 4) (l := []) (by kernel_rfl) ?_) | (refine vp_draw (id := 12) (l := []) (by kernel_rfl) ?_) | (refine vp_draw (id := 30) (l := []) (by kernel_rfl) ?_))
  generalize hA0 : (List.replicate T.length [SV.bool false, .sl 0 [], .sl 0 []]).flatten = A0 at *
  generalize hB0 : (List.replicate w [SV.bool false, .sl 0 [], .sl 0 []]).flatten = B0 at *
  refine vp_loop_inv (fun s => s.tmp 33 = .sv (.sl T.length cs) ∧ s.tmp 34 = .sv (.int .i64 (T.length : Int)) ∧ s.tmp 5 = .ref 27 0 3 0 T.length ∧ s.tmp 6 = .ref 32 0 3 0 w ∧
      ∃ (i : Nat) (ca cb : List SV), s.tmp 35 = .sv (.int .i64 (i : Int)) ∧ i ≤ T.length ∧ s.obj 27 0 = some ca ∧ RowC ca (rowsS T i) 25 ∧ s.obj 32 0 = some cb ∧ RowC cb (colsR T w i 0) 25)
    (fun s => match s.tmp 35 with | .sv (.int _ i) => T.length - i.toNat | _ => 0) ⟨rfl, rfl, rfl, rfl, 0, A0, B0, rfl, by omega, rfl, hro, rfl, hco⟩ ?_
  rintro s2 ⟨i33, i34, i5, i6, i, ca, cb, i35, hi, oA, hA, oB, hB⟩
  by_cases hend : i = T.length
  rotate_left
  · obtain ⟨rc, a1, hr⟩ := hat (i := i) (by omega)
    have hri := t3 i (by omega)
    have hSum := stat_Sum hr (by omega) (by omega) (by omega)
    have hAl := row_len hA
    rw [hzR] at hAl
    have hset := row_set' hA (RatA_rv (sz_sum12 (L := 1) (by omega) (row_sz (by omega) hr) (by omega))) (k := i) (by rw [hzR]; omega)
    rw [rowsS_set] at hset
    have hset : RowC (ca.take (i * 3) ++ [.bool (decide ((sumR (T.getD i [])).num < 0)), natV (lim (sumR (T.getD i [])).num.natAbs), natV (lim (sumR (T.getD i [])).den)] ++ ca.drop (i * 3 + 3)) (rowsS T (i + 1)) 25 := hset
    have hrl := row_len hr
    rw [hri] at hSum hrl a1
    have hcs1 := fun k => colS_step T k (i := i) (by omega)
    generalize T.getD i [] = r at *
    clear hA
    repeat (first | (simp only [go_sem, Nat.reduceEqDiff, Nat.reduceAdd, Nat.reduceSub, Nat.reduceMul, Nat.reduceLeDiff, Nat.reduceLT, reduceIte, reduceCtorEq, Nat.succ_ne_zero, elemsC, Int.reduceToNat, Nat.reducePow, i33, i34, i5, i6, i35, oA, oB, a1, hlen, hAl]) | (simp (disch := (first | omega | (simp only [AL, List.length_map]; omega))) only [AR, AL, ifT, ifF, take_all, List.length_cons, List.length_nil, Int.reduceToNat, Int.reducePow, Nat.reducePow, i33, i34, i5, i6, i35, oA, oB, a1, hlen, hAl]) | (refine wk_intro (by kernel_rfl) ?_) | (refine vp_draw (id := 4) (l := []) (by kernel_rfl) ?_) | (refine vp_draw (id := 12) (l := []) (by kernel_rfl) ?_) | (refine vp_draw (id := 30) (l := []) (by kernel_rfl) ?_) | (refine vf_of (by first | exact hSum) ?_))
    generalize ca.take (i * 3) ++ [.bool (decide ((sumR r).num < 0)), natV (lim (sumR r).num.natAbs), natV (lim (sumR r).den)] ++ ca.drop (i * 3 + 3) = ca' at *
    refine vp_loop_inv (fun s => s.tmp 33 = .sv (.sl T.length cs) ∧ s.tmp 34 = .sv (.int .i64 (T.length : Int)) ∧ s.tmp 5 = .ref 27 0 3 0 T.length ∧ s.tmp 6 = .ref 32 0 3 0 w ∧ s.tmp 35 = .sv (.int .i64 (i : Int)) ∧ s.obj 27 0 = some ca' ∧ s.tmp 45 = .sv (.sl w rc) ∧ s.tmp 46 = .sv (.int .i64 (w : Int)) ∧
        ∃ (k : Nat) (cb : List SV), s.tmp 47 = .sv (.int .i64 (k : Int)) ∧ k ≤ w ∧ s.obj 32 0 = some cb ∧ RowC cb (colsR T w i k) 25)
      (fun s => match s.tmp 47 with | .sv (.int _ i) => w - i.toNat | _ => 0) ⟨i33, i34, i5, i6, i35, rfl, rfl, rfl, 0, cb, rfl, by omega, oB, hB⟩ ?_
    rintro s3 ⟨j33, j34, j5, j6, j35, jA, j45, j46, k, cb, j47, hk, jB, hB⟩
    by_cases hkend : k = w
    · subst hkend
      rw [colsR_next] at hB
      repeat (first | (simp only [go_sem, Nat.reduceEqDiff, Nat.reduceAdd, Nat.reduceSub, Nat.reduceMul, Nat.reduceLeDiff, Nat.reduceLT, reduceIte, reduceCtorEq, Nat.succ_ne_zero, elemsC, Int.reduceToNat, Nat.reducePow, j33, j34, j5, j6, j35, jA, j45, j46, j47, jB]) | (simp (disch := (first | omega | (simp only [AL, List.length_map]; omega))) only [AR, AL, ifT, ifF, take_all, List.length_cons, List.length_nil, Int.reduceToNat, Int.reducePow, Nat.reducePow, j33, j34, j5, j6, j35, jA, j45, j46, j47, jB]) | (refine wk_intro (by kernel_rfl) ?_) | (refine vp_draw (id := 4) (l := []) (by kernel_rfl) ?_) | (refine vp_draw (id := 12) (l := []) (by kernel_rfl) ?_) | (refine vp_draw (id := 30) (l := []) (by kernel_rfl) ?_))
      exact ⟨⟨i + 1, ca', cb, rfl, by omega, rfl, hset, rfl, hB⟩, by omega⟩
    · obtain ⟨s, n, d, rest, g1, hX⟩ := row_at (i := k) hr (by omega)
      obtain ⟨s', n', d', rest', g2, hY⟩ := row_at (i := k) hB (by rw [hzC]; omega)
      rw [colsR_at T (by omega)] at hY
      have hBl := row_len hB
      rw [hzC] at hBl
      have hAdd := rat_Add hY hX (by omega) (by omega) (by omega)
      rw [← hcs1] at hAdd
      have hset2 := row_set' hB (RatA_rv (hcz (i + 1) k)) (k := k) (by rw [hzC]; omega)
      rw [colsR_set T w i k (by omega)] at hset2
      generalize colS T (i + 1) k = q at *
      clear hB hX hY hset
      repeat (first | (simp only [go_sem, Nat.reduceEqDiff, Nat.reduceAdd, Nat.reduceSub, Nat.reduceMul, Nat.reduceLeDiff, Nat.reduceLT, reduceIte, reduceCtorEq, Nat.succ_ne_zero, elemsC, Int.reduceToNat, Nat.reducePow, j33, j34, j5, j6, j35, jA, j45, j46, j47, jB, g1, g2, hrl, hBl]) | (simp (disch := (first | omega | (simp only [AL, List.length_map]; omega))) only [AR, AL, ifT, ifF, take_all, List.length_cons, List.length_nil, Int.reduceToNat, Int.reducePow, Nat.reducePow, j33, j34, j5, j6, j35, jA, j45, j46, j47, jB, g1, g2, hrl, hBl]) | (refine wk_intro (by kernel_rfl) ?_) | (refine vp_draw (id := 4) (l := []) (by kernel_rfl) ?_) | (refine vp_draw (id := 12) (l := []) (by kernel_rfl) ?_) | (refine vp_draw (id := 30) (l := []) (by kernel_rfl) ?_) | (refine vf_of (by first | exact hAdd) ?_))
      exact ⟨⟨k + 1, _, rfl, by omega, rfl, hset2⟩, by omega⟩
  subst hend
  rw [hra] at hA
  rw [hca] at hB
  clear hat hro hco hzR hzC hA0 hB0
  have hAl := row_len hA
  have hBl := row_len hB
  rw [hlr] at hAl
  rw [hlc] at hBl
  have h1A := row_one hA
  have h1B := row_one hB
  have htA : ca.take (T.length * 3) = ca := List.take_of_length_le (by omega)
  have htB : cb.take (w * 3) = cb := List.take_of_length_le (by omega)
  have hAB := row_append hA hB
  have hABl := row_len hAB
  rw [List.length_append, List.length_append, hlr, hlc] at hABl
  repeat (first | (simp only [go_sem, Nat.reduceEqDiff, Nat.reduceAdd, Nat.reduceSub, Nat.reduceMul, Nat.reduceLeDiff, Nat.reduceLT, reduceIte, reduceCtorEq, Nat.succ_ne_zero, elemsC, Int.reduceToNat, Nat.reducePow, i33, i34, i5, i6, i35, oA, oB, htA, htB, List.drop_zero, hAl, hBl, h1A, h1B, N0]) | (simp (disch := (first | omega | (simp only [AL, List.length_map]; omega))) only [AR, AL, ifT, ifF, take_all, List.length_cons, List.length_nil, Int.reduceToNat, Int.reducePow, Nat.reducePow, i33, i34, i5, i6, i35, oA, oB, htA, htB, List.drop_zero, hAl, hBl, h1A, h1B, N0]) | (refine wk_intro (by kernel_rfl) ?_) | (refine vp_draw (id := 4) (l := []) (by kernel_rfl) ?_) | (refine vp_draw (id := 12) (l := []) (by kernel_rfl) ?_) | (refine vp_draw (id := 30) (l := []) (by kernel_rfl) ?_))
  have hKl : (rowR T ++ colR T).length = T.length + w := by rw [List.length_append, hlr, hlc]
  generalize hK : rowR T ++ colR T = K at *
  by_cases hz0 : K.any (fun x => decide (x = 0)) = true
  · rw [if_pos hz0]
    refine vp_loop_inv (fun s => s.tmp 67 = .ref 63 (s2.gen 63) 3 0 (T.length + w) ∧ s.obj 63 (s2.gen 63) = some (ca ++ cb) ∧ s.tmp 68 = .sv (.int .i64 ((T.length + w : Nat) : Int)) ∧
        ∃ k : Nat, s.tmp 69 = .sv (.int .i64 (k : Int)) ∧ k ≤ T.length + w ∧ (K.take k).any (fun x => decide (x = 0)) = false)
      (fun s => match s.tmp 69 with | .sv (.int _ i) => T.length + w - i.toNat | _ => 0) ⟨?_, ?_, rfl, 0, rfl, by omega, rfl⟩ ?_
    · simp only [go_sem, Nat.reduceEqDiff, Nat.reduceAdd, Nat.reduceSub, Nat.reduceMul, Nat.reduceLeDiff, Nat.reduceLT, reduceIte, reduceCtorEq, Nat.succ_ne_zero, elemsC, Int.reduceToNat, Nat.reducePow]
    · simp only [go_sem, Nat.reduceEqDiff, Nat.reduceAdd, Nat.reduceSub, Nat.reduceMul, Nat.reduceLeDiff, Nat.reduceLT, reduceIte, reduceCtorEq, Nat.succ_ne_zero, elemsC, Int.reduceToNat, Nat.reducePow]
    rintro s3 ⟨j67, jO, j68, k, j69, hk, hkb⟩
    by_cases hend : k = T.length + w
    · rw [List.take_of_length_le (by omega), hz0] at hkb
      cases hkb
    · obtain ⟨s, n, d, rest, g1, hX⟩ := row_at (i := k) hAB (by omega)
      have zz := rat_Zero hX (by omega) (by omega)
      have gor := any_take (fun x : Rat => decide (x = 0)) K 0 (i := k) (by omega)
      rw [hkb, Bool.false_or] at gor
      generalize K.getD k 0 = x at *
      clear hX hz0 hAB hA hB
      have hcl : (ca ++ cb).length = (T.length + w) * 3 := by rw [List.length_append]; omega
      generalize ca ++ cb = cab at *
      by_cases hx : x = 0
      · rw [decide_eq_true hx] at zz
        clear gor
        repeat (first | (simp only [go_sem, Nat.reduceEqDiff, Nat.reduceAdd, Nat.reduceSub, Nat.reduceMul, Nat.reduceLeDiff, Nat.reduceLT, reduceIte, reduceCtorEq, Nat.succ_ne_zero, elemsC, Int.reduceToNat, Nat.reducePow, j67, jO, j68, j69, g1, hcl]) | (simp (disch := (first | omega | (simp only [AL, List.length_map]; omega))) only [AR, AL, ifT, ifF, take_all, List.length_cons, List.length_nil, Int.reduceToNat, Int.reducePow, Nat.reducePow, j67, jO, j68, j69, g1, hcl]) | (refine wk_intro (by kernel_rfl) ?_) | (refine vp_draw (id := 4) (l := []) (by kernel_rfl) ?_) | (refine vp_draw (id := 12) (l := []) (by kernel_rfl) ?_) | (refine vp_draw (id := 30) (l := []) (by kernel_rfl) ?_) | (refine vf_of (by first | exact zz) ?_))
        rfl
      · rw [decide_eq_false hx] at zz gor
        repeat (first | (simp only [go_sem, Nat.reduceEqDiff, Nat.reduceAdd, Nat.reduceSub, Nat.reduceMul, Nat.reduceLeDiff, Nat.reduceLT, reduceIte, reduceCtorEq, Nat.succ_ne_zero, elemsC, Int.reduceToNat, Nat.reducePow, j67, jO, j68, j69, g1, hcl]) | (simp (disch := (first | omega | (simp only [AL, List.length_map]; omega))) only [AR, AL, ifT, ifF, take_all, List.length_cons, List.length_nil, Int.reduceToNat, Int.reducePow, Nat.reducePow, j67, jO, j68, j69, g1, hcl]) | (refine wk_intro (by kernel_rfl) ?_) | (refine vp_draw (id := 4) (l := []) (by kernel_rfl) ?_) | (refine vp_draw (id := 12) (l := []) (by kernel_rfl) ?_) | (refine vp_draw (id := 30) (l := []) (by kernel_rfl) ?_) | (refine vf_of (by first | exact zz) ?_))
        exact ⟨⟨k + 1, rfl, by omega, gor⟩, by omega⟩
  rw [if_neg hz0]
  have hnz : ∀ k, k < T.length + w → K.getD k 0 ≠ 0 := fun k hk e => hz0 (any_of_getD (fun x : Rat => decide (x = 0)) K 0 (by omega) (decide_eq_true e))
  clear hz0
  refine vp_loop_inv (fun s => s.tmp 5 = .ref 27 0 3 0 T.length ∧ s.obj 27 0 = some ca ∧ s.tmp 6 = .ref 32 0 3 0 w ∧ s.obj 32 0 = some cb ∧ s.tmp 67 = .ref 63 (s2.gen 63) 3 0 (T.length + w) ∧ s.obj 63 (s2.gen 63) = some (ca ++ cb) ∧ s.tmp 68 = .sv (.int .i64 ((T.length + w : Nat) : Int)) ∧
      ∃ k : Nat, s.tmp 69 = .sv (.int .i64 (k : Int)) ∧ k ≤ T.length + w)
    (fun s => match s.tmp 69 with | .sv (.int _ i) => T.length + w - i.toNat | _ => 0) ⟨?_, ?_, ?_, ?_, ?_, ?_, rfl, 0, rfl, by omega⟩ ?_
  · simp only [go_sem, Nat.reduceEqDiff, Nat.reduceAdd, Nat.reduceSub, Nat.reduceMul, Nat.reduceLeDiff, Nat.reduceLT, reduceIte, reduceCtorEq, Nat.succ_ne_zero, elemsC, Int.reduceToNat, Nat.reducePow, i5]
  · simp only [go_sem, Nat.reduceEqDiff, Nat.reduceAdd, Nat.reduceSub, Nat.reduceMul, Nat.reduceLeDiff, Nat.reduceLT, reduceIte, reduceCtorEq, Nat.succ_ne_zero, elemsC, Int.reduceToNat, Nat.reducePow, oA]
  · simp only [go_sem, Nat.reduceEqDiff, Nat.reduceAdd, Nat.reduceSub, Nat.reduceMul, Nat.reduceLeDiff, Nat.reduceLT, reduceIte, reduceCtorEq, Nat.succ_ne_zero, elemsC, Int.reduceToNat, Nat.reducePow, i6]
  · simp only [go_sem, Nat.reduceEqDiff, Nat.reduceAdd, Nat.reduceSub, Nat.reduceMul, Nat.reduceLeDiff, Nat.reduceLT, reduceIte, reduceCtorEq, Nat.succ_ne_zero, elemsC, Int.reduceToNat, Nat.reducePow, oB]
  · simp only [go_sem, Nat.reduceEqDiff, Nat.reduceAdd, Nat.reduceSub, Nat.reduceMul, Nat.reduceLeDiff, Nat.reduceLT, reduceIte, reduceCtorEq, Nat.succ_ne_zero, elemsC, Int.reduceToNat, Nat.reducePow]
  · simp only [go_sem, Nat.reduceEqDiff, Nat.reduceAdd, Nat.reduceSub, Nat.reduceMul, Nat.reduceLeDiff, Nat.reduceLT, reduceIte, reduceCtorEq, Nat.succ_ne_zero, elemsC, Int.reduceToNat, Nat.reducePow]
  rintro s3 ⟨j5, jA, j6, jB, j67, jO, j68, k, j69, hk⟩
  by_cases hend : k = T.length + w
  rotate_left
  · obtain ⟨s, n, d, rest, g1, hX⟩ := row_at (i := k) hAB (by omega)
    have zz := rat_Zero hX (by omega) (by omega)
    have hx := hnz k (by omega)
    rw [decide_eq_false hx] at zz
    have hcl : (ca ++ cb).length = (T.length + w) * 3 := by rw [List.length_append]; omega
    clear hX hAB hA hB hnz hx
    generalize ca ++ cb = cab at *
    repeat (first | (simp only [go_sem, Nat.reduceEqDiff, Nat.reduceAdd, Nat.reduceSub, Nat.reduceMul, Nat.reduceLeDiff, Nat.reduceLT, reduceIte, reduceCtorEq, Nat.succ_ne_zero, elemsC, Int.reduceToNat, Nat.reducePow, j5, jA, j6, jB, j67, jO, j68, j69, g1, hcl]) | (simp (disch := (first | omega | (simp only [AL, List.length_map]; omega))) only [AR, AL, ifT, ifF, take_all, List.length_cons, List.length_nil, Int.reduceToNat, Int.reducePow, Nat.reducePow, j5, jA, j6, jB, j67, jO, j68, j69, g1, hcl]) | (refine wk_intro (by kernel_rfl) ?_) | (refine vp_draw (id := 4) (l := []) (by kernel_rfl) ?_) | (refine vp_draw (id := 12) (l := []) (by kernel_rfl) ?_) | (refine vp_draw (id := 30) (l := []) (by kernel_rfl) ?_) | (refine vf_of (by first | exact zz) ?_))
    exact ⟨⟨k + 1, rfl, by omega⟩, by omega⟩
  subst hend
  have hSum := stat_Sum hA (by omega) (by omega) (by omega)
  rw [hlr] at hSum
  have zS := sz_sum12 (by omega) hrz (by omega)
  clear hAB hnz hK hKl
  have hXl : ((rowR T).map fun x => cellR T x).length = T.length := by rw [List.length_map]; exact hlr
  have hXg : ∀ i, i < T.length → ((rowR T).map fun x => cellR T x).take (i + 1) = ((rowR T).map fun x => cellR T x).take i ++ [cellR T ((rowR T).getD i 0)] := by
    intro i hi
    rw [List.take_add_one, List.getElem?_map, List.getElem?_eq_getElem (by omega), List.getD_eq_getElem?_getD, List.getElem?_eq_getElem (by omega)]
    rfl
  have hXt : ((rowR T).map fun x => cellR T x).take T.length = (rowR T).map fun x => cellR T x := List.take_of_length_le (by omega)
  have hcl : ∀ x, (cellR T x).length = w := fun x => by unfold cellR; rw [List.length_map]; exact hlc
  have hcg : ∀ x k, k < w → (cellR T x).getD k 0 = x * (colR T).getD k 0 / sumR (rowR T) := by
    intro x k hk
    unfold cellR
    rw [getD_map _ _ (by omega)]
  generalize hX : (rowR T).map (fun x => cellR T x) = X at *
  have hzc : ∀ k, k < w → szR ((colR T).getD k 0) 25 := fun k hk => row_sz (by omega) hB _ (getD_mem (by omega))
  have hzr : ∀ k, k < T.length → szR ((rowR T).getD k 0) 25 := fun k hk => row_sz (by omega) hA _ (getD_mem (by omega))
  generalize hS0 : sumR (rowR T) = S0 at *
  repeat (first | (simp only [go_sem, Nat.reduceEqDiff, Nat.reduceAdd, Nat.reduceSub, Nat.reduceMul, Nat.reduceLeDiff, Nat.reduceLT, reduceIte, reduceCtorEq, Nat.succ_ne_zero, elemsC, Int.reduceToNat, Nat.reducePow, j5, jA, j6, jB, j67, jO, j68, j69, N0, htA, List.drop_zero]) | (simp (disch := (first | omega | (simp only [AL, List.length_map]; omega))) only [AR, AL, ifT, ifF, take_all, List.length_cons, List.length_nil, Int.reduceToNat, Int.reducePow, Nat.reducePow, j5, jA, j6, jB, j67, jO, j68, j69, N0, htA, List.drop_zero]) | (refine wk_intro (by kernel_rfl) ?_) | (refine vp_draw (id := 4) (l := []) (by kernel_rfl) ?_) | (refine vp_draw (id := 12) (l := []) (by kernel_rfl) ?_) | (refine vp_draw (id := 30) (l := []) (by kernel_rfl) ?_) | (refine vf_of (by first | exact hSum) ?_))
  refine vp_loop_inv (fun s => s.tmp 6 = .ref 32 0 3 0 w ∧ s.obj 32 0 = some cb ∧ s.tmp 13 = .ptr 13 (s3.gen 13) 0 ∧ s.obj 13 (s3.gen 13) = some (rvC S0) ∧ s.tmp 78 = .sv (.sl T.length ca) ∧ s.tmp 79 = .sv (.int .i64 (T.length : Int)) ∧
      ∃ i : Nat, s.tmp 80 = .sv (.int .i64 (i : Int)) ∧ i ≤ T.length ∧ ((i = 0 ∧ s.tmp 14 = .nil) ∨ (0 < i ∧ ∃ g, s.tmp 14 = .ref 102 g 1 0 i ∧ s.obj 102 g = some (tabsC (X.take i)))))
    (fun s => match s.tmp 80 with | .sv (.int _ i) => T.length - i.toNat | _ => 0) ⟨?_, ?_, ?_, ?_, ?_, ?_, 0, ?_, by omega, .inl ⟨rfl, ?_⟩⟩ ?_
  · simp only [go_sem, Nat.reduceEqDiff, Nat.reduceAdd, Nat.reduceSub, Nat.reduceMul, Nat.reduceLeDiff, Nat.reduceLT, reduceIte, reduceCtorEq, Nat.succ_ne_zero, elemsC, Int.reduceToNat, Nat.reducePow, j6]
  · simp only [go_sem, Nat.reduceEqDiff, Nat.reduceAdd, Nat.reduceSub, Nat.reduceMul, Nat.reduceLeDiff, Nat.reduceLT, reduceIte, reduceCtorEq, Nat.succ_ne_zero, elemsC, Int.reduceToNat, Nat.reducePow, jB]
  · simp only [go_sem, Nat.reduceEqDiff, Nat.reduceAdd, Nat.reduceSub, Nat.reduceMul, Nat.reduceLeDiff, Nat.reduceLT, reduceIte, reduceCtorEq, Nat.succ_ne_zero, elemsC, Int.reduceToNat, Nat.reducePow]
  · simp only [go_sem, Nat.reduceEqDiff, Nat.reduceAdd, Nat.reduceSub, Nat.reduceMul, Nat.reduceLeDiff, Nat.reduceLT, reduceIte, reduceCtorEq, Nat.succ_ne_zero, elemsC, Int.reduceToNat, Nat.reducePow, rvC]
  · simp only [go_sem, Nat.reduceEqDiff, Nat.reduceAdd, Nat.reduceSub, Nat.reduceMul, Nat.reduceLeDiff, Nat.reduceLT, reduceIte, reduceCtorEq, Nat.succ_ne_zero, elemsC, Int.reduceToNat, Nat.reducePow, htA, List.drop_zero]
  · simp only [go_sem, Nat.reduceEqDiff, Nat.reduceAdd, Nat.reduceSub, Nat.reduceMul, Nat.reduceLeDiff, Nat.reduceLT, reduceIte, reduceCtorEq, Nat.succ_ne_zero, elemsC, Int.reduceToNat, Nat.reducePow]
  · rfl
  · simp only [go_sem, Nat.reduceEqDiff, Nat.reduceAdd, Nat.reduceSub, Nat.reduceMul, Nat.reduceLeDiff, Nat.reduceLT, reduceIte, reduceCtorEq, Nat.succ_ne_zero, elemsC, Int.reduceToNat, Nat.reducePow]
  rintro s4 ⟨i6, oB, i13, oS, i78, i79, i, i80, hi, h14⟩
  by_cases hend : i = T.length
  · subst hend
    rcases h14 with ⟨h0, _⟩ | ⟨_, g, i14, oX⟩
    · omega
    · rw [hXt] at oX
      repeat (first | (simp only [go_sem, Nat.reduceEqDiff, Nat.reduceAdd, Nat.reduceSub, Nat.reduceMul, Nat.reduceLeDiff, Nat.reduceLT, reduceIte, reduceCtorEq, Nat.succ_ne_zero, elemsC, Int.reduceToNat, Nat.reducePow, i6, oB, i13, oS, i78, i79, i80, i14, oX]) | (simp (disch := (first | omega | (simp only [AL, List.length_map]; omega))) only [AR, AL, ifT, ifF, take_all, List.length_cons, List.length_nil, Int.reduceToNat, Int.reducePow, Nat.reducePow, i6, oB, i13, oS, i78, i79, i80, i14, oX]) | (refine wk_intro (by kernel_rfl) ?_) | (refine vp_draw (id := 4) (l := []) (by kernel_rfl) ?_) | (refine vp_draw (id := 12) (l := []) (by kernel_rfl) ?_) | (refine vp_draw (id := 30) (l := []) (by kernel_rfl) ?_))
      refine ro_ref (cs := tabsC X) (by decide) ?_ ?_
      · simp only [go_sem, Nat.reduceEqDiff, Nat.reduceAdd, Nat.reduceSub, Nat.reduceMul, Nat.reduceLeDiff, Nat.reduceLT, reduceIte, reduceCtorEq, Nat.succ_ne_zero, elemsC, Int.reduceToNat, Nat.reducePow, oX]
      · rw [List.drop_zero, Nat.mul_one, List.take_of_length_le (by rw [tabsC_len]; omega), hXl]
  · obtain ⟨s, n, d, rest, g1, hXx⟩ := row_at (i := i) hA (by omega)
    have hg := hXg i (by omega)
    have hzx := hzr i (by omega)
    generalize (rowR T).getD i 0 = x at *
    have hll := hcl x
    have hlg := hcg x
    generalize cellR T x = l at *
    have hsnX := tabsC_snoc (X.take i) l
    rw [← hg, hll] at hsnX
    have hXil := tabsC_len (X.take i)
    rw [List.length_take, hXl, Nat.min_eq_left (by omega)] at hXil
    repeat (first | (simp only [go_sem, Nat.reduceEqDiff, Nat.reduceAdd, Nat.reduceSub, Nat.reduceMul, Nat.reduceLeDiff, Nat.reduceLT, reduceIte, reduceCtorEq, Nat.succ_ne_zero, elemsC, Int.reduceToNat, Nat.reducePow, i6, oB, i13, oS, i78, i79, i80, g1, hAl]) | (simp (disch := (first | omega | (simp only [AL, List.length_map]; omega))) only [AR, AL, ifT, ifF, take_all, List.length_cons, List.length_nil, Int.reduceToNat, Int.reducePow, Nat.reducePow, i6, oB, i13, oS, i78, i79, i80, g1, hAl]) | (refine wk_intro (by kernel_rfl) ?_) | (refine vp_draw (id := 4) (l := []) (by kernel_rfl) ?_) | (refine vp_draw (id := 12) (l := []) (by kernel_rfl) ?_) | (refine vp_draw (id := 30) (l := []) (by kernel_rfl) ?_))
    refine vp_loop_inv (fun s' => s'.tmp 6 = .ref 32 0 3 0 w ∧ s'.obj 32 0 = some cb ∧ s'.tmp 13 = .ptr 13 (s3.gen 13) 0 ∧ s'.obj 13 (s3.gen 13) = some (rvC S0) ∧ s'.tmp 78 = .sv (.sl T.length ca) ∧ s'.tmp 79 = .sv (.int .i64 (T.length : Int)) ∧ s'.tmp 80 = .sv (.int .i64 (i : Int)) ∧
        s'.tmp 16 = .ptr 16 (s4.gen 16) 0 ∧ s'.obj 16 (s4.gen 16) = some [.bool s, natV n, natV d] ∧ s'.tmp 84 = .ref 32 0 3 0 w ∧ s'.tmp 85 = .sv (.int .i64 (w : Int)) ∧ ((i = 0 ∧ s'.tmp 14 = .nil) ∨ (0 < i ∧ ∃ g, s'.tmp 14 = .ref 102 g 1 0 i ∧ s'.obj 102 g = some (tabsC (X.take i)))) ∧
        ∃ k : Nat, s'.tmp 86 = .sv (.int .i64 (k : Int)) ∧ k ≤ w ∧ ((k = 0 ∧ s'.tmp 17 = .nil) ∨ (0 < k ∧ ∃ g, s'.tmp 17 = .ref 97 g 3 0 k ∧ s'.obj 97 g = some (rvsC (l.take k)))))
      (fun s => match s.tmp 86 with | .sv (.int _ i) => w - i.toNat | _ => 0) ⟨?_, ?_, ?_, ?_, ?_, ?_, ?_, ?_, ?_, ?_, ?_, ?_, 0, rfl, by omega, .inl ⟨rfl, ?_⟩⟩ ?_
    · simp only [go_sem, Nat.reduceEqDiff, Nat.reduceAdd, Nat.reduceSub, Nat.reduceMul, Nat.reduceLeDiff, Nat.reduceLT, reduceIte, reduceCtorEq, Nat.succ_ne_zero, elemsC, Int.reduceToNat, Nat.reducePow, i6]
    · simp only [go_sem, Nat.reduceEqDiff, Nat.reduceAdd, Nat.reduceSub, Nat.reduceMul, Nat.reduceLeDiff, Nat.reduceLT, reduceIte, reduceCtorEq, Nat.succ_ne_zero, elemsC, Int.reduceToNat, Nat.reducePow, oB]
    · simp only [go_sem, Nat.reduceEqDiff, Nat.reduceAdd, Nat.reduceSub, Nat.reduceMul, Nat.reduceLeDiff, Nat.reduceLT, reduceIte, reduceCtorEq, Nat.succ_ne_zero, elemsC, Int.reduceToNat, Nat.reducePow, i13]
    · simp only [go_sem, Nat.reduceEqDiff, Nat.reduceAdd, Nat.reduceSub, Nat.reduceMul, Nat.reduceLeDiff, Nat.reduceLT, reduceIte, reduceCtorEq, Nat.succ_ne_zero, elemsC, Int.reduceToNat, Nat.reducePow, oS]
    · simp only [go_sem, Nat.reduceEqDiff, Nat.reduceAdd, Nat.reduceSub, Nat.reduceMul, Nat.reduceLeDiff, Nat.reduceLT, reduceIte, reduceCtorEq, Nat.succ_ne_zero, elemsC, Int.reduceToNat, Nat.reducePow, i78]
    · simp only [go_sem, Nat.reduceEqDiff, Nat.reduceAdd, Nat.reduceSub, Nat.reduceMul, Nat.reduceLeDiff, Nat.reduceLT, reduceIte, reduceCtorEq, Nat.succ_ne_zero, elemsC, Int.reduceToNat, Nat.reducePow, i79]
    · simp only [go_sem, Nat.reduceEqDiff, Nat.reduceAdd, Nat.reduceSub, Nat.reduceMul, Nat.reduceLeDiff, Nat.reduceLT, reduceIte, reduceCtorEq, Nat.succ_ne_zero, elemsC, Int.reduceToNat, Nat.reducePow, i80]
    · simp only [go_sem, Nat.reduceEqDiff, Nat.reduceAdd, Nat.reduceSub, Nat.reduceMul, Nat.reduceLeDiff, Nat.reduceLT, reduceIte, reduceCtorEq, Nat.succ_ne_zero, elemsC, Int.reduceToNat, Nat.reducePow]
    · simp only [go_sem, Nat.reduceEqDiff, Nat.reduceAdd, Nat.reduceSub, Nat.reduceMul, Nat.reduceLeDiff, Nat.reduceLT, reduceIte, reduceCtorEq, Nat.succ_ne_zero, elemsC, Int.reduceToNat, Nat.reducePow]
    · simp only [go_sem, Nat.reduceEqDiff, Nat.reduceAdd, Nat.reduceSub, Nat.reduceMul, Nat.reduceLeDiff, Nat.reduceLT, reduceIte, reduceCtorEq, Nat.succ_ne_zero, elemsC, Int.reduceToNat, Nat.reducePow, i6]
    · simp only [go_sem, Nat.reduceEqDiff, Nat.reduceAdd, Nat.reduceSub, Nat.reduceMul, Nat.reduceLeDiff, Nat.reduceLT, reduceIte, reduceCtorEq, Nat.succ_ne_zero, elemsC, Int.reduceToNat, Nat.reducePow]
    · simp only [go_sem, Nat.reduceEqDiff, Nat.reduceAdd, Nat.reduceSub, Nat.reduceMul, Nat.reduceLeDiff, Nat.reduceLT, reduceIte, reduceCtorEq, Nat.succ_ne_zero, elemsC, Int.reduceToNat, Nat.reducePow, h14]
    · simp only [go_sem, Nat.reduceEqDiff, Nat.reduceAdd, Nat.reduceSub, Nat.reduceMul, Nat.reduceLeDiff, Nat.reduceLT, reduceIte, reduceCtorEq, Nat.succ_ne_zero, elemsC, Int.reduceToNat, Nat.reducePow]
    rintro s5 ⟨j6, jB, j13, jS, j78, j79, j80, j16, jx, j84, j85, j14, k, j86, hk, j17⟩
    by_cases hkend : k = w
    · subst hkend
      rcases j17 with ⟨h0, _⟩ | ⟨_, g, j17, jl⟩
      · omega
      · rw [List.take_of_length_le (by omega)] at jl
        have hrl := rvsC_len l
        have htl : (rvsC l).take (k * 3) = rvsC l := List.take_of_length_le (by omega)
        rcases j14 with ⟨hi0, j14⟩ | ⟨hi0, g', j14, jX⟩
        · subst hi0
          rw [List.take_zero] at hsnX
          repeat (first | (simp only [go_sem, Nat.reduceEqDiff, Nat.reduceAdd, Nat.reduceSub, Nat.reduceMul, Nat.reduceLeDiff, Nat.reduceLT, reduceIte, reduceCtorEq, Nat.succ_ne_zero, elemsC, Int.reduceToNat, Nat.reducePow, j6, jB, j13, jS, j78, j79, j80, j16, jx, j84, j85, j86, j17, jl, j14, htl, List.drop_zero, N0]) | (simp (disch := (first | omega | (simp only [AL, List.length_map]; omega))) only [AR, AL, ifT, ifF, take_all, List.length_cons, List.length_nil, Int.reduceToNat, Int.reducePow, Nat.reducePow, j6, jB, j13, jS, j78, j79, j80, j16, jx, j84, j85, j86, j17, jl, j14, htl, List.drop_zero, N0]) | (refine wk_intro (by kernel_rfl) ?_) | (refine vp_draw (id := 4) (l := []) (by kernel_rfl) ?_) | (refine vp_draw (id := 12) (l := []) (by kernel_rfl) ?_) | (refine vp_draw (id := 30) (l := []) (by kernel_rfl) ?_))
          exact ⟨⟨1, rfl, by omega, .inr ⟨by omega, _, rfl, (if_pos rfl).trans (congrArg some hsnX).symm⟩⟩, by omega⟩
        · repeat (first | (simp only [go_sem, Nat.reduceEqDiff, Nat.reduceAdd, Nat.reduceSub, Nat.reduceMul, Nat.reduceLeDiff, Nat.reduceLT, reduceIte, reduceCtorEq, Nat.succ_ne_zero, elemsC, Int.reduceToNat, Nat.reducePow, j6, jB, j13, jS, j78, j79, j80, j16, jx, j84, j85, j86, j17, jl, j14, jX, htl, List.drop_zero, N0, hXil]) | (simp (disch := (first | omega | (simp only [AL, List.length_map]; omega))) only [AR, AL, ifT, ifF, take_all, List.length_cons, List.length_nil, Int.reduceToNat, Int.reducePow, Nat.reducePow, j6, jB, j13, jS, j78, j79, j80, j16, jx, j84, j85, j86, j17, jl, j14, jX, htl, List.drop_zero, N0, hXil]) | (refine wk_intro (by kernel_rfl) ?_) | (refine vp_draw (id := 4) (l := []) (by kernel_rfl) ?_) | (refine vp_draw (id := 12) (l := []) (by kernel_rfl) ?_) | (refine vp_draw (id := 30) (l := []) (by kernel_rfl) ?_))
          exact ⟨⟨i + 1, rfl, by omega, .inr ⟨by omega, _, rfl, (if_pos rfl).trans (congrArg some hsnX).symm⟩⟩, by omega⟩
    · obtain ⟨s', n', d', rest', g2, hY⟩ := row_at (i := k) hB (by omega)
      have hzy := hzc k (by omega)
      have hgk := hlg k (by omega)
      generalize (colR T).getD k 0 = y at *
      have m1 := rat_Mul hXx hY (by omega) (by omega) (by omega)
      have o1 := test_over (RatA_rv (szR_mul hzx hzy (by omega))) (RatA_rv zS) (by omega) (by omega) (by omega)
      have hsn := rvs_snoc (l := l) (i := k) (by omega)
      rw [hgk] at hsn
      generalize x * y / S0 = q at *
      have hrl := rvsC_len (l.take k)
      rw [List.length_take, hll, Nat.min_eq_left (by omega)] at hrl
      rcases j17 with ⟨hk0, j17⟩ | ⟨hk0, g, j17, jl⟩
      · subst hk0
        rw [List.take_zero, rvsC_nil, List.nil_append] at hsn
        rw [Nat.zero_mul, List.drop_zero] at g2
        repeat (first | (simp only [go_sem, Nat.reduceEqDiff, Nat.reduceAdd, Nat.reduceSub, Nat.reduceMul, Nat.reduceLeDiff, Nat.reduceLT, reduceIte, reduceCtorEq, Nat.succ_ne_zero, elemsC, Int.reduceToNat, Nat.reducePow, j6, jB, j13, jS, j78, j79, j80, j16, jx, j84, j85, j86, j17, g2, hBl, rvC, N0]) | (simp (disch := (first | omega | (simp only [AL, List.length_map]; omega))) only [AR, AL, ifT, ifF, take_all, List.length_cons, List.length_nil, Int.reduceToNat, Int.reducePow, Nat.reducePow, j6, jB, j13, jS, j78, j79, j80, j16, jx, j84, j85, j86, j17, g2, hBl, rvC, N0]) | (refine wk_intro (by kernel_rfl) ?_) | (refine vp_draw (id := 4) (l := []) (by kernel_rfl) ?_) | (refine vp_draw (id := 12) (l := []) (by kernel_rfl) ?_) | (refine vp_draw (id := 30) (l := []) (by kernel_rfl) ?_) | (refine vf_of (by first | exact m1 | exact o1) ?_))
        exact ⟨⟨j14, 1, rfl, by omega, .inr ⟨by omega, _, rfl, (if_pos rfl).trans (congrArg some hsn)⟩⟩, by omega⟩
      · unfold rvC at hsn
        rcases j14 with ⟨hi0, j14⟩ | ⟨hi0, g', j14, jX⟩
        · repeat (first | (simp only [go_sem, Nat.reduceEqDiff, Nat.reduceAdd, Nat.reduceSub, Nat.reduceMul, Nat.reduceLeDiff, Nat.reduceLT, reduceIte, reduceCtorEq, Nat.succ_ne_zero, elemsC, Int.reduceToNat, Nat.reducePow, j6, jB, j13, jS, j78, j79, j80, j16, jx, j84, j85, j86, j17, jl, g2, hBl, rvC, j14]) | (simp (disch := (first | omega | (simp only [AL, List.length_map]; omega))) only [AR, AL, ifT, ifF, take_all, List.length_cons, List.length_nil, Int.reduceToNat, Int.reducePow, Nat.reducePow, j6, jB, j13, jS, j78, j79, j80, j16, jx, j84, j85, j86, j17, jl, g2, hBl, rvC, j14]) | (refine wk_intro (by kernel_rfl) ?_) | (refine vp_draw (id := 4) (l := []) (by kernel_rfl) ?_) | (refine vp_draw (id := 12) (l := []) (by kernel_rfl) ?_) | (refine vp_draw (id := 30) (l := []) (by kernel_rfl) ?_))
          repeat (first | (simp only [go_sem, Nat.reduceEqDiff, Nat.reduceAdd, Nat.reduceSub, Nat.reduceMul, Nat.reduceLeDiff, Nat.reduceLT, reduceIte, reduceCtorEq, Nat.succ_ne_zero, elemsC, Int.reduceToNat, Nat.reducePow, j6, jB, j13, jS, j78, j79, j80, j16, jx, j84, j85, j86, j17, jl, g2, hBl, rvC, j14, N0, hrl]) | (simp (disch := (first | omega | (simp only [AL, List.length_map]; omega))) only [AR, AL, ifT, ifF, take_all, List.length_cons, List.length_nil, Int.reduceToNat, Int.reducePow, Nat.reducePow, j6, jB, j13, jS, j78, j79, j80, j16, jx, j84, j85, j86, j17, jl, g2, hBl, rvC, j14, N0, hrl]) | (refine wk_intro (by kernel_rfl) ?_) | (refine vp_draw (id := 4) (l := []) (by kernel_rfl) ?_) | (refine vp_draw (id := 12) (l := []) (by kernel_rfl) ?_) | (refine vp_draw (id := 30) (l := []) (by kernel_rfl) ?_) | (refine vf_of (by first | exact m1 | exact o1) ?_))
          refine ⟨⟨?_, k + 1, rfl, by omega, .inr ⟨by omega, _, rfl, (if_pos rfl).trans (congrArg some hsn)⟩⟩, by omega⟩
          first | exact .inl ⟨hi0, rfl⟩ | exact .inl hi0 | simp [hi0]
        · repeat (first | (simp only [go_sem, Nat.reduceEqDiff, Nat.reduceAdd, Nat.reduceSub, Nat.reduceMul, Nat.reduceLeDiff, Nat.reduceLT, reduceIte, reduceCtorEq, Nat.succ_ne_zero, elemsC, Int.reduceToNat, Nat.reducePow, j6, jB, j13, jS, j78, j79, j80, j16, jx, j84, j85, j86, j17, jl, g2, hBl, rvC, j14]) | (simp (disch := (first | omega | (simp only [AL, List.length_map]; omega))) only [AR, AL, ifT, ifF, take_all, List.length_cons, List.length_nil, Int.reduceToNat, Int.reducePow, Nat.reducePow, j6, jB, j13, jS, j78, j79, j80, j16, jx, j84, j85, j86, j17, jl, g2, hBl, rvC, j14]) | (refine wk_intro (by kernel_rfl) ?_) | (refine vp_draw (id := 4) (l := []) (by kernel_rfl) ?_) | (refine vp_draw (id := 12) (l := []) (by kernel_rfl) ?_) | (refine vp_draw (id := 30) (l := []) (by kernel_rfl) ?_))
          repeat (first | (simp only [go_sem, Nat.reduceEqDiff, Nat.reduceAdd, Nat.reduceSub, Nat.reduceMul, Nat.reduceLeDiff, Nat.reduceLT, reduceIte, reduceCtorEq, Nat.succ_ne_zero, elemsC, Int.reduceToNat, Nat.reducePow, j6, jB, j13, jS, j78, j79, j80, j16, jx, j84, j85, j86, j17, jl, g2, hBl, rvC, j14, N0, hrl]) | (simp (disch := (first | omega | (simp only [AL, List.length_map]; omega))) only [AR, AL, ifT, ifF, take_all, List.length_cons, List.length_nil, Int.reduceToNat, Int.reducePow, Nat.reducePow, j6, jB, j13, jS, j78, j79, j80, j16, jx, j84, j85, j86, j17, jl, g2, hBl, rvC, j14, N0, hrl]) | (refine wk_intro (by kernel_rfl) ?_) | (refine vp_draw (id := 4) (l := []) (by kernel_rfl) ?_) | (refine vp_draw (id := 12) (l := []) (by kernel_rfl) ?_) | (refine vp_draw (id := 30) (l := []) (by kernel_rfl) ?_) | (refine vf_of (by first | exact m1 | exact o1) ?_))
          refine ⟨⟨?_, k + 1, rfl, by omega, .inr ⟨by omega, _, rfl, (if_pos rfl).trans (congrArg some hsn)⟩⟩, by omega⟩
          exact .inr ⟨hi0, _, rfl, jX⟩
end Go.Proofs.YtdnmhnjblgkjaaaGreat

/- vernierref19.column, Expected, in the evaluator. -/
namespace Go.Proofs.YtdnmhnjblgkjaaaGreat
set_option linter.unusedSimpArgs false
set_option linter.unusedVariables false
set_option maxRecDepth 8000
open Go.Ev
/-- A column's cells. -/
def colCells (cs : List SV) (k : Nat) : List SV := cs.flatMap fun v => match v with
  | .sl _ rc => (rc.drop (k * 3)).take 3
  | _ => []
theorem colCells_snoc {cs : List SV} {i w k : Nat} {rc : List SV} (h : (cs.drop i).head? = some (.sl w rc)) : colCells (cs.take (i + 1)) k = colCells (cs.take i) k ++ (rc.drop (k * 3)).take 3 := by
  rw [List.head?_drop] at h
  unfold colCells
  rw [List.take_add_one, h, List.flatMap_append]
  simp
theorem colCells_row {T : List (List Rat)} {k : Nat} : ∀ {cs : List SV}, TabC cs T 1 → (∀ r ∈ T, k < r.length) → RowC (colCells cs k) (T.map fun r => r.getD k 0) 1 := by
  induction T with
  | nil => intro cs h _; cases h; rfl
  | cons r T ih =>
    intro cs h hk
    obtain ⟨rc, rest, rfl, h1, h2⟩ := h
    obtain ⟨s, n, d, rest', g, hA⟩ := row_at (i := k) h1 (hk r List.mem_cons_self)
    refine ⟨s, n, d, colCells rest k, ?_, hA, ih h2 fun x hx => hk x (List.mem_cons_of_mem _ hx)⟩
    show (rc.drop (k * 3)).take 3 ++ colCells rest k = _
    rw [g]
    rfl
theorem colCells_len {cs : List SV} {T : List (List Rat)} {k : Nat} (h : TabC cs T 1) (hk : ∀ r ∈ T, k < r.length) : (colCells cs k).length = T.length * 3 := by
  rw [row_len (colCells_row h hk), List.length_map]
theorem tab_take {L : Nat} : ∀ {T : List (List Rat)} {cs : List SV} (i : Nat), TabC cs T L → TabC (cs.take i) (T.take i) L
  | [], _, i, h => by cases h; simp [TabC]
  | r :: T, cs, 0, _ => rfl
  | r :: T, cs, i + 1, h => by
    obtain ⟨rc, rest, rfl, h1, h2⟩ := h
    exact ⟨rc, rest.take i, rfl, h1, tab_take i h2⟩
theorem getD_mem' {α : Type} {l : List α} {d : α} {i : Nat} (h : i < l.length) : l.getD i d ∈ l := by
  rw [List.getD_eq_getElem?_getD, List.getElem?_eq_getElem h]; exact List.getElem_mem h
theorem ref19_column {cs : List SV} {T : List (List Rat)} {k : Nat} (h : TabC cs T 1) (hn : T.length ≤ 4) (hl : ∀ r ∈ T, r.length ≤ 4) (hk : ∀ r ∈ T, k < r.length) (h0 : 1 ≤ T.length) :
    Go.Ev.Fn CX 32 [.sl T.length cs, .int .i64 (k : Int)] (.sl T.length (colCells cs k)) := by
  have hlen := tab_len h
  have hat := fun {i : Nat} (hi : i < T.length) => tabC_at (i := i) h hi
  have hcl := fun i => colCells_len (tab_take i h) (fun r hr => hk r (List.mem_of_mem_take hr))
  have hkw : ∀ i, i < T.length → k < (T.getD i []).length := fun i hi => hk _ (getD_mem' hi)
  have h4 := tab_ok hl
  have hk4 : k < 4 := by have h1 := hkw 0 (by omega); have h2 := h4 0; omega
  refine Go.Ev.Fn.intro (fn := Tryz.f32) (body := (Tryz.f32).body.get!) (by kernel_rfl) (by kernel_rfl) (by kernel_rfl) (fun _ => rfl) (Nat.le_of_ble_eq_true (by kernel_rfl)) ?_; unfold Tryz.f32; simp only [Option.get!_some]
  repeat (first | (simp only [go_sem, Nat.reduceEqDiff, Nat.reduceAdd, Nat.reduceSub, Nat.reduceMul, Nat.reduceLeDiff, Nat.reduceLT, reduceIte, reduceCtorEq, Nat.succ_ne_zero, elemsC, Int.reduceToNat, Nat.reducePow]) | (simp (disch := (first | omega | (simp only [AL, List.length_map]; omega))) only [AR, AL, ifT, ifF, take_all, List.length_cons, List.length_nil, Int.reduceToNat, Int.reducePow, Nat.reducePow]) | (refine wk_intro (by kernel_rfl) ?_))
  refine vp_loop_inv (fun s => s.tmp 0 = .sv (.sl T.length cs) ∧ s.tmp 1 = .sv (.int .i64 (k : Int)) ∧
      ∃ i : Nat, s.tmp 6 = .sv (.int .i64 (i : Int)) ∧ i ≤ T.length ∧ ((i = 0 ∧ s.tmp 5 = .nil ∧ s.gen 22 = 0) ∨ (0 < i ∧ s.tmp 5 = .ref 22 0 3 0 i ∧ s.obj 22 0 = some (colCells (cs.take i) k))))
    (fun s => match s.tmp 6 with | .sv (.int _ i) => T.length - i.toNat | _ => 0) ⟨rfl, rfl, 0, rfl, by omega, .inl ⟨rfl, rfl, rfl⟩⟩ ?_
  rintro s2 ⟨i0, i1, i, i6, hi, hc⟩
  by_cases hend : i = T.length
  · subst hend
    rcases hc with ⟨h00, _⟩ | ⟨_, i5, iP⟩
    · omega
    · rw [List.take_of_length_le (by omega)] at iP
      have hc2 := hcl T.length
      rw [List.take_of_length_le (by omega), List.take_of_length_le (by omega)] at hc2
      repeat (first | (simp only [go_sem, Nat.reduceEqDiff, Nat.reduceAdd, Nat.reduceSub, Nat.reduceMul, Nat.reduceLeDiff, Nat.reduceLT, reduceIte, reduceCtorEq, Nat.succ_ne_zero, elemsC, Int.reduceToNat, Nat.reducePow, i0, i1, i6, i5, iP]) | (simp (disch := (first | omega | (simp only [AL, List.length_map]; omega))) only [AR, AL, ifT, ifF, take_all, List.length_cons, List.length_nil, Int.reduceToNat, Int.reducePow, Nat.reducePow, i0, i1, i6, i5, iP]) | (refine wk_intro (by kernel_rfl) ?_))
      refine ro_ref (cs := colCells cs k) (by decide) ?_ ?_
      · simp only [go_sem, Nat.reduceEqDiff, Nat.reduceAdd, Nat.reduceSub, Nat.reduceMul, Nat.reduceLeDiff, Nat.reduceLT, reduceIte, reduceCtorEq, Nat.succ_ne_zero, elemsC, Int.reduceToNat, Nat.reducePow, i5, iP]
      · rw [List.drop_zero, List.take_of_length_le (by omega)]
  · obtain ⟨rc, a1, hr⟩ := hat (i := i) (by omega)
    have hkr := hkw i (by omega)
    have hri := h4 i
    have hsn := colCells_snoc (k := k) a1
    obtain ⟨s, n, d, rest, g1, hA⟩ := row_at (i := k) hr hkr
    have hrl := row_len hr
    rw [g1] at hsn
    simp only [List.take_succ_cons, List.take_zero] at hsn
    have hci := hcl i
    rw [List.length_take, Nat.min_eq_left (by omega)] at hci
    generalize (T.getD i []).length = u at *
    clear hat hcl hkw h4 hA hr
    rcases hc with ⟨h00, i5, ig⟩ | ⟨h00, i5, iP⟩
    · subst h00
      rw [List.take_zero, show colCells [] k = [] from rfl, List.nil_append] at hsn
      have a1' : cs.head? = some (.sl u rc) := a1
      repeat (first | (simp only [go_sem, Nat.reduceEqDiff, Nat.reduceAdd, Nat.reduceSub, Nat.reduceMul, Nat.reduceLeDiff, Nat.reduceLT, reduceIte, reduceCtorEq, Nat.succ_ne_zero, elemsC, Int.reduceToNat, Nat.reducePow, i0, i1, i6, i5, ig, a1, a1', hlen, g1, hrl, N0]) | (simp (disch := (first | omega | (simp only [AL, List.length_map]; omega))) only [AR, AL, ifT, ifF, take_all, List.length_cons, List.length_nil, Int.reduceToNat, Int.reducePow, Nat.reducePow, i0, i1, i6, i5, ig, a1, a1', hlen, g1, hrl, N0]) | (refine wk_intro (by kernel_rfl) ?_))
      exact ⟨⟨1, rfl, by omega, .inr ⟨by omega, rfl, by rw [hsn]⟩⟩, by omega⟩
    · repeat (first | (simp only [go_sem, Nat.reduceEqDiff, Nat.reduceAdd, Nat.reduceSub, Nat.reduceMul, Nat.reduceLeDiff, Nat.reduceLT, reduceIte, reduceCtorEq, Nat.succ_ne_zero, elemsC, Int.reduceToNat, Nat.reducePow, i0, i1, i6, i5, iP, a1, hlen, g1, hrl, N0, hci]) | (simp (disch := (first | omega | (simp only [AL, List.length_map]; omega))) only [AR, AL, ifT, ifF, take_all, List.length_cons, List.length_nil, Int.reduceToNat, Int.reducePow, Nat.reducePow, i0, i1, i6, i5, iP, a1, hlen, g1, hrl, N0, hci]) | (refine wk_intro (by kernel_rfl) ?_))
      exact ⟨⟨i + 1, rfl, by omega, .inr ⟨by omega, rfl, by rw [hsn]⟩⟩, by omega⟩
end Go.Proofs.YtdnmhnjblgkjaaaGreat

/- vernierref19.Expected, in the evaluator. -/
namespace Go.Proofs.YtdnmhnjblgkjaaaGreat
set_option linter.unusedSimpArgs false
set_option linter.unusedVariables false
set_option maxRecDepth 8000
open Go.Ev
set_option maxHeartbeats 2000000 in
theorem ref19_Expected {cs : List SV} {T : List (List Rat)} (h : TabC cs T 1) (hn : T.length ≤ 4) (hl : ∀ r ∈ T, r.length ≤ 4) :
    Go.Ev.Fn CX 9 [.sl T.length cs] (.tup [.sl (expR T).1.length (tabsC (expR T).1), .int .i64 (expR T).2]) := by
  have hE := ref19_rows h hn hl
  by_cases he : tabE T = 0
  rotate_left
  · unfold expR
    rw [if_pos he]
    generalize tabE T = e at *
    clear h hl
    refine Go.Ev.Fn.intro (fn := Tryz.f9) (body := (Tryz.f9).body.get!) (by kernel_rfl) (by kernel_rfl) (by kernel_rfl) (fun _ => rfl) (Nat.le_of_ble_eq_true (by kernel_rfl)) ?_; unfold Tryz.f9; simp only [Option.get!_some]
    repeat (first | (simp only [go_sem, Nat.reduceEqDiff, Nat.reduceAdd, Nat.reduceSub, Nat.reduceMul, Nat.reduceLeDiff, Nat.reduceLT, reduceIte, reduceCtorEq, Nat.succ_ne_zero, elemsC, Int.reduceToNat, Nat.reducePow]) | (simp (disch := (first | omega | (simp only [AL, List.length_map]; omega))) only [AR, AL, ifT, ifF, take_all, List.length_cons, List.length_nil, Int.reduceToNat, Int.reducePow, Nat.reducePow]) | (refine wk_intro (by kernel_rfl) ?_) | (refine vp_draw (id := 32) (l := []) (by kernel_rfl) ?_) | (refine vf_of (by first | exact hE) ?_))
    rfl
  obtain ⟨t1, t2, t3, -⟩ := tabE_zero he
  rw [he] at hE
  have hz := tab_szall (by omega) h
  have hrz := rowR_sz hz hl
  have hczz := colR_sz hz hn
  have hlen := tab_len h
  have hat := fun {i : Nat} (hi : i < T.length) => tabC_at (i := i) h hi
  obtain ⟨rc0, a0, -⟩ := hat (i := 0) (by omega)
  have a0' : cs.head? = some (.sl (T.getD 0 []).length rc0) := a0
  have h40 := tab_ok hl 0
  have hlc := colR_len T
  have hlr := rowR_len T
  have hmem : ∀ r ∈ T, r.length = (T.getD 0 []).length := by
    intro r hr
    obtain ⟨i, hi, rfl⟩ := List.getElem_of_mem hr
    have := t3 i hi
    rw [List.getD_eq_getElem?_getD, List.getElem?_eq_getElem hi] at this
    exact this
  have hexp : expR T = if (rowR T ++ colR T).any (fun x => decide (x = 0)) = true then ([], 5) else ((rowR T).map fun x => cellR T x, 0) := by
    unfold expR
    rw [if_neg (not_not_intro he)]
    rfl
  rw [hexp]
  have hrg : ∀ i, i < T.length → (rowR T).getD i 0 = sumR (T.getD i []) := by
    intro i hi
    unfold rowR
    rw [List.getD_eq_getElem?_getD, List.getElem?_map, List.getElem?_eq_getElem hi, List.getD_eq_getElem?_getD, List.getElem?_eq_getElem hi]
    rfl
  have hcgd : ∀ k, k < (T.getD 0 []).length → (colR T).getD k 0 = sumR (T.map fun r => r.getD k 0) := by
    intro k hk
    unfold colR colS
    rw [List.getD_eq_getElem?_getD, List.getElem?_map, List.getElem?_range hk, List.take_length]
    rfl
  have hcol := fun k (hk : k < (T.getD 0 []).length) => ref19_column (k := k) h hn hl (fun r hr => by rw [hmem r hr]; exact hk) (by omega)
  have hcrow := fun k (hk : k < (T.getD 0 []).length) => colCells_row (k := k) h (fun r hr => by rw [hmem r hr]; exact hk)
  clear hexp
  generalize hw : (T.getD 0 []).length = w at *
  refine Go.Ev.Fn.intro (fn := Tryz.f9) (body := (Tryz.f9).body.get!) (by kernel_rfl) (by kernel_rfl) (by kernel_rfl) (fun _ => rfl) (Nat.le_of_ble_eq_true (by kernel_rfl)) ?_; unfold Tryz.f9; simp only [Option.get!_some]
  repeat (first | (simp only [go_sem, Nat.reduceEqDiff, Nat.reduceAdd, Nat.reduceSub, Nat.reduceMul, Nat.reduceLeDiff, Nat.reduceLT, reduceIte, reduceCtorEq, Nat.succ_ne_zero, elemsC, Int.reduceToNat, Nat.reducePow]) | (simp (disch := (first | omega | (simp only [AL, List.length_map]; omega))) only [AR, AL, ifT, ifF, take_all, List.length_cons, List.length_nil, Int.reduceToNat, Int.reducePow, Nat.reducePow]) | (refine wk_intro (by kernel_rfl) ?_) | (refine vp_draw (id := 32) (l := []) (by kernel_rfl) ?_) | (refine vf_of (by first | exact hE) ?_))
  refine vp_loop_inv (fun s => s.tmp 0 = .sv (.sl T.length cs) ∧ s.tmp 6 = .nil ∧ s.gen 49 = 0 ∧
      ∃ i : Nat, s.tmp 7 = .sv (.int .i64 (i : Int)) ∧ i ≤ T.length ∧ ((i = 0 ∧ s.tmp 5 = .nil ∧ s.gen 34 = 0) ∨ (0 < i ∧ s.tmp 5 = .ref 34 0 3 0 i ∧ s.obj 34 0 = some (rvsC ((rowR T).take i)))))
    (fun s => match s.tmp 7 with | .sv (.int _ i) => T.length - i.toNat | _ => 0) ⟨rfl, rfl, rfl, 0, rfl, by omega, .inl ⟨rfl, rfl, rfl⟩⟩ ?_
  rintro s2 ⟨i0, i6, ig6, i, i7, hi, hc⟩
  by_cases hend : i = T.length
  rotate_left
  · obtain ⟨rc, a1, hr⟩ := hat (i := i) (by omega)
    have hri := t3 i (by omega)
    have hSum := ref17_Sum hr (by omega) (by omega) (by omega)
    rw [← hrg i (by omega)] at hSum
    have hsn := rvs_snoc (l := rowR T) (i := i) (by omega)
    have hrl := rvsC_len ((rowR T).take i)
    rw [List.length_take, hlr, Nat.min_eq_left (by omega)] at hrl
    generalize (rowR T).getD i 0 = x at *
    generalize (T.getD i []).length = u at *
    subst hri
    clear hat hrg hcol hcrow hcgd hr
    rcases hc with ⟨h00, i5, ig⟩ | ⟨h00, i5, iP⟩
    · subst h00
      rw [List.take_zero, rvsC_nil, List.nil_append] at hsn
      have a1' : cs.head? = some (.sl u rc) := a1
      repeat (first | (simp only [go_sem, Nat.reduceEqDiff, Nat.reduceAdd, Nat.reduceSub, Nat.reduceMul, Nat.reduceLeDiff, Nat.reduceLT, reduceIte, reduceCtorEq, Nat.succ_ne_zero, elemsC, Int.reduceToNat, Nat.reducePow, i0, i6, ig6, i7, i5, ig, a1, a1', hlen, N0]) | (simp (disch := (first | omega | (simp only [AL, List.length_map]; omega))) only [AR, AL, ifT, ifF, take_all, List.length_cons, List.length_nil, Int.reduceToNat, Int.reducePow, Nat.reducePow, i0, i6, ig6, i7, i5, ig, a1, a1', hlen, N0]) | (refine wk_intro (by kernel_rfl) ?_) | (refine vp_draw (id := 32) (l := []) (by kernel_rfl) ?_) | (refine vf_of (by first | exact hSum) ?_))
      exact ⟨⟨1, rfl, by omega, .inr ⟨by omega, rfl, hsn⟩⟩, by omega⟩
    · unfold rvC at hsn
      repeat (first | (simp only [go_sem, Nat.reduceEqDiff, Nat.reduceAdd, Nat.reduceSub, Nat.reduceMul, Nat.reduceLeDiff, Nat.reduceLT, reduceIte, reduceCtorEq, Nat.succ_ne_zero, elemsC, Int.reduceToNat, Nat.reducePow, i0, i6, ig6, i7, i5, iP, a1, hlen, N0, hrl]) | (simp (disch := (first | omega | (simp only [AL, List.length_map]; omega))) only [AR, AL, ifT, ifF, take_all, List.length_cons, List.length_nil, Int.reduceToNat, Int.reducePow, Nat.reducePow, i0, i6, ig6, i7, i5, iP, a1, hlen, N0, hrl]) | (refine wk_intro (by kernel_rfl) ?_) | (refine vp_draw (id := 32) (l := []) (by kernel_rfl) ?_) | (refine vf_of (by first | exact hSum) ?_))
      exact ⟨⟨i + 1, rfl, by omega, .inr ⟨by omega, rfl, hsn⟩⟩, by omega⟩
  subst hend
  obtain ⟨i5, oA⟩ : s2.tmp 5 = .ref 34 0 3 0 T.length ∧ s2.obj 34 0 = some (rvsC (rowR T)) := by
    rcases hc with ⟨h00, _⟩ | ⟨_, i5, iP⟩
    · omega
    · rw [List.take_of_length_le (by omega)] at iP
      exact ⟨i5, iP⟩
  clear hc hat hrg
  have hA := rvsC_row _ hrz
  generalize rvsC (rowR T) = ca at *
  repeat (first | (simp only [go_sem, Nat.reduceEqDiff, Nat.reduceAdd, Nat.reduceSub, Nat.reduceMul, Nat.reduceLeDiff, Nat.reduceLT, reduceIte, reduceCtorEq, Nat.succ_ne_zero, elemsC, Int.reduceToNat, Nat.reducePow, i0, i6, ig6, i7, i5, oA]) | (simp (disch := (first | omega | (simp only [AL, List.length_map]; omega))) only [AR, AL, ifT, ifF, take_all, List.length_cons, List.length_nil, Int.reduceToNat, Int.reducePow, Nat.reducePow, i0, i6, ig6, i7, i5, oA]) | (refine wk_intro (by kernel_rfl) ?_) | (refine vp_draw (id := 32) (l := []) (by kernel_rfl) ?_))
  refine vp_loop_inv (fun s => s.tmp 0 = .sv (.sl T.length cs) ∧ s.tmp 5 = .ref 34 0 3 0 T.length ∧ s.obj 34 0 = some ca ∧
      ∃ k : Nat, s.tmp 8 = .sv (.int .i64 (k : Int)) ∧ k ≤ w ∧ ((k = 0 ∧ s.tmp 6 = .nil ∧ s.gen 49 = 0) ∨ (0 < k ∧ s.tmp 6 = .ref 49 0 3 0 k ∧ s.obj 49 0 = some (rvsC ((colR T).take k)))))
    (fun s => match s.tmp 8 with | .sv (.int _ i) => w - i.toNat | _ => 0) ⟨i0, i5, oA, 0, rfl, by omega, .inl ⟨rfl, i6, ig6⟩⟩ ?_
  rintro s3 ⟨j0, j5, jA, k, j8, hk, hc⟩
  by_cases hend : k = w
  rotate_left
  · have hCol := hcol k (by omega)
    have hSum := ref17_Sum (hcrow k (by omega)) (by omega) (by omega) (by rw [List.length_map]; omega)
    rw [← hcgd k (by omega), List.length_map] at hSum
    have hsn := rvs_snoc (l := colR T) (i := k) (by omega)
    have hrl := rvsC_len ((colR T).take k)
    rw [List.length_take, hlc, Nat.min_eq_left (by omega)] at hrl
    generalize (colR T).getD k 0 = x at *
    clear hcol hcrow hcgd
    rcases hc with ⟨h00, j6, jg⟩ | ⟨h00, j6, jP⟩
    · subst h00
      rw [List.take_zero, rvsC_nil, List.nil_append] at hsn
      repeat (first | (simp only [go_sem, Nat.reduceEqDiff, Nat.reduceAdd, Nat.reduceSub, Nat.reduceMul, Nat.reduceLeDiff, Nat.reduceLT, reduceIte, reduceCtorEq, Nat.succ_ne_zero, elemsC, Int.reduceToNat, Nat.reducePow, j0, j5, jA, j8, j6, jg, a0, a0', hlen, N0]) | (simp (disch := (first | omega | (simp only [AL, List.length_map]; omega))) only [AR, AL, ifT, ifF, take_all, List.length_cons, List.length_nil, Int.reduceToNat, Int.reducePow, Nat.reducePow, j0, j5, jA, j8, j6, jg, a0, a0', hlen, N0]) | (refine wk_intro (by kernel_rfl) ?_) | (refine vp_draw (id := 32) (l := []) (by kernel_rfl) ?_) | (refine vf_of (by first | exact hCol | exact hSum) ?_))
      exact ⟨⟨1, rfl, by omega, .inr ⟨by omega, rfl, hsn⟩⟩, by omega⟩
    · unfold rvC at hsn
      repeat (first | (simp only [go_sem, Nat.reduceEqDiff, Nat.reduceAdd, Nat.reduceSub, Nat.reduceMul, Nat.reduceLeDiff, Nat.reduceLT, reduceIte, reduceCtorEq, Nat.succ_ne_zero, elemsC, Int.reduceToNat, Nat.reducePow, j0, j5, jA, j8, j6, jP, a0, a0', hlen, N0, hrl]) | (simp (disch := (first | omega | (simp only [AL, List.length_map]; omega))) only [AR, AL, ifT, ifF, take_all, List.length_cons, List.length_nil, Int.reduceToNat, Int.reducePow, Nat.reducePow, j0, j5, jA, j8, j6, jP, a0, a0', hlen, N0, hrl]) | (refine wk_intro (by kernel_rfl) ?_) | (refine vp_draw (id := 32) (l := []) (by kernel_rfl) ?_) | (refine vf_of (by first | exact hCol | exact hSum) ?_))
      exact ⟨⟨k + 1, rfl, by omega, .inr ⟨by omega, rfl, hsn⟩⟩, by omega⟩
  subst hend
  obtain ⟨j6, jB⟩ : s3.tmp 6 = .ref 49 0 3 0 k ∧ s3.obj 49 0 = some (rvsC (colR T)) := by
    rcases hc with ⟨h00, _⟩ | ⟨_, i5, iP⟩
    · omega
    · rw [List.take_of_length_le (by omega)] at iP
      exact ⟨i5, iP⟩
  clear hc hcol hcrow hcgd
  have hB := rvsC_row _ hczz
  generalize rvsC (colR T) = cb at *
  have hAl := row_len hA
  have hBl := row_len hB
  rw [hlr] at hAl
  rw [hlc] at hBl
  repeat (first | (simp only [go_sem, Nat.reduceEqDiff, Nat.reduceAdd, Nat.reduceSub, Nat.reduceMul, Nat.reduceLeDiff, Nat.reduceLT, reduceIte, reduceCtorEq, Nat.succ_ne_zero, elemsC, Int.reduceToNat, Nat.reducePow, j0, j5, jA, j8, j6, jB, a0, a0', hlen]) | (simp (disch := (first | omega | (simp only [AL, List.length_map]; omega))) only [AR, AL, ifT, ifF, take_all, List.length_cons, List.length_nil, Int.reduceToNat, Int.reducePow, Nat.reducePow, j0, j5, jA, j8, j6, jB, a0, a0', hlen]) | (refine wk_intro (by kernel_rfl) ?_) | (refine vp_draw (id := 32) (l := []) (by kernel_rfl) ?_))
  rw [any_append']
  by_cases hzA : (rowR T).any (fun x => decide (x = 0)) = true
  · rw [hzA, Bool.true_or, if_pos rfl]
    refine vp_loop_inv (fun s => s.tmp 5 = .ref 34 0 3 0 T.length ∧ s.obj 34 0 = some ca ∧
        ∃ i : Nat, s.tmp 9 = .sv (.int .i64 (i : Int)) ∧ i ≤ T.length ∧ ((rowR T).take i).any (fun x => decide (x = 0)) = false)
      (fun s => match s.tmp 9 with | .sv (.int _ i) => T.length - i.toNat | _ => 0) ⟨j5, jA, 0, rfl, by omega, rfl⟩ ?_
    rintro s4 ⟨l5, lA, i, l9, hi, hb⟩
    by_cases hend : i = T.length
    · rw [List.take_of_length_le (by omega), hzA] at hb
      cases hb
    · obtain ⟨s, n, d, rest, g1, hX⟩ := row_at (i := i) hA (by omega)
      have zz := ref2_Zero hX (by omega) (by omega)
      have gor := any_take (fun x : Rat => decide (x = 0)) (rowR T) 0 (i := i) (by omega)
      rw [hb, Bool.false_or] at gor
      generalize (rowR T).getD i 0 = x at *
      clear hX hzA hA hB
      by_cases hx : x = 0
      · rw [decide_eq_true hx] at zz
        clear gor
        repeat (first | (simp only [go_sem, Nat.reduceEqDiff, Nat.reduceAdd, Nat.reduceSub, Nat.reduceMul, Nat.reduceLeDiff, Nat.reduceLT, reduceIte, reduceCtorEq, Nat.succ_ne_zero, elemsC, Int.reduceToNat, Nat.reducePow, l5, lA, l9, g1, hAl]) | (simp (disch := (first | omega | (simp only [AL, List.length_map]; omega))) only [AR, AL, ifT, ifF, take_all, List.length_cons, List.length_nil, Int.reduceToNat, Int.reducePow, Nat.reducePow, l5, lA, l9, g1, hAl]) | (refine wk_intro (by kernel_rfl) ?_) | (refine vp_draw (id := 32) (l := []) (by kernel_rfl) ?_) | (refine vf_of (by first | exact zz) ?_))
        rfl
      · rw [decide_eq_false hx] at zz gor
        repeat (first | (simp only [go_sem, Nat.reduceEqDiff, Nat.reduceAdd, Nat.reduceSub, Nat.reduceMul, Nat.reduceLeDiff, Nat.reduceLT, reduceIte, reduceCtorEq, Nat.succ_ne_zero, elemsC, Int.reduceToNat, Nat.reducePow, l5, lA, l9, g1, hAl]) | (simp (disch := (first | omega | (simp only [AL, List.length_map]; omega))) only [AR, AL, ifT, ifF, take_all, List.length_cons, List.length_nil, Int.reduceToNat, Int.reducePow, Nat.reducePow, l5, lA, l9, g1, hAl]) | (refine wk_intro (by kernel_rfl) ?_) | (refine vp_draw (id := 32) (l := []) (by kernel_rfl) ?_) | (refine vf_of (by first | exact zz) ?_))
        exact ⟨⟨i + 1, rfl, by omega, gor⟩, by omega⟩
  have hnzA : ∀ i, i < T.length → (rowR T).getD i 0 ≠ 0 := fun i hi e => hzA (any_of_getD (fun x : Rat => decide (x = 0)) (rowR T) 0 (by omega) (decide_eq_true e))
  rw [Bool.eq_false_iff.2 hzA, Bool.false_or]
  clear hzA
  refine vp_loop_inv (fun s => s.tmp 5 = .ref 34 0 3 0 T.length ∧ s.obj 34 0 = some ca ∧ s.tmp 6 = .ref 49 0 3 0 k ∧ s.obj 49 0 = some cb ∧
      ∃ i : Nat, s.tmp 9 = .sv (.int .i64 (i : Int)) ∧ i ≤ T.length)
    (fun s => match s.tmp 9 with | .sv (.int _ i) => T.length - i.toNat | _ => 0) ⟨j5, jA, j6, jB, 0, rfl, by omega⟩ ?_
  rintro s4 ⟨l5, lA, l6, lB, i, l9, hi⟩
  by_cases hend : i = T.length
  rotate_left
  · obtain ⟨s, n, d, rest, g1, hX⟩ := row_at (i := i) hA (by omega)
    have zz := ref2_Zero hX (by omega) (by omega)
    have hx := hnzA i (by omega)
    rw [decide_eq_false hx] at zz
    clear hX hA hB hnzA hx
    repeat (first | (simp only [go_sem, Nat.reduceEqDiff, Nat.reduceAdd, Nat.reduceSub, Nat.reduceMul, Nat.reduceLeDiff, Nat.reduceLT, reduceIte, reduceCtorEq, Nat.succ_ne_zero, elemsC, Int.reduceToNat, Nat.reducePow, l5, lA, l6, lB, l9, g1, hAl]) | (simp (disch := (first | omega | (simp only [AL, List.length_map]; omega))) only [AR, AL, ifT, ifF, take_all, List.length_cons, List.length_nil, Int.reduceToNat, Int.reducePow, Nat.reducePow, l5, lA, l6, lB, l9, g1, hAl]) | (refine wk_intro (by kernel_rfl) ?_) | (refine vp_draw (id := 32) (l := []) (by kernel_rfl) ?_) | (refine vf_of (by first | exact zz) ?_))
    exact ⟨⟨i + 1, rfl, by omega⟩, by omega⟩
  subst hend
  clear hnzA
  repeat (first | (simp only [go_sem, Nat.reduceEqDiff, Nat.reduceAdd, Nat.reduceSub, Nat.reduceMul, Nat.reduceLeDiff, Nat.reduceLT, reduceIte, reduceCtorEq, Nat.succ_ne_zero, elemsC, Int.reduceToNat, Nat.reducePow, l5, lA, l6, lB, l9]) | (simp (disch := (first | omega | (simp only [AL, List.length_map]; omega))) only [AR, AL, ifT, ifF, take_all, List.length_cons, List.length_nil, Int.reduceToNat, Int.reducePow, Nat.reducePow, l5, lA, l6, lB, l9]) | (refine wk_intro (by kernel_rfl) ?_) | (refine vp_draw (id := 32) (l := []) (by kernel_rfl) ?_))
  by_cases hzB : (colR T).any (fun x => decide (x = 0)) = true
  · rw [if_pos hzB]
    refine vp_loop_inv (fun s => s.tmp 6 = .ref 49 0 3 0 k ∧ s.obj 49 0 = some cb ∧
        ∃ i : Nat, s.tmp 10 = .sv (.int .i64 (i : Int)) ∧ i ≤ k ∧ ((colR T).take i).any (fun x => decide (x = 0)) = false)
      (fun s => match s.tmp 10 with | .sv (.int _ i) => k - i.toNat | _ => 0) ⟨l6, lB, 0, rfl, by omega, rfl⟩ ?_
    rintro s5 ⟨m6, mB, i, m10, hi, hb⟩
    by_cases hend : i = k
    · rw [List.take_of_length_le (by omega), hzB] at hb
      cases hb
    · obtain ⟨s, n, d, rest, g1, hX⟩ := row_at (i := i) hB (by omega)
      have zz := ref2_Zero hX (by omega) (by omega)
      have gor := any_take (fun x : Rat => decide (x = 0)) (colR T) 0 (i := i) (by omega)
      rw [hb, Bool.false_or] at gor
      generalize (colR T).getD i 0 = x at *
      clear hX hzB hA hB
      by_cases hx : x = 0
      · rw [decide_eq_true hx] at zz
        clear gor
        repeat (first | (simp only [go_sem, Nat.reduceEqDiff, Nat.reduceAdd, Nat.reduceSub, Nat.reduceMul, Nat.reduceLeDiff, Nat.reduceLT, reduceIte, reduceCtorEq, Nat.succ_ne_zero, elemsC, Int.reduceToNat, Nat.reducePow, m6, mB, m10, g1, hBl]) | (simp (disch := (first | omega | (simp only [AL, List.length_map]; omega))) only [AR, AL, ifT, ifF, take_all, List.length_cons, List.length_nil, Int.reduceToNat, Int.reducePow, Nat.reducePow, m6, mB, m10, g1, hBl]) | (refine wk_intro (by kernel_rfl) ?_) | (refine vp_draw (id := 32) (l := []) (by kernel_rfl) ?_) | (refine vf_of (by first | exact zz) ?_))
        rfl
      · rw [decide_eq_false hx] at zz gor
        repeat (first | (simp only [go_sem, Nat.reduceEqDiff, Nat.reduceAdd, Nat.reduceSub, Nat.reduceMul, Nat.reduceLeDiff, Nat.reduceLT, reduceIte, reduceCtorEq, Nat.succ_ne_zero, elemsC, Int.reduceToNat, Nat.reducePow, m6, mB, m10, g1, hBl]) | (simp (disch := (first | omega | (simp only [AL, List.length_map]; omega))) only [AR, AL, ifT, ifF, take_all, List.length_cons, List.length_nil, Int.reduceToNat, Int.reducePow, Nat.reducePow, m6, mB, m10, g1, hBl]) | (refine wk_intro (by kernel_rfl) ?_) | (refine vp_draw (id := 32) (l := []) (by kernel_rfl) ?_) | (refine vf_of (by first | exact zz) ?_))
        exact ⟨⟨i + 1, rfl, by omega, gor⟩, by omega⟩
  have hnzB : ∀ i, i < k → (colR T).getD i 0 ≠ 0 := fun i hi e => hzB (any_of_getD (fun x : Rat => decide (x = 0)) (colR T) 0 (by omega) (decide_eq_true e))
  rw [if_neg hzB]
  clear hzB
  refine vp_loop_inv (fun s => s.tmp 5 = .ref 34 0 3 0 T.length ∧ s.obj 34 0 = some ca ∧ s.tmp 6 = .ref 49 0 3 0 k ∧ s.obj 49 0 = some cb ∧
      ∃ i : Nat, s.tmp 10 = .sv (.int .i64 (i : Int)) ∧ i ≤ k)
    (fun s => match s.tmp 10 with | .sv (.int _ i) => k - i.toNat | _ => 0) ⟨l5, lA, l6, lB, 0, rfl, by omega⟩ ?_
  rintro s5 ⟨m5, mA, m6, mB, i, m10, hi⟩
  by_cases hend : i = k
  rotate_left
  · obtain ⟨s, n, d, rest, g1, hX⟩ := row_at (i := i) hB (by omega)
    have zz := ref2_Zero hX (by omega) (by omega)
    have hx := hnzB i (by omega)
    rw [decide_eq_false hx] at zz
    clear hX hA hB hnzB hx
    repeat (first | (simp only [go_sem, Nat.reduceEqDiff, Nat.reduceAdd, Nat.reduceSub, Nat.reduceMul, Nat.reduceLeDiff, Nat.reduceLT, reduceIte, reduceCtorEq, Nat.succ_ne_zero, elemsC, Int.reduceToNat, Nat.reducePow, m5, mA, m6, mB, m10, g1, hBl]) | (simp (disch := (first | omega | (simp only [AL, List.length_map]; omega))) only [AR, AL, ifT, ifF, take_all, List.length_cons, List.length_nil, Int.reduceToNat, Int.reducePow, Nat.reducePow, m5, mA, m6, mB, m10, g1, hBl]) | (refine wk_intro (by kernel_rfl) ?_) | (refine vp_draw (id := 32) (l := []) (by kernel_rfl) ?_) | (refine vf_of (by first | exact zz) ?_))
    exact ⟨⟨i + 1, rfl, by omega⟩, by omega⟩
  subst hend
  clear hnzB
  have htA : ca.take (T.length * 3) = ca := List.take_of_length_le (by omega)
  have hSum := ref17_Sum hA (by omega) (by omega) (by omega)
  rw [hlr] at hSum
  have zS := sz_sum12 (by omega) hrz (by omega)
  have hXl : ((rowR T).map fun x => cellR T x).length = T.length := by rw [List.length_map]; exact hlr
  have hXg : ∀ i, i < T.length → ((rowR T).map fun x => cellR T x).take (i + 1) = ((rowR T).map fun x => cellR T x).take i ++ [cellR T ((rowR T).getD i 0)] := by
    intro i hi
    rw [List.take_add_one, List.getElem?_map, List.getElem?_eq_getElem (by omega), List.getD_eq_getElem?_getD, List.getElem?_eq_getElem (by omega)]
    rfl
  have hXt : ((rowR T).map fun x => cellR T x).take T.length = (rowR T).map fun x => cellR T x := List.take_of_length_le (by omega)
  have hcl : ∀ x, (cellR T x).length = i := fun x => by unfold cellR; rw [List.length_map]; exact hlc
  have hcg : ∀ x k, k < i → (cellR T x).getD k 0 = x * (colR T).getD k 0 / sumR (rowR T) := by
    intro x k hk
    unfold cellR
    rw [getD_map _ _ (by omega)]
  generalize hX : (rowR T).map (fun x => cellR T x) = X at *
  have hzc : ∀ k, k < i → szR ((colR T).getD k 0) 25 := fun k hk => row_sz (by omega) hB _ (getD_mem (by omega))
  have hzr : ∀ k, k < T.length → szR ((rowR T).getD k 0) 25 := fun k hk => row_sz (by omega) hA _ (getD_mem (by omega))
  generalize hS0 : sumR (rowR T) = S0 at *
  obtain ⟨w', rfl⟩ : ∃ w', w' = i := ⟨i, rfl⟩
  repeat (first | (simp only [go_sem, Nat.reduceEqDiff, Nat.reduceAdd, Nat.reduceSub, Nat.reduceMul, Nat.reduceLeDiff, Nat.reduceLT, reduceIte, reduceCtorEq, Nat.succ_ne_zero, elemsC, Int.reduceToNat, Nat.reducePow, m5, mA, m6, mB, m10, htA, List.drop_zero, N0]) | (simp (disch := (first | omega | (simp only [AL, List.length_map]; omega))) only [AR, AL, ifT, ifF, take_all, List.length_cons, List.length_nil, Int.reduceToNat, Int.reducePow, Nat.reducePow, m5, mA, m6, mB, m10, htA, List.drop_zero, N0]) | (refine wk_intro (by kernel_rfl) ?_) | (refine vp_draw (id := 32) (l := []) (by kernel_rfl) ?_) | (refine vf_of (by first | exact hSum) ?_))
  refine vp_loop_inv (fun s => s.tmp 6 = .ref 49 0 3 0 w' ∧ s.obj 49 0 = some cb ∧ s.tmp 11 = .ptr 11 (s5.gen 11) 0 ∧ s.obj 11 (s5.gen 11) = some (rvC S0) ∧ s.tmp 5 = .sv (.sl T.length ca) ∧
      ∃ i : Nat, s.tmp 13 = .sv (.int .i64 (i : Int)) ∧ i ≤ T.length ∧ ((i = 0 ∧ s.tmp 12 = .nil) ∨ (0 < i ∧ ∃ g, s.tmp 12 = .ref 103 g 1 0 i ∧ s.obj 103 g = some (tabsC (X.take i)))))
    (fun s => match s.tmp 13 with | .sv (.int _ i) => T.length - i.toNat | _ => 0) ⟨?_, ?_, ?_, ?_, ?_, 0, rfl, by omega, .inl ⟨rfl, ?_⟩⟩ ?_
  · simp only [go_sem, Nat.reduceEqDiff, Nat.reduceAdd, Nat.reduceSub, Nat.reduceMul, Nat.reduceLeDiff, Nat.reduceLT, reduceIte, reduceCtorEq, Nat.succ_ne_zero, elemsC, Int.reduceToNat, Nat.reducePow, m6]
  · simp only [go_sem, Nat.reduceEqDiff, Nat.reduceAdd, Nat.reduceSub, Nat.reduceMul, Nat.reduceLeDiff, Nat.reduceLT, reduceIte, reduceCtorEq, Nat.succ_ne_zero, elemsC, Int.reduceToNat, Nat.reducePow, mB]
  · simp only [go_sem, Nat.reduceEqDiff, Nat.reduceAdd, Nat.reduceSub, Nat.reduceMul, Nat.reduceLeDiff, Nat.reduceLT, reduceIte, reduceCtorEq, Nat.succ_ne_zero, elemsC, Int.reduceToNat, Nat.reducePow]
  · simp only [go_sem, Nat.reduceEqDiff, Nat.reduceAdd, Nat.reduceSub, Nat.reduceMul, Nat.reduceLeDiff, Nat.reduceLT, reduceIte, reduceCtorEq, Nat.succ_ne_zero, elemsC, Int.reduceToNat, Nat.reducePow, rvC]
  · simp only [go_sem, Nat.reduceEqDiff, Nat.reduceAdd, Nat.reduceSub, Nat.reduceMul, Nat.reduceLeDiff, Nat.reduceLT, reduceIte, reduceCtorEq, Nat.succ_ne_zero, elemsC, Int.reduceToNat, Nat.reducePow, m5, htA, List.drop_zero]
  · simp only [go_sem, Nat.reduceEqDiff, Nat.reduceAdd, Nat.reduceSub, Nat.reduceMul, Nat.reduceLeDiff, Nat.reduceLT, reduceIte, reduceCtorEq, Nat.succ_ne_zero, elemsC, Int.reduceToNat, Nat.reducePow]
  rintro s6 ⟨i6, oB, i11, oS, i5, i, i13, hi, h12⟩
  by_cases hend : i = T.length
  · subst hend
    rcases h12 with ⟨h0, _⟩ | ⟨_, g, i12, oX⟩
    · omega
    · rw [hXt] at oX
      repeat (first | (simp only [go_sem, Nat.reduceEqDiff, Nat.reduceAdd, Nat.reduceSub, Nat.reduceMul, Nat.reduceLeDiff, Nat.reduceLT, reduceIte, reduceCtorEq, Nat.succ_ne_zero, elemsC, Int.reduceToNat, Nat.reducePow, i6, oB, i11, oS, i5, i13, i12, oX]) | (simp (disch := (first | omega | (simp only [AL, List.length_map]; omega))) only [AR, AL, ifT, ifF, take_all, List.length_cons, List.length_nil, Int.reduceToNat, Int.reducePow, Nat.reducePow, i6, oB, i11, oS, i5, i13, i12, oX]) | (refine wk_intro (by kernel_rfl) ?_) | (refine vp_draw (id := 32) (l := []) (by kernel_rfl) ?_))
      refine ro_ref (cs := tabsC X) (by decide) ?_ ?_
      · simp only [go_sem, Nat.reduceEqDiff, Nat.reduceAdd, Nat.reduceSub, Nat.reduceMul, Nat.reduceLeDiff, Nat.reduceLT, reduceIte, reduceCtorEq, Nat.succ_ne_zero, elemsC, Int.reduceToNat, Nat.reducePow, oX]
      · rw [List.drop_zero, Nat.mul_one, List.take_of_length_le (by rw [tabsC_len]; omega), hXl]
  · obtain ⟨s, n, d, rest, g1, hXx⟩ := row_at (i := i) hA (by omega)
    have hg := hXg i (by omega)
    have hzx := hzr i (by omega)
    generalize (rowR T).getD i 0 = x at *
    have hll := hcl x
    have hlg := hcg x
    generalize cellR T x = l at *
    have hsnX := tabsC_snoc (X.take i) l
    rw [← hg, hll] at hsnX
    have hXil := tabsC_len (X.take i)
    rw [List.length_take, hXl, Nat.min_eq_left (by omega)] at hXil
    repeat (first | (simp only [go_sem, Nat.reduceEqDiff, Nat.reduceAdd, Nat.reduceSub, Nat.reduceMul, Nat.reduceLeDiff, Nat.reduceLT, reduceIte, reduceCtorEq, Nat.succ_ne_zero, elemsC, Int.reduceToNat, Nat.reducePow, i6, oB, i11, oS, i5, i13]) | (simp (disch := (first | omega | (simp only [AL, List.length_map]; omega))) only [AR, AL, ifT, ifF, take_all, List.length_cons, List.length_nil, Int.reduceToNat, Int.reducePow, Nat.reducePow, i6, oB, i11, oS, i5, i13]) | (refine wk_intro (by kernel_rfl) ?_) | (refine vp_draw (id := 32) (l := []) (by kernel_rfl) ?_))
    refine vp_loop_inv (fun s' => s'.tmp 6 = .ref 49 0 3 0 w' ∧ s'.obj 49 0 = some cb ∧ s'.tmp 11 = .ptr 11 (s5.gen 11) 0 ∧ s'.obj 11 (s5.gen 11) = some (rvC S0) ∧ s'.tmp 5 = .sv (.sl T.length ca) ∧ s'.tmp 13 = .sv (.int .i64 (i : Int)) ∧
        ((i = 0 ∧ s'.tmp 12 = .nil) ∨ (0 < i ∧ ∃ g, s'.tmp 12 = .ref 103 g 1 0 i ∧ s'.obj 103 g = some (tabsC (X.take i)))) ∧
        ∃ k : Nat, s'.tmp 15 = .sv (.int .i64 (k : Int)) ∧ k ≤ w' ∧ ((k = 0 ∧ s'.tmp 14 = .nil) ∨ (0 < k ∧ ∃ g, s'.tmp 14 = .ref 99 g 3 0 k ∧ s'.obj 99 g = some (rvsC (l.take k)))))
      (fun s => match s.tmp 15 with | .sv (.int _ i) => w' - i.toNat | _ => 0) ⟨i6, oB, i11, oS, i5, i13, h12, 0, rfl, by omega, .inl ⟨rfl, rfl⟩⟩ ?_
    rintro s7 ⟨j6, jB, j11, jS, j5, j13, j12, k, j15, hk, j14⟩
    by_cases hkend : k = w'
    · subst hkend
      rcases j14 with ⟨h0, _⟩ | ⟨_, g, j14, jl⟩
      · omega
      · rw [List.take_of_length_le (by omega)] at jl
        have hrl := rvsC_len l
        have htl : (rvsC l).take (k * 3) = rvsC l := List.take_of_length_le (by omega)
        rcases j12 with ⟨hi0, j12⟩ | ⟨hi0, g', j12, jX⟩
        · subst hi0
          rw [List.take_zero] at hsnX
          repeat (first | (simp only [go_sem, Nat.reduceEqDiff, Nat.reduceAdd, Nat.reduceSub, Nat.reduceMul, Nat.reduceLeDiff, Nat.reduceLT, reduceIte, reduceCtorEq, Nat.succ_ne_zero, elemsC, Int.reduceToNat, Nat.reducePow, j6, jB, j11, jS, j5, j13, j15, j14, jl, j12, htl, List.drop_zero, N0]) | (simp (disch := (first | omega | (simp only [AL, List.length_map]; omega))) only [AR, AL, ifT, ifF, take_all, List.length_cons, List.length_nil, Int.reduceToNat, Int.reducePow, Nat.reducePow, j6, jB, j11, jS, j5, j13, j15, j14, jl, j12, htl, List.drop_zero, N0]) | (refine wk_intro (by kernel_rfl) ?_) | (refine vp_draw (id := 32) (l := []) (by kernel_rfl) ?_))
          exact ⟨⟨1, rfl, by omega, .inr ⟨by omega, _, rfl, (if_pos rfl).trans (congrArg some hsnX).symm⟩⟩, by omega⟩
        · repeat (first | (simp only [go_sem, Nat.reduceEqDiff, Nat.reduceAdd, Nat.reduceSub, Nat.reduceMul, Nat.reduceLeDiff, Nat.reduceLT, reduceIte, reduceCtorEq, Nat.succ_ne_zero, elemsC, Int.reduceToNat, Nat.reducePow, j6, jB, j11, jS, j5, j13, j15, j14, jl, j12, jX, htl, List.drop_zero, N0, hXil]) | (simp (disch := (first | omega | (simp only [AL, List.length_map]; omega))) only [AR, AL, ifT, ifF, take_all, List.length_cons, List.length_nil, Int.reduceToNat, Int.reducePow, Nat.reducePow, j6, jB, j11, jS, j5, j13, j15, j14, jl, j12, jX, htl, List.drop_zero, N0, hXil]) | (refine wk_intro (by kernel_rfl) ?_) | (refine vp_draw (id := 32) (l := []) (by kernel_rfl) ?_))
          exact ⟨⟨i + 1, rfl, by omega, .inr ⟨by omega, _, rfl, (if_pos rfl).trans (congrArg some hsnX).symm⟩⟩, by omega⟩
    · obtain ⟨s', n', d', rest', g2, hY⟩ := row_at (i := k) hB (by omega)
      have hzy := hzc k (by omega)
      have hgk := hlg k (by omega)
      generalize (colR T).getD k 0 = y at *
      have m1 := ref2_Mul hXx hY (by omega) (by omega) (by omega)
      have o1 := ref19_by (RatA_rv (szR_mul hzx hzy (by omega))) (RatA_rv zS) (by omega) (by omega) (by omega)
      have hsn := rvs_snoc (l := l) (i := k) (by omega)
      rw [hgk] at hsn
      generalize x * y / S0 = q at *
      have hrl := rvsC_len (l.take k)
      rw [List.length_take, hll, Nat.min_eq_left (by omega)] at hrl
      rcases j14 with ⟨hk0, j14⟩ | ⟨hk0, g, j14, jl⟩
      · subst hk0
        rw [List.take_zero, rvsC_nil, List.nil_append] at hsn
        rw [Nat.zero_mul, List.drop_zero] at g2
        repeat (first | (simp only [go_sem, Nat.reduceEqDiff, Nat.reduceAdd, Nat.reduceSub, Nat.reduceMul, Nat.reduceLeDiff, Nat.reduceLT, reduceIte, reduceCtorEq, Nat.succ_ne_zero, elemsC, Int.reduceToNat, Nat.reducePow, j6, jB, j11, jS, j5, j13, j15, j14, g1, g2, hAl, hBl, rvC, N0]) | (simp (disch := (first | omega | (simp only [AL, List.length_map]; omega))) only [AR, AL, ifT, ifF, take_all, List.length_cons, List.length_nil, Int.reduceToNat, Int.reducePow, Nat.reducePow, j6, jB, j11, jS, j5, j13, j15, j14, g1, g2, hAl, hBl, rvC, N0]) | (refine wk_intro (by kernel_rfl) ?_) | (refine vp_draw (id := 32) (l := []) (by kernel_rfl) ?_) | (refine vf_of (by first | exact m1 | exact o1) ?_))
        exact ⟨⟨j12, 1, rfl, by omega, .inr ⟨by omega, _, rfl, (if_pos rfl).trans (congrArg some hsn)⟩⟩, by omega⟩
      · unfold rvC at hsn
        rcases j12 with ⟨hi0, j12⟩ | ⟨hi0, g', j12, jX⟩
        · repeat (first | (simp only [go_sem, Nat.reduceEqDiff, Nat.reduceAdd, Nat.reduceSub, Nat.reduceMul, Nat.reduceLeDiff, Nat.reduceLT, reduceIte, reduceCtorEq, Nat.succ_ne_zero, elemsC, Int.reduceToNat, Nat.reducePow, j6, jB, j11, jS, j5, j13, j15, j14, jl, g1, g2, hAl, hBl, rvC, j12]) | (simp (disch := (first | omega | (simp only [AL, List.length_map]; omega))) only [AR, AL, ifT, ifF, take_all, List.length_cons, List.length_nil, Int.reduceToNat, Int.reducePow, Nat.reducePow, j6, jB, j11, jS, j5, j13, j15, j14, jl, g1, g2, hAl, hBl, rvC, j12]) | (refine wk_intro (by kernel_rfl) ?_) | (refine vp_draw (id := 32) (l := []) (by kernel_rfl) ?_))
          repeat (first | (simp only [go_sem, Nat.reduceEqDiff, Nat.reduceAdd, Nat.reduceSub, Nat.reduceMul, Nat.reduceLeDiff, Nat.reduceLT, reduceIte, reduceCtorEq, Nat.succ_ne_zero, elemsC, Int.reduceToNat, Nat.reducePow, j6, jB, j11, jS, j5, j13, j15, j14, jl, g1, g2, hAl, hBl, rvC, j12, N0, hrl]) | (simp (disch := (first | omega | (simp only [AL, List.length_map]; omega))) only [AR, AL, ifT, ifF, take_all, List.length_cons, List.length_nil, Int.reduceToNat, Int.reducePow, Nat.reducePow, j6, jB, j11, jS, j5, j13, j15, j14, jl, g1, g2, hAl, hBl, rvC, j12, N0, hrl]) | (refine wk_intro (by kernel_rfl) ?_) | (refine vp_draw (id := 32) (l := []) (by kernel_rfl) ?_) | (refine vf_of (by first | exact m1 | exact o1) ?_))
          refine ⟨⟨?_, k + 1, rfl, by omega, .inr ⟨by omega, _, rfl, (if_pos rfl).trans (congrArg some hsn)⟩⟩, by omega⟩
          first | exact .inl ⟨hi0, rfl⟩ | exact .inl hi0 | simp [hi0]
        · repeat (first | (simp only [go_sem, Nat.reduceEqDiff, Nat.reduceAdd, Nat.reduceSub, Nat.reduceMul, Nat.reduceLeDiff, Nat.reduceLT, reduceIte, reduceCtorEq, Nat.succ_ne_zero, elemsC, Int.reduceToNat, Nat.reducePow, j6, jB, j11, jS, j5, j13, j15, j14, jl, g1, g2, hAl, hBl, rvC, j12]) | (simp (disch := (first | omega | (simp only [AL, List.length_map]; omega))) only [AR, AL, ifT, ifF, take_all, List.length_cons, List.length_nil, Int.reduceToNat, Int.reducePow, Nat.reducePow, j6, jB, j11, jS, j5, j13, j15, j14, jl, g1, g2, hAl, hBl, rvC, j12]) | (refine wk_intro (by kernel_rfl) ?_) | (refine vp_draw (id := 32) (l := []) (by kernel_rfl) ?_))
          repeat (first | (simp only [go_sem, Nat.reduceEqDiff, Nat.reduceAdd, Nat.reduceSub, Nat.reduceMul, Nat.reduceLeDiff, Nat.reduceLT, reduceIte, reduceCtorEq, Nat.succ_ne_zero, elemsC, Int.reduceToNat, Nat.reducePow, j6, jB, j11, jS, j5, j13, j15, j14, jl, g1, g2, hAl, hBl, rvC, j12, N0, hrl]) | (simp (disch := (first | omega | (simp only [AL, List.length_map]; omega))) only [AR, AL, ifT, ifF, take_all, List.length_cons, List.length_nil, Int.reduceToNat, Int.reducePow, Nat.reducePow, j6, jB, j11, jS, j5, j13, j15, j14, jl, g1, g2, hAl, hBl, rvC, j12, N0, hrl]) | (refine wk_intro (by kernel_rfl) ?_) | (refine vp_draw (id := 32) (l := []) (by kernel_rfl) ?_) | (refine vf_of (by first | exact m1 | exact o1) ?_))
          refine ⟨⟨?_, k + 1, rfl, by omega, .inr ⟨by omega, _, rfl, (if_pos rfl).trans (congrArg some hsn)⟩⟩, by omega⟩
          exact .inr ⟨hi0, _, rfl, jX⟩
end Go.Proofs.YtdnmhnjblgkjaaaGreat

/- vernierlaw19.large, in the evaluator. -/
namespace Go.Proofs.YtdnmhnjblgkjaaaGreat
set_option linter.unusedSimpArgs false
set_option linter.unusedVariables false
set_option maxRecDepth 8000
open Go.Ev
/-- Is a test more than is looked at? -/
def bigT (xs ys : List InR) (mu sg : InR) (ts : List (List InR)) (n : Int) : Bool :=
  (bigR xs || (bigR ys || bigR [mu, sg])) || (decide (4 < ts.length) || ((decide (8 < n) && decide (n ≤ 256)) || ts.any (fun ps => decide (4 < ps.length) || bigR ps)))
section
variable {xs ys : List InR} {sm ss : Bool} {nm dm ns ds : List Nat} {ts : List (List InR)} {kind k n : Int}
theorem law19_large (hx : xs.length ≤ maxLen) (hy : ys.length ≤ maxLen) (ht : ts.length ≤ maxLen) (hts : ∀ ps ∈ ts, ps.length ≤ maxLen) (hn : -9223372036854775808 ≤ n ∧ n < 9223372036854775808) :
    Go.Ev.Fn CX 5 [testV kind (rowV xs) (rowV ys) (.sl ts.length (ts.map rowV)) sm nm dm ss ns ds k n] (.bool (bigT xs ys (sm, nm, dm) (ss, ns, ds) ts n)) := by
  have hm : maxLen = 9223372036854775807 := by decide
  rw [hm] at hx hy ht hts
  have m1 : Go.Ev.Fn CX 15 [.sl 3 [.sl xs.length (ratsC xs), .sl ys.length (ratsC ys), .sl 2 [.bool sm, natV nm, natV dm, .bool ss, natV ns, natV ds]]] (.bool (bigR xs || (bigR ys || bigR [(sm, nm, dm), (ss, ns, ds)]))) := by
    have h := law19_much (rows := [xs, ys, [(sm, nm, dm), (ss, ns, ds)]]) (by simp) (by
      intro q hq
      simp only [List.mem_cons, List.not_mem_nil, or_false] at hq
      rcases hq with rfl | rfl | rfl
      · exact hx
      · exact hy
      · simp)
    rw [show [xs, ys, [(sm, nm, dm), (ss, ns, ds)]].any bigR = (bigR xs || (bigR ys || bigR [(sm, nm, dm), (ss, ns, ds)])) by simp [List.any_cons]] at h
    exact h
  unfold bigT
  show Go.Ev.Fn CX 5 [testV kind (.sl xs.length (ratsC xs)) (.sl ys.length (ratsC ys)) (.sl ts.length (ts.map rowV)) sm nm dm ss ns ds k n] _
  cases hb : (bigR xs || (bigR ys || bigR [(sm, nm, dm), (ss, ns, ds)]))
  rotate_left
  · rw [Bool.true_or]
    rw [hb] at m1
    clear hts
    generalize hc : ts.map rowV = tc at *
    generalize ratsC xs = xc at *
    generalize ratsC ys = yc at *
    clear hb hc
    refine Go.Ev.Fn.intro (fn := Tryz.f5) (body := (Tryz.f5).body.get!) (by kernel_rfl) (by kernel_rfl) (by kernel_rfl) (fun _ => rfl) (Nat.le_of_ble_eq_true (by kernel_rfl)) ?_; unfold Tryz.f5; simp only [Option.get!_some]
    repeat (first | (simp only [go_sem, Nat.reduceEqDiff, Nat.reduceAdd, Nat.reduceSub, Nat.reduceMul, Nat.reduceLeDiff, Nat.reduceLT, reduceIte, reduceCtorEq, Nat.succ_ne_zero, elemsC, Int.reduceToNat, Nat.reducePow]) | (simp (disch := (first | omega | (simp only [AL, List.length_map]; omega))) only [AR, AL, ifT, ifF, take_all, List.length_cons, List.length_nil, Int.reduceToNat, Int.reducePow, Nat.reducePow]) | (refine wk_intro (by kernel_rfl) ?_) | (refine vf_of (by first | exact m1) ?_))
  rw [Bool.false_or]
  rw [hb] at m1
  clear hb
  have hlen : (ts.map rowV).length = ts.length := List.length_map _
  have hat := fun {i : Nat} (h : i < ts.length) => tab_at h
  generalize hc : ts.map rowV = tc at *
  generalize ratsC xs = xc at *
  generalize ratsC ys = yc at *
  clear hc
  by_cases c1 : 4 < ts.length
  · rw [decide_eq_true c1, Bool.true_or]
    clear hat hts
    refine Go.Ev.Fn.intro (fn := Tryz.f5) (body := (Tryz.f5).body.get!) (by kernel_rfl) (by kernel_rfl) (by kernel_rfl) (fun _ => rfl) (Nat.le_of_ble_eq_true (by kernel_rfl)) ?_; unfold Tryz.f5; simp only [Option.get!_some]
    repeat (first | (simp only [go_sem, Nat.reduceEqDiff, Nat.reduceAdd, Nat.reduceSub, Nat.reduceMul, Nat.reduceLeDiff, Nat.reduceLT, reduceIte, reduceCtorEq, Nat.succ_ne_zero, elemsC, Int.reduceToNat, Nat.reducePow]) | (simp (disch := (first | omega | (simp only [AL, List.length_map]; omega))) only [AR, AL, ifT, ifF, take_all, List.length_cons, List.length_nil, Int.reduceToNat, Int.reducePow, Nat.reducePow]) | (refine wk_intro (by kernel_rfl) ?_) | (refine vf_of (by first | exact m1) ?_))
  rw [decide_eq_false c1, Bool.false_or]
  by_cases c2 : 8 < n ∧ n ≤ 256
  · rw [decide_eq_true c2.1, decide_eq_true c2.2, Bool.true_and, Bool.true_or]
    obtain ⟨c2, c3⟩ := c2
    clear hat hts
    refine Go.Ev.Fn.intro (fn := Tryz.f5) (body := (Tryz.f5).body.get!) (by kernel_rfl) (by kernel_rfl) (by kernel_rfl) (fun _ => rfl) (Nat.le_of_ble_eq_true (by kernel_rfl)) ?_; unfold Tryz.f5; simp only [Option.get!_some]
    repeat (first | (simp only [go_sem, Nat.reduceEqDiff, Nat.reduceAdd, Nat.reduceSub, Nat.reduceMul, Nat.reduceLeDiff, Nat.reduceLT, reduceIte, reduceCtorEq, Nat.succ_ne_zero, elemsC, Int.reduceToNat, Nat.reducePow]) | (simp (disch := (first | omega | (simp only [AL, List.length_map]; omega))) only [AR, AL, ifT, ifF, take_all, List.length_cons, List.length_nil, Int.reduceToNat, Int.reducePow, Nat.reducePow]) | (refine wk_intro (by kernel_rfl) ?_) | (refine vf_of (by first | exact m1) ?_))
  have c2' : (decide (8 < n) && decide (n ≤ 256)) = false := by rw [← Bool.decide_and]; exact decide_eq_false c2
  rw [c2', Bool.false_or]
  have hps : ∀ i, i < ts.length → (ts.getD i []).length ≤ 9223372036854775807 := by
    intro i h
    refine hts _ ?_
    rw [List.getD_eq_getElem?_getD, List.getElem?_eq_getElem h]
    exact List.getElem_mem h
  have mone : ∀ ps : List InR, ps.length ≤ 9223372036854775807 → Go.Ev.Fn CX 15 [.sl 1 [.sl ps.length (ratsC ps)]] (.bool (bigR ps)) := by
    intro ps hp
    have h := law19_much (rows := [ps]) (by simp) (by
      intro q hq
      simp only [List.mem_cons, List.not_mem_nil, or_false] at hq
      rcases hq with rfl
      exact hp)
    rw [show [ps].any bigR = bigR ps by simp [List.any_cons]] at h
    exact h
  have loop : ∀ (st : St), st.tmp 1 = .ptr 1 0 0 → st.obj 1 0 = some [.int .i64 kind, .sl xs.length xc, .sl ys.length yc, .sl ts.length tc, .bool sm, natV nm, natV dm, .bool ss, natV ns, natV ds, .int .i64 k, .int .i64 n] → True := fun _ _ _ => trivial
  clear loop
  have go : (8 < n ∧ 256 < n) ∨ n ≤ 8 := by omega
  clear c2 c2' hts
  rcases go with ⟨n1, n2⟩ | n1
  · refine Go.Ev.Fn.intro (fn := Tryz.f5) (body := (Tryz.f5).body.get!) (by kernel_rfl) (by kernel_rfl) (by kernel_rfl) (fun _ => rfl) (Nat.le_of_ble_eq_true (by kernel_rfl)) ?_; unfold Tryz.f5; simp only [Option.get!_some]
    repeat (first | (simp only [go_sem, Nat.reduceEqDiff, Nat.reduceAdd, Nat.reduceSub, Nat.reduceMul, Nat.reduceLeDiff, Nat.reduceLT, reduceIte, reduceCtorEq, Nat.succ_ne_zero, elemsC, Int.reduceToNat, Nat.reducePow]) | (simp (disch := (first | omega | (simp only [AL, List.length_map]; omega))) only [AR, AL, ifT, ifF, take_all, List.length_cons, List.length_nil, Int.reduceToNat, Int.reducePow, Nat.reducePow]) | (refine wk_intro (by kernel_rfl) ?_) | (refine vf_of (by first | exact m1) ?_))
    refine vp_loop_inv (fun s => s.tmp 1 = .ptr 1 0 0 ∧ s.obj 1 0 = some [.int .i64 kind, .sl xs.length xc, .sl ys.length yc, .sl ts.length tc, .bool sm, natV nm, natV dm, .bool ss, natV ns, natV ds, .int .i64 k, .int .i64 n] ∧
        ∃ i : Nat, s.tmp 3 = .sv (.int .i64 (i : Int)) ∧ i ≤ ts.length ∧ (ts.take i).any (fun ps => decide (4 < ps.length) || bigR ps) = false)
      (fun s => match s.tmp 3 with | .sv (.int _ i) => ts.length - i.toNat | _ => 0) ⟨rfl, rfl, 0, rfl, by omega, rfl⟩ ?_
    rintro s2 ⟨i1, o1, i, i3, hi, hb⟩
    by_cases hend : i = ts.length
    · subst hend
      rw [List.take_length] at hb
      rw [hb]
      repeat (first | (simp only [go_sem, Nat.reduceEqDiff, Nat.reduceAdd, Nat.reduceSub, Nat.reduceMul, Nat.reduceLeDiff, Nat.reduceLT, reduceIte, reduceCtorEq, Nat.succ_ne_zero, elemsC, Int.reduceToNat, Nat.reducePow, i1, o1, i3]) | (simp (disch := (first | omega | (simp only [AL, List.length_map]; omega))) only [AR, AL, ifT, ifF, take_all, List.length_cons, List.length_nil, Int.reduceToNat, Int.reducePow, Nat.reducePow, i1, o1, i3]) | (refine wk_intro (by kernel_rfl) ?_))
    · have h1 := hat (i := i) (by omega)
      have h2 := hps i (by omega)
      have hm1 := mone _ h2
      have hor := any_take (fun ps : List InR => decide (4 < ps.length) || bigR ps) ts [] (i := i) (by omega)
      have htr := any_of_getD (fun ps : List InR => decide (4 < ps.length) || bigR ps) ts [] (i := i) (by omega)
      rw [hb, Bool.false_or] at hor
      generalize ts.getD i [] = ps at *
      clear hat hps mone
      by_cases h4 : 4 < ps.length
      · rw [htr (by simp [h4])]
        clear hor htr
        repeat (first | (simp only [go_sem, Nat.reduceEqDiff, Nat.reduceAdd, Nat.reduceSub, Nat.reduceMul, Nat.reduceLeDiff, Nat.reduceLT, reduceIte, reduceCtorEq, Nat.succ_ne_zero, elemsC, Int.reduceToNat, Nat.reducePow, i1, o1, i3, h1, hlen]) | (simp (disch := (first | omega | (simp only [AL, List.length_map]; omega))) only [AR, AL, ifT, ifF, take_all, List.length_cons, List.length_nil, Int.reduceToNat, Int.reducePow, Nat.reducePow, i1, o1, i3, h1, hlen]) | (refine wk_intro (by kernel_rfl) ?_))
      · cases hbg : bigR ps
        · rw [hbg] at hm1 hor
          rw [decide_eq_false h4] at hor
          clear htr
          repeat (first | (simp only [go_sem, Nat.reduceEqDiff, Nat.reduceAdd, Nat.reduceSub, Nat.reduceMul, Nat.reduceLeDiff, Nat.reduceLT, reduceIte, reduceCtorEq, Nat.succ_ne_zero, elemsC, Int.reduceToNat, Nat.reducePow, i1, o1, i3, h1, hlen]) | (simp (disch := (first | omega | (simp only [AL, List.length_map]; omega))) only [AR, AL, ifT, ifF, take_all, List.length_cons, List.length_nil, Int.reduceToNat, Int.reducePow, Nat.reducePow, i1, o1, i3, h1, hlen]) | (refine wk_intro (by kernel_rfl) ?_) | (refine vf_of (by first | exact hm1) ?_))
          exact ⟨⟨i + 1, rfl, by omega, hor⟩, by omega⟩
        · rw [hbg] at hm1
          rw [htr (by rw [hbg, Bool.or_true])]
          clear hor htr
          repeat (first | (simp only [go_sem, Nat.reduceEqDiff, Nat.reduceAdd, Nat.reduceSub, Nat.reduceMul, Nat.reduceLeDiff, Nat.reduceLT, reduceIte, reduceCtorEq, Nat.succ_ne_zero, elemsC, Int.reduceToNat, Nat.reducePow, i1, o1, i3, h1, hlen]) | (simp (disch := (first | omega | (simp only [AL, List.length_map]; omega))) only [AR, AL, ifT, ifF, take_all, List.length_cons, List.length_nil, Int.reduceToNat, Int.reducePow, Nat.reducePow, i1, o1, i3, h1, hlen]) | (refine wk_intro (by kernel_rfl) ?_) | (refine vf_of (by first | exact hm1) ?_))
  · refine Go.Ev.Fn.intro (fn := Tryz.f5) (body := (Tryz.f5).body.get!) (by kernel_rfl) (by kernel_rfl) (by kernel_rfl) (fun _ => rfl) (Nat.le_of_ble_eq_true (by kernel_rfl)) ?_; unfold Tryz.f5; simp only [Option.get!_some]
    repeat (first | (simp only [go_sem, Nat.reduceEqDiff, Nat.reduceAdd, Nat.reduceSub, Nat.reduceMul, Nat.reduceLeDiff, Nat.reduceLT, reduceIte, reduceCtorEq, Nat.succ_ne_zero, elemsC, Int.reduceToNat, Nat.reducePow]) | (simp (disch := (first | omega | (simp only [AL, List.length_map]; omega))) only [AR, AL, ifT, ifF, take_all, List.length_cons, List.length_nil, Int.reduceToNat, Int.reducePow, Nat.reducePow]) | (refine wk_intro (by kernel_rfl) ?_) | (refine vf_of (by first | exact m1) ?_))
    refine vp_loop_inv (fun s => s.tmp 1 = .ptr 1 0 0 ∧ s.obj 1 0 = some [.int .i64 kind, .sl xs.length xc, .sl ys.length yc, .sl ts.length tc, .bool sm, natV nm, natV dm, .bool ss, natV ns, natV ds, .int .i64 k, .int .i64 n] ∧
        ∃ i : Nat, s.tmp 3 = .sv (.int .i64 (i : Int)) ∧ i ≤ ts.length ∧ (ts.take i).any (fun ps => decide (4 < ps.length) || bigR ps) = false)
      (fun s => match s.tmp 3 with | .sv (.int _ i) => ts.length - i.toNat | _ => 0) ⟨rfl, rfl, 0, rfl, by omega, rfl⟩ ?_
    rintro s2 ⟨i1, o1, i, i3, hi, hb⟩
    by_cases hend : i = ts.length
    · subst hend
      rw [List.take_length] at hb
      rw [hb]
      repeat (first | (simp only [go_sem, Nat.reduceEqDiff, Nat.reduceAdd, Nat.reduceSub, Nat.reduceMul, Nat.reduceLeDiff, Nat.reduceLT, reduceIte, reduceCtorEq, Nat.succ_ne_zero, elemsC, Int.reduceToNat, Nat.reducePow, i1, o1, i3]) | (simp (disch := (first | omega | (simp only [AL, List.length_map]; omega))) only [AR, AL, ifT, ifF, take_all, List.length_cons, List.length_nil, Int.reduceToNat, Int.reducePow, Nat.reducePow, i1, o1, i3]) | (refine wk_intro (by kernel_rfl) ?_))
    · have h1 := hat (i := i) (by omega)
      have h2 := hps i (by omega)
      have hm1 := mone _ h2
      have hor := any_take (fun ps : List InR => decide (4 < ps.length) || bigR ps) ts [] (i := i) (by omega)
      have htr := any_of_getD (fun ps : List InR => decide (4 < ps.length) || bigR ps) ts [] (i := i) (by omega)
      rw [hb, Bool.false_or] at hor
      generalize ts.getD i [] = ps at *
      clear hat hps mone
      by_cases h4 : 4 < ps.length
      · rw [htr (by simp [h4])]
        clear hor htr
        repeat (first | (simp only [go_sem, Nat.reduceEqDiff, Nat.reduceAdd, Nat.reduceSub, Nat.reduceMul, Nat.reduceLeDiff, Nat.reduceLT, reduceIte, reduceCtorEq, Nat.succ_ne_zero, elemsC, Int.reduceToNat, Nat.reducePow, i1, o1, i3, h1, hlen]) | (simp (disch := (first | omega | (simp only [AL, List.length_map]; omega))) only [AR, AL, ifT, ifF, take_all, List.length_cons, List.length_nil, Int.reduceToNat, Int.reducePow, Nat.reducePow, i1, o1, i3, h1, hlen]) | (refine wk_intro (by kernel_rfl) ?_))
      · cases hbg : bigR ps
        · rw [hbg] at hm1 hor
          rw [decide_eq_false h4] at hor
          clear htr
          repeat (first | (simp only [go_sem, Nat.reduceEqDiff, Nat.reduceAdd, Nat.reduceSub, Nat.reduceMul, Nat.reduceLeDiff, Nat.reduceLT, reduceIte, reduceCtorEq, Nat.succ_ne_zero, elemsC, Int.reduceToNat, Nat.reducePow, i1, o1, i3, h1, hlen]) | (simp (disch := (first | omega | (simp only [AL, List.length_map]; omega))) only [AR, AL, ifT, ifF, take_all, List.length_cons, List.length_nil, Int.reduceToNat, Int.reducePow, Nat.reducePow, i1, o1, i3, h1, hlen]) | (refine wk_intro (by kernel_rfl) ?_) | (refine vf_of (by first | exact hm1) ?_))
          exact ⟨⟨i + 1, rfl, by omega, hor⟩, by omega⟩
        · rw [hbg] at hm1
          rw [htr (by rw [hbg, Bool.or_true])]
          clear hor htr
          repeat (first | (simp only [go_sem, Nat.reduceEqDiff, Nat.reduceAdd, Nat.reduceSub, Nat.reduceMul, Nat.reduceLeDiff, Nat.reduceLT, reduceIte, reduceCtorEq, Nat.succ_ne_zero, elemsC, Int.reduceToNat, Nat.reducePow, i1, o1, i3, h1, hlen]) | (simp (disch := (first | omega | (simp only [AL, List.length_map]; omega))) only [AR, AL, ifT, ifF, take_all, List.length_cons, List.length_nil, Int.reduceToNat, Int.reducePow, Nat.reducePow, i1, o1, i3, h1, hlen]) | (refine wk_intro (by kernel_rfl) ?_) | (refine vf_of (by first | exact hm1) ?_))
end
end Go.Proofs.YtdnmhnjblgkjaaaGreat

/- What would be in a table has the sums of what is: plain mathematics. -/
namespace Go.Proofs.YtdnmhnjblgkjaaaGreat
open Go.Ev
theorem sumR_mulR (x S : Rat) (l : List Rat) : sumR (l.map fun y => x * y / S) = x * sumR l / S := by
  rw [show (fun y => x * y / S) = fun y => (x * S⁻¹) * y by funext y; rw [Rat.div_def]; grind, sumR_scale, Rat.div_def]
  grind
theorem sumR_add2 {α : Type} (l : List α) (f g : α → Rat) : sumR (l.map fun k => f k + g k) = sumR (l.map f) + sumR (l.map g) := by
  induction l with
  | nil => simp only [List.map_nil, sumR_nil]; grind
  | cons x l ih => simp only [List.map_cons, sumR_cons, ih]; grind
theorem range_getD (r : List Rat) {w : Nat} (h : r.length = w) : (List.range w).map (fun k => r.getD k 0) = r := by
  subst h
  refine List.ext_getElem (by simp) fun j h1 h2 => ?_
  rw [List.getElem_map, List.getElem_range, List.getD_eq_getElem?_getD, List.getElem?_eq_getElem h2]
  rfl
theorem sum_cols {T : List (List Rat)} {w : Nat} (hw : ∀ i, i < T.length → (T.getD i []).length = w) : ∀ i, i ≤ T.length → sumR ((List.range w).map fun k => colS T i k) = sumR ((T.take i).map sumR) := by
  intro i
  induction i with
  | zero =>
    intro _
    rw [List.take_zero, List.map_nil, sumR_nil]
    have : ∀ l : List Nat, sumR (l.map fun k => colS T 0 k) = 0 := by
      intro l
      induction l with
      | nil => rfl
      | cons x l ih => rw [List.map_cons, sumR_cons, ih, colS_zero]; grind
    exact this _
  | succ i ih =>
    intro hi
    rw [show (fun k => colS T (i + 1) k) = fun k => colS T i k + (T.getD i []).getD k 0 by funext k; exact colS_step T k (by omega), sumR_add2, ih (by omega), range_getD _ (hw i (by omega))]
    have e : T.take (i + 1) = T.take i ++ [T.getD i []] := by
      rw [List.take_add_one, List.getD_eq_getElem?_getD, List.getElem?_eq_getElem (by omega)]
      rfl
    rw [e, List.map_append]
    exact (sumR_snoc _ _).symm
theorem sumR_pos : ∀ {l : List Rat}, (∀ x ∈ l, 0 < x) → l ≠ [] → 0 < sumR l
  | [], _, h => absurd rfl h
  | [x], h, _ => by rw [sumR_cons, sumR_nil]; have := h x (by simp); grind
  | x :: y :: l, h, _ => by
    rw [sumR_cons]
    have h1 := h x (by simp)
    have h2 := sumR_pos (l := y :: l) (fun z hz => h z (List.mem_cons_of_mem _ hz)) (by simp)
    grind
theorem sumR_nonneg : ∀ {l : List Rat}, (∀ x ∈ l, 0 ≤ x) → 0 ≤ sumR l
  | [], _ => by rw [sumR_nil]; exact Rat.le_refl
  | x :: l, h => by
    rw [sumR_cons]
    have h1 := h x (by simp)
    have h2 := sumR_nonneg (l := l) fun z hz => h z (List.mem_cons_of_mem _ hz)
    grind
theorem expR_sums {T : List (List Rat)} (he : (expR T).2 = 0) : (expR T).1.length = T.length ∧ ∀ i, i < T.length → ((expR T).1.getD i []).length = (T.getD i []).length ∧ sumR ((expR T).1.getD i []) = sumR (T.getD i []) := by
  unfold expR at he ⊢
  by_cases h1 : tabE T ≠ 0
  · rw [if_pos h1] at he; exact absurd he h1
  rw [if_neg h1] at he ⊢
  by_cases h2 : (rowR T ++ colR T).any (fun x => decide (x = 0)) = true
  · rw [if_pos h2] at he; cases he
  rw [if_neg h2]
  have h0 : tabE T = 0 := by omega
  unfold tabE at h0
  by_cases c1 : T.length < 2 ∨ (T.getD 0 []).length < 2
  · rw [if_pos c1] at h0; cases h0
  rw [if_neg c1] at h0
  by_cases c3 : T.any (fun r => decide (r.length ≠ (T.getD 0 []).length)) = true
  · rw [if_pos c3] at h0; cases h0
  rw [if_neg c3] at h0
  by_cases c4 : T.any (fun r => r.any fun x => decide (x < 0)) = true
  · rw [if_pos c4] at h0; cases h0
  have hw : ∀ r ∈ T, r.length = (T.getD 0 []).length := by
    intro r hr
    by_cases e : r.length = (T.getD 0 []).length
    · exact e
    · exact absurd (List.any_eq_true.2 ⟨r, hr, decide_eq_true e⟩) c3
  have hnn : ∀ r ∈ T, ∀ x ∈ r, 0 ≤ x := by
    intro r hr x hx
    by_cases e : x < 0
    · exact absurd (List.any_eq_true.2 ⟨r, hr, List.any_eq_true.2 ⟨x, hx, decide_eq_true e⟩⟩) c4
    · grind
  have hne : ∀ r ∈ T, sumR r ≠ 0 := by
    intro r hr e
    exact h2 (List.any_eq_true.2 ⟨sumR r, List.mem_append_left _ (List.mem_map.2 ⟨r, hr, rfl⟩), decide_eq_true e⟩)
  have hpos : 0 < sumR (rowR T) := by
    refine sumR_pos ?_ ?_
    · intro x hx
      obtain ⟨r, hr, rfl⟩ := List.mem_map.1 hx
      have a := sumR_nonneg (hnn r hr)
      have b := hne r hr
      grind
    · intro e
      have : (rowR T).length = 0 := by rw [e]; rfl
      unfold rowR at this
      rw [List.length_map] at this
      omega
  have hSS : sumR (colR T) = sumR (rowR T) := by
    have hwi : ∀ i, i < T.length → (T.getD i []).length = (T.getD 0 []).length := by
      intro i hi
      refine hw _ ?_
      rw [List.getD_eq_getElem?_getD, List.getElem?_eq_getElem hi]
      exact List.getElem_mem hi
    have := sum_cols hwi T.length (Nat.le_refl _)
    rw [List.take_length] at this
    exact this
  refine ⟨by rw [List.length_map]; simp [rowR], fun i hi => ?_⟩
  have hm : T.getD i [] ∈ T := by
    rw [List.getD_eq_getElem?_getD, List.getElem?_eq_getElem hi]
    exact List.getElem_mem hi
  have hX : ((rowR T).map fun x => (colR T).map fun y => x * y / sumR (rowR T)).getD i [] = (colR T).map fun y => sumR (T.getD i []) * y / sumR (rowR T) := by
    unfold rowR
    rw [List.getD_eq_getElem?_getD, List.getElem?_map, List.getElem?_map, List.getD_eq_getElem?_getD, List.getElem?_eq_getElem hi]
    rfl
  rw [hX]
  refine ⟨by rw [List.length_map, hw _ hm]; simp [colR], ?_⟩
  rw [sumR_mulR, hSS]
  exact Rat.mul_div_cancel (fun e => by rw [e] at hpos; exact absurd hpos (Rat.lt_irrefl))
end Go.Proofs.YtdnmhnjblgkjaaaGreat

/- test.raw, isChi, Statistic, in the evaluator. -/
namespace Go.Proofs.YtdnmhnjblgkjaaaGreat
set_option linter.unusedSimpArgs false
set_option linter.unusedVariables false
set_option maxRecDepth 8000
open Go.Ev
/-- A statistic that is told, if it is not too great. -/
def statR (kind : Int) (r : Res) : Res :=
  if r.2.2 ≠ 0 then (0, [], r.2.2) else if r.2.1.any (fun d => decide (256 < d)) = true then (0, [], 7) else if (kind = 1 ∨ kind = 6 ∨ kind = 7) ∧ 128 < r.1 then (0, [], 7) else (r.1, r.2.1, 0)
theorem test_isChi (kind : Int) : Go.Ev.Fn CX 18 [.int .i64 kind] (.bool (decide (kind = 1 ∨ kind = 6 ∨ kind = 7))) := by
  by_cases h1 : kind = 1
  · subst h1
    rw [decide_eq_true (by omega)]
    refine Go.Ev.Fn.intro (fn := Tryz.f18) (body := (Tryz.f18).body.get!) (by kernel_rfl) (by kernel_rfl) (by kernel_rfl) (fun _ => rfl) (Nat.le_of_ble_eq_true (by kernel_rfl)) ?_; unfold Tryz.f18; simp only [Option.get!_some]
    repeat (first | (simp only [go_sem, Nat.reduceEqDiff, Nat.reduceAdd, Nat.reduceSub, Nat.reduceMul, Nat.reduceLeDiff, Nat.reduceLT, reduceIte, reduceCtorEq, Nat.succ_ne_zero, elemsC, Int.reduceToNat, Nat.reducePow]) | (simp (disch := (first | omega | (simp only [AL, List.length_map]; omega))) only [AR, AL, ifT, ifF, take_all, List.length_cons, List.length_nil, Int.reduceToNat, Int.reducePow, Nat.reducePow]) | (refine wk_intro (by kernel_rfl) ?_))
  by_cases h2 : kind = 6
  · subst h2
    rw [decide_eq_true (by omega)]
    refine Go.Ev.Fn.intro (fn := Tryz.f18) (body := (Tryz.f18).body.get!) (by kernel_rfl) (by kernel_rfl) (by kernel_rfl) (fun _ => rfl) (Nat.le_of_ble_eq_true (by kernel_rfl)) ?_; unfold Tryz.f18; simp only [Option.get!_some]
    repeat (first | (simp only [go_sem, Nat.reduceEqDiff, Nat.reduceAdd, Nat.reduceSub, Nat.reduceMul, Nat.reduceLeDiff, Nat.reduceLT, reduceIte, reduceCtorEq, Nat.succ_ne_zero, elemsC, Int.reduceToNat, Nat.reducePow]) | (simp (disch := (first | omega | (simp only [AL, List.length_map]; omega))) only [AR, AL, ifT, ifF, take_all, List.length_cons, List.length_nil, Int.reduceToNat, Int.reducePow, Nat.reducePow]) | (refine wk_intro (by kernel_rfl) ?_))
  by_cases h3 : kind = 7
  · subst h3
    rw [decide_eq_true (by omega)]
    refine Go.Ev.Fn.intro (fn := Tryz.f18) (body := (Tryz.f18).body.get!) (by kernel_rfl) (by kernel_rfl) (by kernel_rfl) (fun _ => rfl) (Nat.le_of_ble_eq_true (by kernel_rfl)) ?_; unfold Tryz.f18; simp only [Option.get!_some]
    repeat (first | (simp only [go_sem, Nat.reduceEqDiff, Nat.reduceAdd, Nat.reduceSub, Nat.reduceMul, Nat.reduceLeDiff, Nat.reduceLT, reduceIte, reduceCtorEq, Nat.succ_ne_zero, elemsC, Int.reduceToNat, Nat.reducePow]) | (simp (disch := (first | omega | (simp only [AL, List.length_map]; omega))) only [AR, AL, ifT, ifF, take_all, List.length_cons, List.length_nil, Int.reduceToNat, Int.reducePow, Nat.reducePow]) | (refine wk_intro (by kernel_rfl) ?_))
  rw [decide_eq_false (by omega)]
  refine Go.Ev.Fn.intro (fn := Tryz.f18) (body := (Tryz.f18).body.get!) (by kernel_rfl) (by kernel_rfl) (by kernel_rfl) (fun _ => rfl) (Nat.le_of_ble_eq_true (by kernel_rfl)) ?_; unfold Tryz.f18; simp only [Option.get!_some]
  repeat (first | (simp only [go_sem, Nat.reduceEqDiff, Nat.reduceAdd, Nat.reduceSub, Nat.reduceMul, Nat.reduceLeDiff, Nat.reduceLT, reduceIte, reduceCtorEq, Nat.succ_ne_zero, elemsC, Int.reduceToNat, Nat.reducePow]) | (simp (disch := (first | omega | (simp only [AL, List.length_map]; omega))) only [AR, AL, ifT, ifF, take_all, List.length_cons, List.length_nil, Int.reduceToNat, Int.reducePow, Nat.reducePow]) | (refine wk_intro (by kernel_rfl) ?_))
section
variable {kind k n : Int} {X Y tn : Nat} {xs ys tc : List SV} {sm ss : Bool} {nm dm ns ds : List Nat}
theorem raw_T {l : List Rat} {mu : Rat} {L M : Nat} (h : RowC xs l L) (hL : 1 ≤ L) (hL2 : L ≤ 100) (hm : RatA (ratV sm nm dm) mu M) (hM : 1 ≤ M) (hM2 : M ≤ 100) (hl : l.length ≤ 12) (hY : Y ≤ 256) :
    Go.Ev.Fn CX 16 [testV 2 (.sl l.length xs) (.sl Y ys) (.sl tn tc) sm nm dm ss ns ds k n] (resV (stuR l mu)) := by
  have s1 := test_student h hm hL hL2 hM hM2 hl
  clear h hm
  refine Go.Ev.Fn.intro (fn := Tryz.f16) (body := (Tryz.f16).body.get!) (by kernel_rfl) (by kernel_rfl) (by kernel_rfl) (fun _ => rfl) (Nat.le_of_ble_eq_true (by kernel_rfl)) ?_; unfold Tryz.f16; simp only [Option.get!_some]
  repeat (first | (simp only [go_sem, Nat.reduceEqDiff, Nat.reduceAdd, Nat.reduceSub, Nat.reduceMul, Nat.reduceLeDiff, Nat.reduceLT, reduceIte, reduceCtorEq, Nat.succ_ne_zero, elemsC, Int.reduceToNat, Nat.reducePow]) | (simp (disch := (first | omega | (simp only [AL, List.length_map]; omega))) only [AR, AL, ifT, ifF, take_all, List.length_cons, List.length_nil, Int.reduceToNat, Int.reducePow, Nat.reducePow]) | (refine wk_intro (by kernel_rfl) ?_) | (refine vf_of (by first | exact s1) ?_))
theorem raw_paired {l m : List Rat} (h : RowC xs l 1) (h2 : RowC ys m 1) (hl : l.length ≤ 12) (hm : m.length ≤ 12) :
    Go.Ev.Fn CX 16 [testV 3 (.sl l.length xs) (.sl m.length ys) (.sl tn tc) sm nm dm ss ns ds k n] (resV (if l.length ≠ m.length then (0, [], 1) else stuR (List.zipWith (fun a b => a - b) l m) 0)) := by
  have s1 := test_paired h h2 hl hm
  generalize (if l.length ≠ m.length then ((0 : Rat), ([] : List Int), (1 : Int)) else stuR (List.zipWith (fun a b => a - b) l m) 0) = r at *
  clear h h2
  refine Go.Ev.Fn.intro (fn := Tryz.f16) (body := (Tryz.f16).body.get!) (by kernel_rfl) (by kernel_rfl) (by kernel_rfl) (fun _ => rfl) (Nat.le_of_ble_eq_true (by kernel_rfl)) ?_; unfold Tryz.f16; simp only [Option.get!_some]
  repeat (first | (simp only [go_sem, Nat.reduceEqDiff, Nat.reduceAdd, Nat.reduceSub, Nat.reduceMul, Nat.reduceLeDiff, Nat.reduceLT, reduceIte, reduceCtorEq, Nat.succ_ne_zero, elemsC, Int.reduceToNat, Nat.reducePow]) | (simp (disch := (first | omega | (simp only [AL, List.length_map]; omega))) only [AR, AL, ifT, ifF, take_all, List.length_cons, List.length_nil, Int.reduceToNat, Int.reducePow, Nat.reducePow]) | (refine wk_intro (by kernel_rfl) ?_) | (refine vf_of (by first | exact s1) ?_))
theorem raw_pooled {l m : List Rat} (h : RowC xs l 1) (h2 : RowC ys m 1) (hl : l.length ≤ 12) (hm : m.length ≤ 12) :
    Go.Ev.Fn CX 16 [testV 4 (.sl l.length xs) (.sl m.length ys) (.sl tn tc) sm nm dm ss ns ds k n] (resV (poolR l m)) := by
  have s1 := test_pooled h h2 hl hm
  clear h h2
  refine Go.Ev.Fn.intro (fn := Tryz.f16) (body := (Tryz.f16).body.get!) (by kernel_rfl) (by kernel_rfl) (by kernel_rfl) (fun _ => rfl) (Nat.le_of_ble_eq_true (by kernel_rfl)) ?_; unfold Tryz.f16; simp only [Option.get!_some]
  repeat (first | (simp only [go_sem, Nat.reduceEqDiff, Nat.reduceAdd, Nat.reduceSub, Nat.reduceMul, Nat.reduceLeDiff, Nat.reduceLT, reduceIte, reduceCtorEq, Nat.succ_ne_zero, elemsC, Int.reduceToNat, Nat.reducePow]) | (simp (disch := (first | omega | (simp only [AL, List.length_map]; omega))) only [AR, AL, ifT, ifF, take_all, List.length_cons, List.length_nil, Int.reduceToNat, Int.reducePow, Nat.reducePow]) | (refine wk_intro (by kernel_rfl) ?_) | (refine vf_of (by first | exact s1) ?_))
theorem raw_fisher {l m : List Rat} (h : RowC xs l 1) (h2 : RowC ys m 1) (hl : l.length ≤ 12) (hm : m.length ≤ 12) :
    Go.Ev.Fn CX 16 [testV 5 (.sl l.length xs) (.sl m.length ys) (.sl tn tc) sm nm dm ss ns ds k n] (resV (fisR l m)) := by
  have s1 := test_fisher h h2 hl hm
  clear h h2
  refine Go.Ev.Fn.intro (fn := Tryz.f16) (body := (Tryz.f16).body.get!) (by kernel_rfl) (by kernel_rfl) (by kernel_rfl) (fun _ => rfl) (Nat.le_of_ble_eq_true (by kernel_rfl)) ?_; unfold Tryz.f16; simp only [Option.get!_some]
  repeat (first | (simp only [go_sem, Nat.reduceEqDiff, Nat.reduceAdd, Nat.reduceSub, Nat.reduceMul, Nat.reduceLeDiff, Nat.reduceLT, reduceIte, reduceCtorEq, Nat.succ_ne_zero, elemsC, Int.reduceToNat, Nat.reducePow]) | (simp (disch := (first | omega | (simp only [AL, List.length_map]; omega))) only [AR, AL, ifT, ifF, take_all, List.length_cons, List.length_nil, Int.reduceToNat, Int.reducePow, Nat.reducePow]) | (refine wk_intro (by kernel_rfl) ?_) | (refine vf_of (by first | exact s1) ?_))
theorem test_Statistic {r : Res} (h : Go.Ev.Fn CX 16 [testV kind (.sl X xs) (.sl Y ys) (.sl tn tc) sm nm dm ss ns ds k n] (resV r)) (hz : szR r.1 1000000) (hd : r.2.1.length ≤ 1000) :
    Go.Ev.Fn CX 6 [testV kind (.sl X xs) (.sl Y ys) (.sl tn tc) sm nm dm ss ns ds k n] (resV (statR kind r)) := by
  obtain ⟨q, dg, e⟩ := r
  unfold statR
  have r0 := rat_Int 0 (by omega)
  have r1 := rat_Int 128 (by omega)
  have hc := test_isChi kind
  have h2 := rat_Cmp (RatA_rv hz) (RatA_rv (int_szR (n := 128) (by omega))) (by omega) (by omega) (by omega)
  have e2 : decide (cmpR q ((128 : Int) : Rat) > 0) = decide (128 < q) := cmpR_gt
  have hat := fun {i : Nat} (h : i < dg.length) => ints_at dg h
  have hln : (dg.map fun i => SV.int .i64 i).length = dg.length := List.length_map _
  simp only at h hz hd ⊢
  by_cases he : e = 0
  · subst he
    rw [if_neg (by simp)]
    have h' : Go.Ev.Fn CX 16 [testV kind (.sl X xs) (.sl Y ys) (.sl tn tc) sm nm dm ss ns ds k n] (.tup [rv q, .sl dg.length (dg.map fun i => SV.int .i64 i), .int .i64 0]) := h
    generalize hcs : (dg.map fun i => SV.int .i64 i) = cs at *
    clear h hz
    by_cases hany : dg.any (fun d => decide (256 < d)) = true
    · rw [if_pos hany]
      refine Go.Ev.Fn.intro (fn := Tryz.f6) (body := (Tryz.f6).body.get!) (by kernel_rfl) (by kernel_rfl) (by kernel_rfl) (fun _ => rfl) (Nat.le_of_ble_eq_true (by kernel_rfl)) ?_; unfold Tryz.f6; simp only [Option.get!_some]
      repeat (first | (simp only [go_sem, Nat.reduceEqDiff, Nat.reduceAdd, Nat.reduceSub, Nat.reduceMul, Nat.reduceLeDiff, Nat.reduceLT, reduceIte, reduceCtorEq, Nat.succ_ne_zero, elemsC, Int.reduceToNat, Nat.reducePow]) | (simp (disch := (first | omega | (simp only [AL, List.length_map]; omega))) only [AR, AL, ifT, ifF, take_all, List.length_cons, List.length_nil, Int.reduceToNat, Int.reducePow, Nat.reducePow]) | (refine wk_intro (by kernel_rfl) ?_) | (refine vp_draw (id := 10) (l := []) (by kernel_rfl) ?_) | (refine vf_of (by first | exact h') ?_))
      refine vp_loop_inv (fun s => s.tmp 2 = .ptr 2 0 0 ∧ s.obj 2 0 = some [.bool false, .sl 0 [], .sl 0 []] ∧ s.tmp 20 = .sv (.sl dg.length cs) ∧ s.tmp 21 = .sv (.int .i64 (dg.length : Int)) ∧
          ∃ i : Nat, s.tmp 22 = .sv (.int .i64 (i : Int)) ∧ i ≤ dg.length ∧ (dg.take i).any (fun d => decide (256 < d)) = false)
        (fun s => match s.tmp 22 with | .sv (.int _ i) => dg.length - i.toNat | _ => 0) ⟨rfl, rfl, rfl, rfl, 0, rfl, by omega, rfl⟩ ?_
      rintro s2 ⟨i2, iO, i20, i21, i, i22, hi, hb⟩
      by_cases hend : i = dg.length
      · subst hend
        rw [List.take_length, hany] at hb
        cases hb
      · have g1 := hat (i := i) (by omega)
        have hor := any_take (fun d => decide (256 < d)) dg (0 : Int) (i := i) (by omega)
        rw [hb, Bool.false_or] at hor
        generalize dg.getD i 0 = d at *
        clear hat hany
        by_cases hdd : 256 < d
        · clear hor
          repeat (first | (simp only [go_sem, Nat.reduceEqDiff, Nat.reduceAdd, Nat.reduceSub, Nat.reduceMul, Nat.reduceLeDiff, Nat.reduceLT, reduceIte, reduceCtorEq, Nat.succ_ne_zero, elemsC, Int.reduceToNat, Nat.reducePow, i2, iO, i20, i21, i22, g1, hln]) | (simp (disch := (first | omega | (simp only [AL, List.length_map]; omega))) only [AR, AL, ifT, ifF, take_all, List.length_cons, List.length_nil, Int.reduceToNat, Int.reducePow, Nat.reducePow, i2, iO, i20, i21, i22, g1, hln]) | (refine wk_intro (by kernel_rfl) ?_) | (refine vp_draw (id := 10) (l := []) (by kernel_rfl) ?_) | (refine vf_of (by first | exact r0) ?_))
          rfl
        · rw [decide_eq_false hdd] at hor
          repeat (first | (simp only [go_sem, Nat.reduceEqDiff, Nat.reduceAdd, Nat.reduceSub, Nat.reduceMul, Nat.reduceLeDiff, Nat.reduceLT, reduceIte, reduceCtorEq, Nat.succ_ne_zero, elemsC, Int.reduceToNat, Nat.reducePow, i2, iO, i20, i21, i22, g1, hln]) | (simp (disch := (first | omega | (simp only [AL, List.length_map]; omega))) only [AR, AL, ifT, ifF, take_all, List.length_cons, List.length_nil, Int.reduceToNat, Int.reducePow, Nat.reducePow, i2, iO, i20, i21, i22, g1, hln]) | (refine wk_intro (by kernel_rfl) ?_) | (refine vp_draw (id := 10) (l := []) (by kernel_rfl) ?_))
          exact ⟨⟨i + 1, rfl, by omega, hor⟩, by omega⟩
    · rw [if_neg hany]
      have hall : ∀ i, i < dg.length → dg.getD i 0 ≤ 256 := by
        intro i hi
        have := fun h => hany (any_of_getD (fun d => decide (256 < d)) dg (0 : Int) hi h)
        have h3 : ¬ 256 < dg.getD i 0 := fun h => this (decide_eq_true h)
        omega
      clear hany
      refine Go.Ev.Fn.intro (fn := Tryz.f6) (body := (Tryz.f6).body.get!) (by kernel_rfl) (by kernel_rfl) (by kernel_rfl) (fun _ => rfl) (Nat.le_of_ble_eq_true (by kernel_rfl)) ?_; unfold Tryz.f6; simp only [Option.get!_some]
      repeat (first | (simp only [go_sem, Nat.reduceEqDiff, Nat.reduceAdd, Nat.reduceSub, Nat.reduceMul, Nat.reduceLeDiff, Nat.reduceLT, reduceIte, reduceCtorEq, Nat.succ_ne_zero, elemsC, Int.reduceToNat, Nat.reducePow]) | (simp (disch := (first | omega | (simp only [AL, List.length_map]; omega))) only [AR, AL, ifT, ifF, take_all, List.length_cons, List.length_nil, Int.reduceToNat, Int.reducePow, Nat.reducePow]) | (refine wk_intro (by kernel_rfl) ?_) | (refine vp_draw (id := 10) (l := []) (by kernel_rfl) ?_) | (refine vf_of (by first | exact h') ?_))
      refine vp_loop_inv (fun s => s.tmp 1 = .ptr 1 0 0 ∧ s.obj 1 0 = some [.int .i64 kind, .sl X xs, .sl Y ys, .sl tn tc, .bool sm, natV nm, natV dm, .bool ss, natV ns, natV ds, .int .i64 k, .int .i64 n] ∧ s.tmp 2 = .ptr 2 0 0 ∧ s.obj 2 0 = some [.bool false, .sl 0 [], .sl 0 []] ∧ s.tmp 5 = .ptr 5 0 0 ∧ s.obj 5 0 = some (rvC q) ∧ s.tmp 6 = .sv (.sl dg.length cs) ∧ s.tmp 20 = .sv (.sl dg.length cs) ∧ s.tmp 21 = .sv (.int .i64 (dg.length : Int)) ∧
          ∃ i : Nat, s.tmp 22 = .sv (.int .i64 (i : Int)) ∧ i ≤ dg.length)
        (fun s => match s.tmp 22 with | .sv (.int _ i) => dg.length - i.toNat | _ => 0) ⟨rfl, rfl, rfl, rfl, rfl, rfl, rfl, rfl, rfl, 0, rfl, by omega⟩ ?_
      rintro s2 ⟨i1, oA, i2, iO, i5, oB, i6, i20, i21, i, i22, hi⟩
      by_cases hend : i = dg.length
      · subst hend
        clear hall hat
        by_cases hk : kind = 1 ∨ kind = 6 ∨ kind = 7
        · rw [decide_eq_true hk] at hc
          by_cases hq : 128 < q
          · rw [if_pos ⟨hk, hq⟩]
            rw [decide_eq_true hq] at e2
            clear hk hq
            repeat (first | (simp only [go_sem, Nat.reduceEqDiff, Nat.reduceAdd, Nat.reduceSub, Nat.reduceMul, Nat.reduceLeDiff, Nat.reduceLT, reduceIte, reduceCtorEq, Nat.succ_ne_zero, elemsC, Int.reduceToNat, Nat.reducePow, i1, oA, i2, iO, i5, oB, i6, i20, i21, i22, rvC, e2]) | (simp (disch := (first | omega | (simp only [AL, List.length_map]; omega))) only [AR, AL, ifT, ifF, take_all, List.length_cons, List.length_nil, Int.reduceToNat, Int.reducePow, Nat.reducePow, i1, oA, i2, iO, i5, oB, i6, i20, i21, i22, rvC, e2]) | (refine wk_intro (by kernel_rfl) ?_) | (refine vp_draw (id := 10) (l := []) (by kernel_rfl) ?_) | (refine vf_of (by first | exact hc | exact r1 | exact h2 | exact r0) ?_))
            rfl
          · rw [if_neg (fun h => hq h.2)]
            rw [decide_eq_false hq] at e2
            clear hk hq
            repeat (first | (simp only [go_sem, Nat.reduceEqDiff, Nat.reduceAdd, Nat.reduceSub, Nat.reduceMul, Nat.reduceLeDiff, Nat.reduceLT, reduceIte, reduceCtorEq, Nat.succ_ne_zero, elemsC, Int.reduceToNat, Nat.reducePow, i1, oA, i2, iO, i5, oB, i6, i20, i21, i22, rvC, e2]) | (simp (disch := (first | omega | (simp only [AL, List.length_map]; omega))) only [AR, AL, ifT, ifF, take_all, List.length_cons, List.length_nil, Int.reduceToNat, Int.reducePow, Nat.reducePow, i1, oA, i2, iO, i5, oB, i6, i20, i21, i22, rvC, e2]) | (refine wk_intro (by kernel_rfl) ?_) | (refine vp_draw (id := 10) (l := []) (by kernel_rfl) ?_) | (refine vf_of (by first | exact hc | exact r1 | exact h2) ?_))
            rw [hcs]
        · rw [if_neg (fun h => hk h.1)]
          rw [decide_eq_false hk] at hc
          clear hk
          repeat (first | (simp only [go_sem, Nat.reduceEqDiff, Nat.reduceAdd, Nat.reduceSub, Nat.reduceMul, Nat.reduceLeDiff, Nat.reduceLT, reduceIte, reduceCtorEq, Nat.succ_ne_zero, elemsC, Int.reduceToNat, Nat.reducePow, i1, oA, i2, iO, i5, oB, i6, i20, i21, i22, rvC]) | (simp (disch := (first | omega | (simp only [AL, List.length_map]; omega))) only [AR, AL, ifT, ifF, take_all, List.length_cons, List.length_nil, Int.reduceToNat, Int.reducePow, Nat.reducePow, i1, oA, i2, iO, i5, oB, i6, i20, i21, i22, rvC]) | (refine wk_intro (by kernel_rfl) ?_) | (refine vp_draw (id := 10) (l := []) (by kernel_rfl) ?_) | (refine vf_of (by first | exact hc) ?_))
          rw [hcs]
      · have g1 := hat (i := i) (by omega)
        have g2 := hall i (by omega)
        generalize dg.getD i 0 = d at *
        clear hat hall
        repeat (first | (simp only [go_sem, Nat.reduceEqDiff, Nat.reduceAdd, Nat.reduceSub, Nat.reduceMul, Nat.reduceLeDiff, Nat.reduceLT, reduceIte, reduceCtorEq, Nat.succ_ne_zero, elemsC, Int.reduceToNat, Nat.reducePow, i1, oA, i2, iO, i5, oB, i6, i20, i21, i22, g1, hln]) | (simp (disch := (first | omega | (simp only [AL, List.length_map]; omega))) only [AR, AL, ifT, ifF, take_all, List.length_cons, List.length_nil, Int.reduceToNat, Int.reducePow, Nat.reducePow, i1, oA, i2, iO, i5, oB, i6, i20, i21, i22, g1, hln]) | (refine wk_intro (by kernel_rfl) ?_) | (refine vp_draw (id := 10) (l := []) (by kernel_rfl) ?_))
        exact ⟨⟨i + 1, rfl, by omega⟩, by omega⟩
  · rw [if_pos he]
    have h' : Go.Ev.Fn CX 16 [testV kind (.sl X xs) (.sl Y ys) (.sl tn tc) sm nm dm ss ns ds k n] (.tup [rv q, .sl dg.length (dg.map fun i => SV.int .i64 i), .int .i64 e]) := h
    clear h hz
    refine Go.Ev.Fn.intro (fn := Tryz.f6) (body := (Tryz.f6).body.get!) (by kernel_rfl) (by kernel_rfl) (by kernel_rfl) (fun _ => rfl) (Nat.le_of_ble_eq_true (by kernel_rfl)) ?_; unfold Tryz.f6; simp only [Option.get!_some]
    repeat (first | (simp only [go_sem, Nat.reduceEqDiff, Nat.reduceAdd, Nat.reduceSub, Nat.reduceMul, Nat.reduceLeDiff, Nat.reduceLT, reduceIte, reduceCtorEq, Nat.succ_ne_zero, elemsC, Int.reduceToNat, Nat.reducePow]) | (simp (disch := (first | omega | (simp only [AL, List.length_map]; omega))) only [AR, AL, ifT, ifF, take_all, List.length_cons, List.length_nil, Int.reduceToNat, Int.reducePow, Nat.reducePow]) | (refine wk_intro (by kernel_rfl) ?_) | (refine vp_draw (id := 10) (l := []) (by kernel_rfl) ?_) | (refine vf_of (by first | exact h' | exact r0) ?_))
    rfl
end
end Go.Proofs.YtdnmhnjblgkjaaaGreat
