/- Part 7 of the proof: the evaluator, contracts of functions and their plain laws (joined by program). No condition. -/
import Derived.Test.YtodiciendlhkgaaGreatPart6
/- The document's rationals (vernierref2): Norm, Of, Int, limbs, Same, Mul, Add, in the evaluator. -/
namespace Go.Proofs.YtodiciendlhkgaaGreat
set_option linter.unusedSimpArgs false
set_option linter.unusedVariables false
set_option maxRecDepth 8000
open Go.Ev
theorem ref2_Norm {v : SV} {q : Rat} {L : Nat} (h : RatA v q L) (hL : L ≤ 16777216) : Go.Ev.Fn CX 25 [v] (rv q) := by
  obtain ⟨s, n, d, rfl, hn, hd, hl, hm, rfl⟩ := h
  have lx := lim_length_le hn
  have ly := lim_length_le hd
  have tn := ref1_Trim n hn (by omega)
  have td := ref1_Trim d hd (by omega)
  refine Go.Ev.Fn.intro (fn := Tryz.f25) (body := (Tryz.f25).body.get!) (by kernel_rfl) (by kernel_rfl) (by kernel_rfl) (fun _ => rfl) (Nat.le_of_ble_eq_true (by kernel_rfl)) ?_; unfold Tryz.f25; simp only [Option.get!_some]
  generalize wth n = N at *
  generalize wth d = D at *
  repeat (first | (simp only [go_sem, Nat.reduceEqDiff, Nat.reduceAdd, Nat.reduceSub, Nat.reduceMul, Nat.reduceLeDiff, Nat.reduceLT, reduceIte, reduceCtorEq, Nat.succ_ne_zero, elemsC, Int.reduceToNat, Nat.reducePow]) | (simp (disch := (first | omega | (simp only [AL, List.length_map]; omega))) only [AR, AL, ifT, ifF, take_all, List.length_cons, List.length_nil, Int.reduceToNat, Int.reducePow, Nat.reducePow]) | (refine wk_intro (by kernel_rfl) ?_) | (refine vp_draw (id := 1) (l := [7, 10]) (by kernel_rfl) ?_) | (refine vf_of (by first | exact tn | exact td) ?_))
  by_cases h : N = 0 ∨ D = 0
  · rw [mk_zero s h, rv_zero]
    by_cases hD : D = 0
    · have h0 : (lim D).length = 0 := by rw [hD, lim_zero]; rfl
      repeat (first | (simp only [go_sem, Nat.reduceEqDiff, Nat.reduceAdd, Nat.reduceSub, Nat.reduceMul, Nat.reduceLeDiff, Nat.reduceLT, reduceIte, reduceCtorEq, Nat.succ_ne_zero, elemsC, Int.reduceToNat, Nat.reducePow]) | (simp (disch := (first | omega | (simp only [AL, List.length_map]; omega))) only [AR, AL, ifT, ifF, take_all, List.length_cons, List.length_nil, Int.reduceToNat, Int.reducePow, Nat.reducePow]) | (refine wk_intro (by kernel_rfl) ?_) | (refine vp_draw (id := 1) (l := [7, 10]) (by kernel_rfl) ?_))
      rfl
    · have h0 : (lim N).length = 0 := by rw [h.resolve_right hD, lim_zero]; rfl
      have h1 := lim_pos hD
      repeat (first | (simp only [go_sem, Nat.reduceEqDiff, Nat.reduceAdd, Nat.reduceSub, Nat.reduceMul, Nat.reduceLeDiff, Nat.reduceLT, reduceIte, reduceCtorEq, Nat.succ_ne_zero, elemsC, Int.reduceToNat, Nat.reducePow]) | (simp (disch := (first | omega | (simp only [AL, List.length_map]; omega))) only [AR, AL, ifT, ifF, take_all, List.length_cons, List.length_nil, Int.reduceToNat, Int.reducePow, Nat.reducePow]) | (refine wk_intro (by kernel_rfl) ?_) | (refine vp_draw (id := 1) (l := [7, 10]) (by kernel_rfl) ?_))
      rfl
  · have hN : N ≠ 0 := fun e => h (.inl e)
    have hD : D ≠ 0 := fun e => h (.inr e)
    rw [mk_parts s hN hD]
    have h1 := lim_pos hN
    have h2 := lim_pos hD
    have hg : N.gcd D ≠ 0 := Nat.ne_of_gt (Nat.gcd_pos_of_pos_left _ (by omega))
    have h3 := lim_len_mono (Nat.gcd_le_left D (by omega : 0 < N))
    repeat (first | (simp only [go_sem, Nat.reduceEqDiff, Nat.reduceAdd, Nat.reduceSub, Nat.reduceMul, Nat.reduceLeDiff, Nat.reduceLT, reduceIte, reduceCtorEq, Nat.succ_ne_zero, elemsC, Int.reduceToNat, Nat.reducePow]) | (simp (disch := (first | omega | (simp only [AL, List.length_map]; omega))) only [AR, AL, ifT, ifF, take_all, List.length_cons, List.length_nil, Int.reduceToNat, Int.reducePow, Nat.reducePow]) | (refine wk_intro (by kernel_rfl) ?_) | (refine vp_draw (id := 1) (l := [7, 10]) (by kernel_rfl) ?_))
    refine vf_of (ref1_GcdL (by omega) (by omega)) ?_; repeat (first | (simp only [go_sem, Nat.reduceEqDiff, Nat.reduceAdd, Nat.reduceSub, Nat.reduceMul, Nat.reduceLeDiff, Nat.reduceLT, reduceIte, reduceCtorEq, Nat.succ_ne_zero, elemsC, Int.reduceToNat, Nat.reducePow]) | (simp (disch := (first | omega | (simp only [AL, List.length_map]; omega))) only [AR, AL, ifT, ifF, take_all, List.length_cons, List.length_nil, Int.reduceToNat, Int.reducePow, Nat.reducePow]) | (refine wk_intro (by kernel_rfl) ?_) | (refine vp_draw (id := 1) (l := [7, 10]) (by kernel_rfl) ?_))
    refine vf_of (ref1_DivL hg (by omega) (by omega)) ?_; repeat (first | (simp only [go_sem, Nat.reduceEqDiff, Nat.reduceAdd, Nat.reduceSub, Nat.reduceMul, Nat.reduceLeDiff, Nat.reduceLT, reduceIte, reduceCtorEq, Nat.succ_ne_zero, elemsC, Int.reduceToNat, Nat.reducePow]) | (simp (disch := (first | omega | (simp only [AL, List.length_map]; omega))) only [AR, AL, ifT, ifF, take_all, List.length_cons, List.length_nil, Int.reduceToNat, Int.reducePow, Nat.reducePow]) | (refine wk_intro (by kernel_rfl) ?_) | (refine vp_draw (id := 1) (l := [7, 10]) (by kernel_rfl) ?_))
    refine vf_of (ref1_DivL hg (by omega) (by omega)) ?_; repeat (first | (simp only [go_sem, Nat.reduceEqDiff, Nat.reduceAdd, Nat.reduceSub, Nat.reduceMul, Nat.reduceLeDiff, Nat.reduceLT, reduceIte, reduceCtorEq, Nat.succ_ne_zero, elemsC, Int.reduceToNat, Nat.reducePow]) | (simp (disch := (first | omega | (simp only [AL, List.length_map]; omega))) only [AR, AL, ifT, ifF, take_all, List.length_cons, List.length_nil, Int.reduceToNat, Int.reducePow, Nat.reducePow]) | (refine wk_intro (by kernel_rfl) ?_) | (refine vp_draw (id := 1) (l := [7, 10]) (by kernel_rfl) ?_))
theorem ref2_Of (s : Bool) (n d : List Nat) (hn : okL n) (hd : okL d) (hl : n.length ≤ 16777216) (hm : d.length ≤ 16777216) :
    Go.Ev.Fn CX 21 [.bool s, natV n, natV d] (rv (mkRat (sgn s (wth n)) (wth d))) := by
  have hN := ref2_Norm (v := ratV s n d) (L := 16777216) ⟨s, n, d, rfl, hn, hd, hl, hm, rfl⟩ (by omega)
  refine Go.Ev.Fn.intro (fn := Tryz.f21) (body := (Tryz.f21).body.get!) (by kernel_rfl) (by kernel_rfl) (by kernel_rfl) (fun _ => rfl) (Nat.le_of_ble_eq_true (by kernel_rfl)) ?_; unfold Tryz.f21; simp only [Option.get!_some]
  repeat (first | (simp only [go_sem, Nat.reduceEqDiff, Nat.reduceAdd, Nat.reduceSub, Nat.reduceMul, Nat.reduceLeDiff, Nat.reduceLT, reduceIte, reduceCtorEq, Nat.succ_ne_zero, elemsC, Int.reduceToNat, Nat.reducePow]) | (simp (disch := (first | omega | (simp only [AL, List.length_map]; omega))) only [AR, AL, ifT, ifF, take_all, List.length_cons, List.length_nil, Int.reduceToNat, Int.reducePow, Nat.reducePow]) | (refine wk_intro (by kernel_rfl) ?_) | (refine vf_of (by first | exact hN) ?_))
theorem ref2_OfL {s : Bool} {n d : Nat} (hl : (lim n).length ≤ 16777216) (hm : (lim d).length ≤ 16777216) :
    Go.Ev.Fn CX 21 [.bool s, natV (lim n), natV (lim d)] (rv (mkRat (sgn s n) d)) := by
  have h := ref2_Of s (lim n) (lim d) (okL_lim _) (okL_lim _) hl hm
  rwa [wth_lim, wth_lim] at h
theorem ref2_Mul {v w : SV} {q r : Rat} {L M : Nat} (hv : RatA v q L) (hw : RatA w r M) (hL : 1 ≤ L) (hM : 1 ≤ M) (h : L + M ≤ 8388608) : Go.Ev.Fn CX 10 [v, w] (rv (q * r)) := by
  have hnv := ref2_Norm hv (by omega)
  have hnw := ref2_Norm hw (by omega)
  obtain ⟨z1, z2⟩ := szR_of hv hL
  obtain ⟨y1, y2⟩ := szR_of hw hM
  have g1 := lim_len_mul (a := q.num.natAbs) (b := r.num.natAbs)
  have g2 := lim_len_mul (a := q.den) (b := r.den)
  have hOf := ref2_OfL (s := !(decide (q.num < 0) == decide (r.num < 0))) (n := q.num.natAbs * r.num.natAbs) (d := q.den * r.den) (by omega) (by omega)
  rw [mul_parts] at hOf
  obtain ⟨s, n, d, rfl, -⟩ := hv
  obtain ⟨s', n', d', rfl, -⟩ := hw
  refine Go.Ev.Fn.intro (fn := Tryz.f10) (body := (Tryz.f10).body.get!) (by kernel_rfl) (by kernel_rfl) (by kernel_rfl) (fun _ => rfl) (Nat.le_of_ble_eq_true (by kernel_rfl)) ?_; unfold Tryz.f10; simp only [Option.get!_some]
  repeat (first | (simp only [go_sem, Nat.reduceEqDiff, Nat.reduceAdd, Nat.reduceSub, Nat.reduceMul, Nat.reduceLeDiff, Nat.reduceLT, reduceIte, reduceCtorEq, Nat.succ_ne_zero, elemsC, Int.reduceToNat, Nat.reducePow]) | (simp (disch := (first | omega | (simp only [AL, List.length_map]; omega))) only [AR, AL, ifT, ifF, take_all, List.length_cons, List.length_nil, Int.reduceToNat, Int.reducePow, Nat.reducePow]) | (refine wk_intro (by kernel_rfl) ?_) | (refine vp_draw (id := 1) (l := []) (by kernel_rfl) ?_) | (refine vp_draw (id := 2) (l := [17, 19, 22, 24, 20, 25]) (by kernel_rfl) ?_) | (refine vf_of (by first | exact hnv | exact hnw) ?_))
  refine vf_of (ref1_MulL (by omega) (by omega)) ?_; repeat (first | (simp only [go_sem, Nat.reduceEqDiff, Nat.reduceAdd, Nat.reduceSub, Nat.reduceMul, Nat.reduceLeDiff, Nat.reduceLT, reduceIte, reduceCtorEq, Nat.succ_ne_zero, elemsC, Int.reduceToNat, Nat.reducePow]) | (simp (disch := (first | omega | (simp only [AL, List.length_map]; omega))) only [AR, AL, ifT, ifF, take_all, List.length_cons, List.length_nil, Int.reduceToNat, Int.reducePow, Nat.reducePow]) | (refine wk_intro (by kernel_rfl) ?_) | (refine vp_draw (id := 1) (l := []) (by kernel_rfl) ?_) | (refine vp_draw (id := 2) (l := [17, 19, 22, 24, 20, 25]) (by kernel_rfl) ?_))
  refine vf_of (ref1_MulL (by omega) (by omega)) ?_; repeat (first | (simp only [go_sem, Nat.reduceEqDiff, Nat.reduceAdd, Nat.reduceSub, Nat.reduceMul, Nat.reduceLeDiff, Nat.reduceLT, reduceIte, reduceCtorEq, Nat.succ_ne_zero, elemsC, Int.reduceToNat, Nat.reducePow]) | (simp (disch := (first | omega | (simp only [AL, List.length_map]; omega))) only [AR, AL, ifT, ifF, take_all, List.length_cons, List.length_nil, Int.reduceToNat, Int.reducePow, Nat.reducePow]) | (refine wk_intro (by kernel_rfl) ?_) | (refine vp_draw (id := 1) (l := []) (by kernel_rfl) ?_) | (refine vp_draw (id := 2) (l := [17, 19, 22, 24, 20, 25]) (by kernel_rfl) ?_))
  refine vf_of (hOf) ?_; repeat (first | (simp only [go_sem, Nat.reduceEqDiff, Nat.reduceAdd, Nat.reduceSub, Nat.reduceMul, Nat.reduceLeDiff, Nat.reduceLT, reduceIte, reduceCtorEq, Nat.succ_ne_zero, elemsC, Int.reduceToNat, Nat.reducePow]) | (simp (disch := (first | omega | (simp only [AL, List.length_map]; omega))) only [AR, AL, ifT, ifF, take_all, List.length_cons, List.length_nil, Int.reduceToNat, Int.reducePow, Nat.reducePow]) | (refine wk_intro (by kernel_rfl) ?_) | (refine vp_draw (id := 1) (l := []) (by kernel_rfl) ?_) | (refine vp_draw (id := 2) (l := [17, 19, 22, 24, 20, 25]) (by kernel_rfl) ?_))
theorem ref2_limbs (a b : List Nat) (ha : a.length ≤ 274877906944) (hb : b.length ≤ 274877906944) : Go.Ev.Fn CX 66 [natV a, natV b] (.bool (decide (a = b))) := by
  refine Go.Ev.Fn.intro (fn := Tryz.f66) (body := (Tryz.f66).body.get!) (by kernel_rfl) (by kernel_rfl) (by kernel_rfl) (fun _ => rfl) (Nat.le_of_ble_eq_true (by kernel_rfl)) ?_; unfold Tryz.f66; simp only [Option.get!_some]
  by_cases hl : a.length = b.length
  · repeat (first | (simp only [go_sem, Nat.reduceEqDiff, Nat.reduceAdd, Nat.reduceSub, Nat.reduceMul, Nat.reduceLeDiff, Nat.reduceLT, reduceIte, reduceCtorEq, Nat.succ_ne_zero, elemsC, Int.reduceToNat, Nat.reducePow]) | (simp (disch := (first | omega | (simp only [AL, List.length_map]; omega))) only [AR, AL, ifT, ifF, take_all, List.length_cons, List.length_nil, Int.reduceToNat, Int.reducePow, Nat.reducePow]) | (refine wk_intro (by kernel_rfl) ?_) | (refine vp_draw (id := 6) (l := []) (by kernel_rfl) ?_))
    refine vp_loop_inv (fun s => s.tmp 0 = .sv (natV a) ∧ s.tmp 1 = .sv (natV b) ∧ ∃ i : Nat, s.tmp 5 = .sv (.int .i64 i) ∧ i ≤ a.length ∧ a.take i = b.take i) (fun s => match s.tmp 5 with | .sv (.int _ i) => a.length - i.toNat | _ => 0) ⟨rfl, rfl, 0, rfl, by omega, rfl⟩ ?_
    rintro s ⟨i0, i1, i, i5, hi, ht⟩
    by_cases hend : i = a.length
    · subst hend
      rw [List.take_length, hl, List.take_length] at ht
      rw [decide_eq_true ht]
      repeat (first | (simp only [go_sem, Nat.reduceEqDiff, Nat.reduceAdd, Nat.reduceSub, Nat.reduceMul, Nat.reduceLeDiff, Nat.reduceLT, reduceIte, reduceCtorEq, Nat.succ_ne_zero, elemsC, Int.reduceToNat, Nat.reducePow, i0, i1, i5]) | (simp (disch := (first | omega | (simp only [AL, List.length_map]; omega))) only [AR, AL, ifT, ifF, take_all, List.length_cons, List.length_nil, Int.reduceToNat, Int.reducePow, Nat.reducePow, i0, i1, i5]) | (refine wk_intro (by kernel_rfl) ?_) | (refine vp_draw (id := 6) (l := []) (by kernel_rfl) ?_))
    · have e : ∀ c : List Nat, i < c.length → c.take (i + 1) = c.take i ++ [c.getD i 0] := by
        intro c hc
        rw [List.take_add_one, List.getD_eq_getElem?_getD, List.getElem?_eq_getElem hc]
        rfl
      by_cases hx : a.getD i 0 = b.getD i 0
      · repeat (first | (simp only [go_sem, Nat.reduceEqDiff, Nat.reduceAdd, Nat.reduceSub, Nat.reduceMul, Nat.reduceLeDiff, Nat.reduceLT, reduceIte, reduceCtorEq, Nat.succ_ne_zero, elemsC, Int.reduceToNat, Nat.reducePow, i0, i1, i5]) | (simp (disch := (first | omega | (simp only [AL, List.length_map]; omega))) only [AR, AL, ifT, ifF, take_all, List.length_cons, List.length_nil, Int.reduceToNat, Int.reducePow, Nat.reducePow, i0, i1, i5]) | (refine wk_intro (by kernel_rfl) ?_) | (refine vp_draw (id := 6) (l := []) (by kernel_rfl) ?_))
        exact ⟨⟨i + 1, rfl, by omega, by rw [e a (by omega), e b (by omega), ht, hx]⟩, by omega⟩
      · rw [decide_eq_false (fun h => hx (by rw [h]))]
        repeat (first | (simp only [go_sem, Nat.reduceEqDiff, Nat.reduceAdd, Nat.reduceSub, Nat.reduceMul, Nat.reduceLeDiff, Nat.reduceLT, reduceIte, reduceCtorEq, Nat.succ_ne_zero, elemsC, Int.reduceToNat, Nat.reducePow, i0, i1, i5]) | (simp (disch := (first | omega | (simp only [AL, List.length_map]; omega))) only [AR, AL, ifT, ifF, take_all, List.length_cons, List.length_nil, Int.reduceToNat, Int.reducePow, Nat.reducePow, i0, i1, i5]) | (refine wk_intro (by kernel_rfl) ?_) | (refine vp_draw (id := 6) (l := []) (by kernel_rfl) ?_))
  · rw [decide_eq_false (fun h => hl (by rw [h]))]
    repeat (first | (simp only [go_sem, Nat.reduceEqDiff, Nat.reduceAdd, Nat.reduceSub, Nat.reduceMul, Nat.reduceLeDiff, Nat.reduceLT, reduceIte, reduceCtorEq, Nat.succ_ne_zero, elemsC, Int.reduceToNat, Nat.reducePow]) | (simp (disch := (first | omega | (simp only [AL, List.length_map]; omega))) only [AR, AL, ifT, ifF, take_all, List.length_cons, List.length_nil, Int.reduceToNat, Int.reducePow, Nat.reducePow]) | (refine wk_intro (by kernel_rfl) ?_) | (refine vp_draw (id := 6) (l := []) (by kernel_rfl) ?_))
theorem rv_eq {q r : Rat} (h1 : decide (q.num < 0) = decide (r.num < 0)) (h2 : lim q.num.natAbs = lim r.num.natAbs) (h3 : lim q.den = lim r.den) : q = r := by
  have h4 := lim_inj h2
  have h5 := lim_inj h3
  refine Rat.ext ?_ h5
  by_cases h : q.num < 0
  · rw [decide_eq_true h] at h1
    have := of_decide_eq_true h1.symm
    omega
  · rw [decide_eq_false h] at h1
    have := of_decide_eq_false h1.symm
    omega
theorem ref2_Same {v w : SV} {q r : Rat} {L M : Nat} (hv : RatA v q L) (hw : RatA w r M) (hL : 1 ≤ L) (hM : 1 ≤ M) (h : L + M ≤ 8388608) : Go.Ev.Fn CX 30 [v, w] (.bool (decide (q = r))) := by
  have hnv := ref2_Norm hv (by omega)
  have hnw := ref2_Norm hw (by omega)
  obtain ⟨z1, z2⟩ := szR_of hv hL
  obtain ⟨y1, y2⟩ := szR_of hw hM
  have l1 := ref2_limbs (lim q.num.natAbs) (lim r.num.natAbs) (by omega) (by omega)
  have l2 := ref2_limbs (lim q.den) (lim r.den) (by omega) (by omega)
  have hbb := beq_bool (decide (q.num < 0)) (decide (r.num < 0))
  obtain ⟨s, n, d, rfl, -⟩ := hv
  obtain ⟨s', n', d', rfl, -⟩ := hw
  refine Go.Ev.Fn.intro (fn := Tryz.f30) (body := (Tryz.f30).body.get!) (by kernel_rfl) (by kernel_rfl) (by kernel_rfl) (fun _ => rfl) (Nat.le_of_ble_eq_true (by kernel_rfl)) ?_; unfold Tryz.f30; simp only [Option.get!_some]
  repeat (first | (simp only [go_sem, Nat.reduceEqDiff, Nat.reduceAdd, Nat.reduceSub, Nat.reduceMul, Nat.reduceLeDiff, Nat.reduceLT, reduceIte, reduceCtorEq, Nat.succ_ne_zero, elemsC, Int.reduceToNat, Nat.reducePow, hbb]) | (simp (disch := (first | omega | (simp only [AL, List.length_map]; omega))) only [AR, AL, ifT, ifF, take_all, List.length_cons, List.length_nil, Int.reduceToNat, Int.reducePow, Nat.reducePow, hbb]) | (refine wk_intro (by kernel_rfl) ?_) | (refine vp_draw (id := 1) (l := []) (by kernel_rfl) ?_) | (refine vf_of (by first | exact hnv | exact hnw) ?_))
  by_cases h1 : decide (q.num < 0) = decide (r.num < 0)
  · rw [decide_eq_true h1]
    by_cases h2 : lim q.num.natAbs = lim r.num.natAbs
    · rw [decide_eq_true h2] at l1
      repeat (first | (simp only [go_sem, Nat.reduceEqDiff, Nat.reduceAdd, Nat.reduceSub, Nat.reduceMul, Nat.reduceLeDiff, Nat.reduceLT, reduceIte, reduceCtorEq, Nat.succ_ne_zero, elemsC, Int.reduceToNat, Nat.reducePow]) | (simp (disch := (first | omega | (simp only [AL, List.length_map]; omega))) only [AR, AL, ifT, ifF, take_all, List.length_cons, List.length_nil, Int.reduceToNat, Int.reducePow, Nat.reducePow]) | (refine wk_intro (by kernel_rfl) ?_) | (refine vp_draw (id := 1) (l := []) (by kernel_rfl) ?_))
      have e : decide (lim q.den = lim r.den) = decide (q = r) := by
        by_cases h3 : lim q.den = lim r.den
        · rw [decide_eq_true h3, decide_eq_true (rv_eq h1 h2 h3)]
        · rw [decide_eq_false h3, decide_eq_false (fun e => h3 (by rw [e]))]
      rw [e] at l2
      repeat (first | (simp only [go_sem, Nat.reduceEqDiff, Nat.reduceAdd, Nat.reduceSub, Nat.reduceMul, Nat.reduceLeDiff, Nat.reduceLT, reduceIte, reduceCtorEq, Nat.succ_ne_zero, elemsC, Int.reduceToNat, Nat.reducePow]) | (simp (disch := (first | omega | (simp only [AL, List.length_map]; omega))) only [AR, AL, ifT, ifF, take_all, List.length_cons, List.length_nil, Int.reduceToNat, Int.reducePow, Nat.reducePow]) | (refine wk_intro (by kernel_rfl) ?_) | (refine vp_draw (id := 1) (l := []) (by kernel_rfl) ?_) | (refine vf_of (by first | exact l1 | exact l2) ?_))
    · rw [decide_eq_false h2] at l1
      have hne : q ≠ r := fun e => h2 (by rw [e])
      rw [decide_eq_false hne]
      repeat (first | (simp only [go_sem, Nat.reduceEqDiff, Nat.reduceAdd, Nat.reduceSub, Nat.reduceMul, Nat.reduceLeDiff, Nat.reduceLT, reduceIte, reduceCtorEq, Nat.succ_ne_zero, elemsC, Int.reduceToNat, Nat.reducePow]) | (simp (disch := (first | omega | (simp only [AL, List.length_map]; omega))) only [AR, AL, ifT, ifF, take_all, List.length_cons, List.length_nil, Int.reduceToNat, Int.reducePow, Nat.reducePow]) | (refine wk_intro (by kernel_rfl) ?_) | (refine vp_draw (id := 1) (l := []) (by kernel_rfl) ?_) | (refine vf_of (by first | exact l1) ?_))
  · have hne : q ≠ r := fun e => h1 (by rw [e])
    rw [decide_eq_false h1, decide_eq_false hne]
    repeat (first | (simp only [go_sem, Nat.reduceEqDiff, Nat.reduceAdd, Nat.reduceSub, Nat.reduceMul, Nat.reduceLeDiff, Nat.reduceLT, reduceIte, reduceCtorEq, Nat.succ_ne_zero, elemsC, Int.reduceToNat, Nat.reducePow]) | (simp (disch := (first | omega | (simp only [AL, List.length_map]; omega))) only [AR, AL, ifT, ifF, take_all, List.length_cons, List.length_nil, Int.reduceToNat, Int.reducePow, Nat.reducePow]) | (refine wk_intro (by kernel_rfl) ?_) | (refine vp_draw (id := 1) (l := []) (by kernel_rfl) ?_))
theorem ref2_Int (n : Int) (h : -9223372036854775808 ≤ n ∧ n < 9223372036854775808) : Go.Ev.Fn CX 7 [.int .i64 n] (rv (n : Rat)) := by
  have oN := ref1_Of n.natAbs (by omega)
  have e1 := int_u64 h
  have hl := lim_two (v := n.natAbs) |>.2 (by omega)
  have hOf := ref2_OfL (s := decide (n < 0)) (n := n.natAbs) (d := 1) (by omega) (by rw [lim_one]; simp)
  rw [lim_one, sgn_self, show mkRat n 1 = (n : Rat) from Rat.mkRat_one n] at hOf
  refine Go.Ev.Fn.intro (fn := Tryz.f7) (body := (Tryz.f7).body.get!) (by kernel_rfl) (by kernel_rfl) (by kernel_rfl) (fun _ => rfl) (Nat.le_of_ble_eq_true (by kernel_rfl)) ?_; unfold Tryz.f7; simp only [Option.get!_some]
  by_cases h0 : n < 0
  · rw [if_pos h0] at e1
    rw [decide_eq_true h0] at hOf
    have e2 : IntKind.u64.wrap (0 - ((18446744073709551616 - n.natAbs : Nat) : Int)) = (n.natAbs : Int) := by rw [IntKind.wrap_u64]; omega
    repeat (first | (simp only [go_sem, Nat.reduceEqDiff, Nat.reduceAdd, Nat.reduceSub, Nat.reduceMul, Nat.reduceLeDiff, Nat.reduceLT, reduceIte, reduceCtorEq, Nat.succ_ne_zero, elemsC, Int.reduceToNat, Nat.reducePow, e1, e2]) | (simp (disch := (first | omega | (simp only [AL, List.length_map]; omega))) only [AR, AL, ifT, ifF, take_all, List.length_cons, List.length_nil, Int.reduceToNat, Int.reducePow, Nat.reducePow, e1, e2]) | (refine wk_intro (by kernel_rfl) ?_) | (refine vf_of (by first | exact oN | exact hOf) ?_))
  · rw [if_neg h0] at e1
    rw [decide_eq_false h0] at hOf
    repeat (first | (simp only [go_sem, Nat.reduceEqDiff, Nat.reduceAdd, Nat.reduceSub, Nat.reduceMul, Nat.reduceLeDiff, Nat.reduceLT, reduceIte, reduceCtorEq, Nat.succ_ne_zero, elemsC, Int.reduceToNat, Nat.reducePow, e1]) | (simp (disch := (first | omega | (simp only [AL, List.length_map]; omega))) only [AR, AL, ifT, ifF, take_all, List.length_cons, List.length_nil, Int.reduceToNat, Int.reducePow, Nat.reducePow, e1]) | (refine wk_intro (by kernel_rfl) ?_) | (refine vf_of (by first | exact oN | exact hOf) ?_))
theorem ref2_Add {v w : SV} {q r : Rat} {L M : Nat} (hv : RatA v q L) (hw : RatA w r M) (hL : 1 ≤ L) (hM : 1 ≤ M) (h : L + M ≤ 8388608) : Go.Ev.Fn CX 44 [v, w] (rv (q + r)) := by
  have hnv := ref2_Norm hv (by omega)
  have hnw := ref2_Norm hw (by omega)
  obtain ⟨z1, z2⟩ := szR_of hv hL
  obtain ⟨y1, y2⟩ := szR_of hw hM
  have g1 := lim_len_mul (a := q.num.natAbs) (b := r.den)
  have g2 := lim_len_mul (a := r.num.natAbs) (b := q.den)
  have g3 := lim_len_mul (a := q.den) (b := r.den)
  have g4 := lim_len_add2 (a := q.num.natAbs * r.den) (b := r.num.natAbs * q.den) (L := L + M) (by omega) (by omega)
  have g5 := lim_len_mono (Nat.sub_le (q.num.natAbs * r.den) (r.num.natAbs * q.den))
  have g6 := lim_len_mono (Nat.sub_le (r.num.natAbs * q.den) (q.num.natAbs * r.den))
  obtain ⟨s, n, d, rfl, -⟩ := hv
  obtain ⟨s', n', d', rfl, -⟩ := hw
  have hbb := beq_bool (decide (q.num < 0)) (decide (r.num < 0))
  refine Go.Ev.Fn.intro (fn := Tryz.f44) (body := (Tryz.f44).body.get!) (by kernel_rfl) (by kernel_rfl) (by kernel_rfl) (fun _ => rfl) (Nat.le_of_ble_eq_true (by kernel_rfl)) ?_; unfold Tryz.f44; simp only [Option.get!_some]
  repeat (first | (simp only [go_sem, Nat.reduceEqDiff, Nat.reduceAdd, Nat.reduceSub, Nat.reduceMul, Nat.reduceLeDiff, Nat.reduceLT, reduceIte, reduceCtorEq, Nat.succ_ne_zero, elemsC, Int.reduceToNat, Nat.reducePow]) | (simp (disch := (first | omega | (simp only [AL, List.length_map]; omega))) only [AR, AL, ifT, ifF, take_all, List.length_cons, List.length_nil, Int.reduceToNat, Int.reducePow, Nat.reducePow]) | (refine wk_intro (by kernel_rfl) ?_) | (refine vp_draw (id := 1) (l := []) (by kernel_rfl) ?_) | (refine vp_draw (id := 2) (l := [19, 21, 24, 26]) (by kernel_rfl) ?_) | (refine vp_draw (id := 5) (l := [7, 8, 42, 9]) (by kernel_rfl) ?_) | (refine vf_of (by first | exact hnv | exact hnw) ?_))
  refine vf_of (ref1_MulL (by omega) (by omega)) ?_; repeat (first | (simp only [go_sem, Nat.reduceEqDiff, Nat.reduceAdd, Nat.reduceSub, Nat.reduceMul, Nat.reduceLeDiff, Nat.reduceLT, reduceIte, reduceCtorEq, Nat.succ_ne_zero, elemsC, Int.reduceToNat, Nat.reducePow]) | (simp (disch := (first | omega | (simp only [AL, List.length_map]; omega))) only [AR, AL, ifT, ifF, take_all, List.length_cons, List.length_nil, Int.reduceToNat, Int.reducePow, Nat.reducePow]) | (refine wk_intro (by kernel_rfl) ?_) | (refine vp_draw (id := 1) (l := []) (by kernel_rfl) ?_) | (refine vp_draw (id := 2) (l := [19, 21, 24, 26]) (by kernel_rfl) ?_) | (refine vp_draw (id := 5) (l := [7, 8, 42, 9]) (by kernel_rfl) ?_))
  refine vf_of (ref1_MulL (by omega) (by omega)) ?_; repeat (first | (simp only [go_sem, Nat.reduceEqDiff, Nat.reduceAdd, Nat.reduceSub, Nat.reduceMul, Nat.reduceLeDiff, Nat.reduceLT, reduceIte, reduceCtorEq, Nat.succ_ne_zero, elemsC, Int.reduceToNat, Nat.reducePow]) | (simp (disch := (first | omega | (simp only [AL, List.length_map]; omega))) only [AR, AL, ifT, ifF, take_all, List.length_cons, List.length_nil, Int.reduceToNat, Int.reducePow, Nat.reducePow]) | (refine wk_intro (by kernel_rfl) ?_) | (refine vp_draw (id := 1) (l := []) (by kernel_rfl) ?_) | (refine vp_draw (id := 2) (l := [19, 21, 24, 26]) (by kernel_rfl) ?_) | (refine vp_draw (id := 5) (l := [7, 8, 42, 9]) (by kernel_rfl) ?_))
  refine vf_of (ref1_MulL (by omega) (by omega)) ?_; repeat (first | (simp only [go_sem, Nat.reduceEqDiff, Nat.reduceAdd, Nat.reduceSub, Nat.reduceMul, Nat.reduceLeDiff, Nat.reduceLT, reduceIte, reduceCtorEq, Nat.succ_ne_zero, elemsC, Int.reduceToNat, Nat.reducePow, hbb]) | (simp (disch := (first | omega | (simp only [AL, List.length_map]; omega))) only [AR, AL, ifT, ifF, take_all, List.length_cons, List.length_nil, Int.reduceToNat, Int.reducePow, Nat.reducePow, hbb]) | (refine wk_intro (by kernel_rfl) ?_) | (refine vp_draw (id := 1) (l := []) (by kernel_rfl) ?_) | (refine vp_draw (id := 2) (l := [19, 21, 24, 26]) (by kernel_rfl) ?_) | (refine vp_draw (id := 5) (l := [7, 8, 42, 9]) (by kernel_rfl) ?_))
  by_cases hs : decide (q.num < 0) = decide (r.num < 0)
  · have hOf := ref2_OfL (s := decide (q.num < 0)) (n := q.num.natAbs * r.den + r.num.natAbs * q.den) (d := q.den * r.den) (by omega) (by omega)
    rw [add_same q r hs] at hOf
    rw [decide_eq_true hs]
    repeat (first | (simp only [go_sem, Nat.reduceEqDiff, Nat.reduceAdd, Nat.reduceSub, Nat.reduceMul, Nat.reduceLeDiff, Nat.reduceLT, reduceIte, reduceCtorEq, Nat.succ_ne_zero, elemsC, Int.reduceToNat, Nat.reducePow]) | (simp (disch := (first | omega | (simp only [AL, List.length_map]; omega))) only [AR, AL, ifT, ifF, take_all, List.length_cons, List.length_nil, Int.reduceToNat, Int.reducePow, Nat.reducePow]) | (refine wk_intro (by kernel_rfl) ?_) | (refine vp_draw (id := 1) (l := []) (by kernel_rfl) ?_) | (refine vp_draw (id := 2) (l := [19, 21, 24, 26]) (by kernel_rfl) ?_) | (refine vp_draw (id := 5) (l := [7, 8, 42, 9]) (by kernel_rfl) ?_))
    refine vf_of (ref1_AddL (by omega) (by omega)) ?_; repeat (first | (simp only [go_sem, Nat.reduceEqDiff, Nat.reduceAdd, Nat.reduceSub, Nat.reduceMul, Nat.reduceLeDiff, Nat.reduceLT, reduceIte, reduceCtorEq, Nat.succ_ne_zero, elemsC, Int.reduceToNat, Nat.reducePow]) | (simp (disch := (first | omega | (simp only [AL, List.length_map]; omega))) only [AR, AL, ifT, ifF, take_all, List.length_cons, List.length_nil, Int.reduceToNat, Int.reducePow, Nat.reducePow]) | (refine wk_intro (by kernel_rfl) ?_) | (refine vp_draw (id := 1) (l := []) (by kernel_rfl) ?_) | (refine vp_draw (id := 2) (l := [19, 21, 24, 26]) (by kernel_rfl) ?_) | (refine vp_draw (id := 5) (l := [7, 8, 42, 9]) (by kernel_rfl) ?_))
    refine vf_of (hOf) ?_; repeat (first | (simp only [go_sem, Nat.reduceEqDiff, Nat.reduceAdd, Nat.reduceSub, Nat.reduceMul, Nat.reduceLeDiff, Nat.reduceLT, reduceIte, reduceCtorEq, Nat.succ_ne_zero, elemsC, Int.reduceToNat, Nat.reducePow]) | (simp (disch := (first | omega | (simp only [AL, List.length_map]; omega))) only [AR, AL, ifT, ifF, take_all, List.length_cons, List.length_nil, Int.reduceToNat, Int.reducePow, Nat.reducePow]) | (refine wk_intro (by kernel_rfl) ?_) | (refine vp_draw (id := 1) (l := []) (by kernel_rfl) ?_) | (refine vp_draw (id := 2) (l := [19, 21, 24, 26]) (by kernel_rfl) ?_) | (refine vp_draw (id := 5) (l := [7, 8, 42, 9]) (by kernel_rfl) ?_))
  · rw [decide_eq_false hs]
    have hc := ref1_CmpL (N := q.num.natAbs * r.den) (D := r.num.natAbs * q.den) (by omega) (by omega)
    repeat (first | (simp only [go_sem, Nat.reduceEqDiff, Nat.reduceAdd, Nat.reduceSub, Nat.reduceMul, Nat.reduceLeDiff, Nat.reduceLT, reduceIte, reduceCtorEq, Nat.succ_ne_zero, elemsC, Int.reduceToNat, Nat.reducePow]) | (simp (disch := (first | omega | (simp only [AL, List.length_map]; omega))) only [AR, AL, ifT, ifF, take_all, List.length_cons, List.length_nil, Int.reduceToNat, Int.reducePow, Nat.reducePow]) | (refine wk_intro (by kernel_rfl) ?_) | (refine vp_draw (id := 1) (l := []) (by kernel_rfl) ?_) | (refine vp_draw (id := 2) (l := [19, 21, 24, 26]) (by kernel_rfl) ?_) | (refine vp_draw (id := 5) (l := [7, 8, 42, 9]) (by kernel_rfl) ?_))
    by_cases h2 : r.num.natAbs * q.den ≤ q.num.natAbs * r.den
    · have hOf := ref2_OfL (s := decide (q.num < 0)) (n := q.num.natAbs * r.den - r.num.natAbs * q.den) (d := q.den * r.den) (by omega) (by omega)
      rw [add_ge q r hs h2] at hOf
      have hcc : decide (cmpN (q.num.natAbs * r.den) (r.num.natAbs * q.den) ≥ 0) = true := by
        have := cmpN_ge h2
        rw [decide_eq_false_iff_not] at this
        exact decide_eq_true (by omega)
      refine vf_of (hc) ?_; repeat (first | (simp only [go_sem, Nat.reduceEqDiff, Nat.reduceAdd, Nat.reduceSub, Nat.reduceMul, Nat.reduceLeDiff, Nat.reduceLT, reduceIte, reduceCtorEq, Nat.succ_ne_zero, elemsC, Int.reduceToNat, Nat.reducePow, hcc]) | (simp (disch := (first | omega | (simp only [AL, List.length_map]; omega))) only [AR, AL, ifT, ifF, take_all, List.length_cons, List.length_nil, Int.reduceToNat, Int.reducePow, Nat.reducePow, hcc]) | (refine wk_intro (by kernel_rfl) ?_) | (refine vp_draw (id := 1) (l := []) (by kernel_rfl) ?_) | (refine vp_draw (id := 2) (l := [19, 21, 24, 26]) (by kernel_rfl) ?_) | (refine vp_draw (id := 5) (l := [7, 8, 42, 9]) (by kernel_rfl) ?_))
      refine vf_of (ref1_SubL (by omega) (by omega)) ?_; repeat (first | (simp only [go_sem, Nat.reduceEqDiff, Nat.reduceAdd, Nat.reduceSub, Nat.reduceMul, Nat.reduceLeDiff, Nat.reduceLT, reduceIte, reduceCtorEq, Nat.succ_ne_zero, elemsC, Int.reduceToNat, Nat.reducePow]) | (simp (disch := (first | omega | (simp only [AL, List.length_map]; omega))) only [AR, AL, ifT, ifF, take_all, List.length_cons, List.length_nil, Int.reduceToNat, Int.reducePow, Nat.reducePow]) | (refine wk_intro (by kernel_rfl) ?_) | (refine vp_draw (id := 1) (l := []) (by kernel_rfl) ?_) | (refine vp_draw (id := 2) (l := [19, 21, 24, 26]) (by kernel_rfl) ?_) | (refine vp_draw (id := 5) (l := [7, 8, 42, 9]) (by kernel_rfl) ?_))
      refine vf_of (hOf) ?_; repeat (first | (simp only [go_sem, Nat.reduceEqDiff, Nat.reduceAdd, Nat.reduceSub, Nat.reduceMul, Nat.reduceLeDiff, Nat.reduceLT, reduceIte, reduceCtorEq, Nat.succ_ne_zero, elemsC, Int.reduceToNat, Nat.reducePow]) | (simp (disch := (first | omega | (simp only [AL, List.length_map]; omega))) only [AR, AL, ifT, ifF, take_all, List.length_cons, List.length_nil, Int.reduceToNat, Int.reducePow, Nat.reducePow]) | (refine wk_intro (by kernel_rfl) ?_) | (refine vp_draw (id := 1) (l := []) (by kernel_rfl) ?_) | (refine vp_draw (id := 2) (l := [19, 21, 24, 26]) (by kernel_rfl) ?_) | (refine vp_draw (id := 5) (l := [7, 8, 42, 9]) (by kernel_rfl) ?_))
    · have hOf := ref2_OfL (s := decide (r.num < 0)) (n := r.num.natAbs * q.den - q.num.natAbs * r.den) (d := q.den * r.den) (by omega) (by omega)
      rw [add_lt q r hs (by omega)] at hOf
      rw [cmpN_lt (by omega)] at hc
      refine vf_of (hc) ?_; repeat (first | (simp only [go_sem, Nat.reduceEqDiff, Nat.reduceAdd, Nat.reduceSub, Nat.reduceMul, Nat.reduceLeDiff, Nat.reduceLT, reduceIte, reduceCtorEq, Nat.succ_ne_zero, elemsC, Int.reduceToNat, Nat.reducePow]) | (simp (disch := (first | omega | (simp only [AL, List.length_map]; omega))) only [AR, AL, ifT, ifF, take_all, List.length_cons, List.length_nil, Int.reduceToNat, Int.reducePow, Nat.reducePow]) | (refine wk_intro (by kernel_rfl) ?_) | (refine vp_draw (id := 1) (l := []) (by kernel_rfl) ?_) | (refine vp_draw (id := 2) (l := [19, 21, 24, 26]) (by kernel_rfl) ?_) | (refine vp_draw (id := 5) (l := [7, 8, 42, 9]) (by kernel_rfl) ?_))
      refine vf_of (ref1_SubL (by omega) (by omega)) ?_; repeat (first | (simp only [go_sem, Nat.reduceEqDiff, Nat.reduceAdd, Nat.reduceSub, Nat.reduceMul, Nat.reduceLeDiff, Nat.reduceLT, reduceIte, reduceCtorEq, Nat.succ_ne_zero, elemsC, Int.reduceToNat, Nat.reducePow]) | (simp (disch := (first | omega | (simp only [AL, List.length_map]; omega))) only [AR, AL, ifT, ifF, take_all, List.length_cons, List.length_nil, Int.reduceToNat, Int.reducePow, Nat.reducePow]) | (refine wk_intro (by kernel_rfl) ?_) | (refine vp_draw (id := 1) (l := []) (by kernel_rfl) ?_) | (refine vp_draw (id := 2) (l := [19, 21, 24, 26]) (by kernel_rfl) ?_) | (refine vp_draw (id := 5) (l := [7, 8, 42, 9]) (by kernel_rfl) ?_))
      refine vf_of (hOf) ?_; repeat (first | (simp only [go_sem, Nat.reduceEqDiff, Nat.reduceAdd, Nat.reduceSub, Nat.reduceMul, Nat.reduceLeDiff, Nat.reduceLT, reduceIte, reduceCtorEq, Nat.succ_ne_zero, elemsC, Int.reduceToNat, Nat.reducePow]) | (simp (disch := (first | omega | (simp only [AL, List.length_map]; omega))) only [AR, AL, ifT, ifF, take_all, List.length_cons, List.length_nil, Int.reduceToNat, Int.reducePow, Nat.reducePow]) | (refine wk_intro (by kernel_rfl) ?_) | (refine vp_draw (id := 1) (l := []) (by kernel_rfl) ?_) | (refine vp_draw (id := 2) (l := [19, 21, 24, 26]) (by kernel_rfl) ?_) | (refine vp_draw (id := 5) (l := [7, 8, 42, 9]) (by kernel_rfl) ?_))
end Go.Proofs.YtodiciendlhkgaaGreat

/- Sizes of sums, products, quotients; vernierref2.Div, Neg, Sub, Cmp; rat.Cmp, in the evaluator. -/
namespace Go.Proofs.YtodiciendlhkgaaGreat
set_option linter.unusedSimpArgs false
set_option linter.unusedVariables false
set_option maxRecDepth 8000
open Go.Ev
theorem szR_zero {L : Nat} (h : 1 ≤ L) : szR 0 L := ⟨by rw [show (0 : Rat).num.natAbs = 0 by rfl, lim_zero]; simp, by rw [show (0 : Rat).den = 1 by rfl, lim_one]; exact h⟩
theorem szR_mul {q r : Rat} {L M : Nat} (h1 : szR q L) (h2 : szR r M) (hL : 1 ≤ L) : szR (q * r) (L + M) := by
  rw [← mul_parts]
  have g1 := lim_len_mul (a := q.num.natAbs) (b := r.num.natAbs)
  have g2 := lim_len_mul (a := q.den) (b := r.den)
  obtain ⟨a1, a2⟩ := h1
  obtain ⟨b1, b2⟩ := h2
  exact szR_mk (by omega) (by omega) (by omega)
theorem szR_add {q r : Rat} {L M : Nat} (h1 : szR q L) (h2 : szR r M) (hL : 1 ≤ L) : szR (q + r) (L + M + 1) := by
  have g1 := lim_len_mul (a := q.num.natAbs) (b := r.den)
  have g2 := lim_len_mul (a := r.num.natAbs) (b := q.den)
  have g3 := lim_len_mul (a := q.den) (b := r.den)
  obtain ⟨a1, a2⟩ := h1
  obtain ⟨b1, b2⟩ := h2
  have g4 := lim_len_add2 (a := q.num.natAbs * r.den) (b := r.num.natAbs * q.den) (L := L + M) (by omega) (by omega)
  have e : q + r = mkRat (sgn (decide (sgn (decide (q.num < 0)) (q.num.natAbs * r.den) + sgn (decide (r.num < 0)) (r.num.natAbs * q.den) < 0)) (sgn (decide (q.num < 0)) (q.num.natAbs * r.den) + sgn (decide (r.num < 0)) (r.num.natAbs * q.den)).natAbs) (q.den * r.den) := by
    rw [sgn_self]; exact add_parts q r
  rw [e]
  refine szR_mk (Nat.le_trans (lim_len_mono ?_) g4) (by omega) (by omega)
  have := Int.natAbs_add_le (sgn (decide (q.num < 0)) (q.num.natAbs * r.den)) (sgn (decide (r.num < 0)) (r.num.natAbs * q.den))
  rw [sgn_abs, sgn_abs] at this
  exact this
theorem szR_sub {q r : Rat} {L M : Nat} (h1 : szR q L) (h2 : szR r M) (hL : 1 ≤ L) : szR (q - r) (L + M + 1) := by
  rw [Rat.sub_eq_add_neg]
  exact szR_add h1 (szR_neg h2) hL
theorem szR_div {q r : Rat} {L M : Nat} (h1 : szR q L) (h2 : szR r M) (hL : 1 ≤ L) (hM : 1 ≤ M) : szR (q / r) (L + M) := by
  by_cases hr : r = 0
  · rw [hr, Rat.div_def, Rat.inv_zero, Rat.mul_zero]
    exact szR_zero (by omega)
  · rw [div_parts hr]
    exact szR_mul h1 (szR_mk h2.2 h2.1 hM) hL
theorem ref2_Neg {v : SV} {q : Rat} {L : Nat} (hv : RatA v q L) (hL : 1 ≤ L) (h : L ≤ 8388608) : Go.Ev.Fn CX 9 [v] (rv (-q)) := by
  have hnv := ref2_Norm hv (by omega)
  obtain ⟨z1, z2⟩ := szR_of hv hL
  rw [neg_parts]
  obtain ⟨s, n, d, rfl, -⟩ := hv
  refine Go.Ev.Fn.intro (fn := Tryz.f9) (body := (Tryz.f9).body.get!) (by kernel_rfl) (by kernel_rfl) (by kernel_rfl) (fun _ => rfl) (Nat.le_of_ble_eq_true (by kernel_rfl)) ?_; unfold Tryz.f9; simp only [Option.get!_some]
  repeat (first | (simp only [go_sem, Nat.reduceEqDiff, Nat.reduceAdd, Nat.reduceSub, Nat.reduceMul, Nat.reduceLeDiff, Nat.reduceLT, reduceIte, reduceCtorEq, Nat.succ_ne_zero, elemsC, Int.reduceToNat, Nat.reducePow]) | (simp (disch := (first | omega | (simp only [AL, List.length_map]; omega))) only [AR, AL, ifT, ifF, take_all, List.length_cons, List.length_nil, Int.reduceToNat, Int.reducePow, Nat.reducePow]) | (refine wk_intro (by kernel_rfl) ?_) | (refine vf_of (by first | exact hnv) ?_))
  cases hs : decide (q.num < 0)
  · rcases Nat.eq_zero_or_pos (lim q.num.natAbs).length with h0 | h0
    · rw [decide_eq_false (show ¬ 0 < (lim q.num.natAbs).length by omega)]
      repeat (first | (simp only [go_sem, Nat.reduceEqDiff, Nat.reduceAdd, Nat.reduceSub, Nat.reduceMul, Nat.reduceLeDiff, Nat.reduceLT, reduceIte, reduceCtorEq, Nat.succ_ne_zero, elemsC, Int.reduceToNat, Nat.reducePow, Bool.not_true, Bool.not_false]) | (simp (disch := (first | omega | (simp only [AL, List.length_map]; omega))) only [AR, AL, ifT, ifF, take_all, List.length_cons, List.length_nil, Int.reduceToNat, Int.reducePow, Nat.reducePow, Bool.not_true, Bool.not_false]) | (refine wk_intro (by kernel_rfl) ?_))
    · rw [decide_eq_true h0]
      repeat (first | (simp only [go_sem, Nat.reduceEqDiff, Nat.reduceAdd, Nat.reduceSub, Nat.reduceMul, Nat.reduceLeDiff, Nat.reduceLT, reduceIte, reduceCtorEq, Nat.succ_ne_zero, elemsC, Int.reduceToNat, Nat.reducePow, Bool.not_true, Bool.not_false]) | (simp (disch := (first | omega | (simp only [AL, List.length_map]; omega))) only [AR, AL, ifT, ifF, take_all, List.length_cons, List.length_nil, Int.reduceToNat, Int.reducePow, Nat.reducePow, Bool.not_true, Bool.not_false]) | (refine wk_intro (by kernel_rfl) ?_))
  · repeat (first | (simp only [go_sem, Nat.reduceEqDiff, Nat.reduceAdd, Nat.reduceSub, Nat.reduceMul, Nat.reduceLeDiff, Nat.reduceLT, reduceIte, reduceCtorEq, Nat.succ_ne_zero, elemsC, Int.reduceToNat, Nat.reducePow, Bool.not_true, Bool.not_false]) | (simp (disch := (first | omega | (simp only [AL, List.length_map]; omega))) only [AR, AL, ifT, ifF, take_all, List.length_cons, List.length_nil, Int.reduceToNat, Int.reducePow, Nat.reducePow, Bool.not_true, Bool.not_false]) | (refine wk_intro (by kernel_rfl) ?_))
    rfl
theorem sgn_mul2 (s t : Bool) (a b : Nat) : sgn s a * sgn t b = sgn (!(s == t)) (a * b) := by
  cases s <;> cases t <;> simp [sgn, Int.neg_mul, Int.mul_neg]
theorem quo_parts {q r : Rat} (hr : r ≠ 0) : mkRat (sgn (!(decide (q.num < 0) == decide (r.num < 0))) (q.num.natAbs * r.den)) (q.den * r.num.natAbs) = q / r := by
  rw [div_parts hr, ← sgn_mul2, ← Rat.mkRat_mul_mkRat, sgn_self, Rat.mkRat_self]
theorem ref2_Div {v w : SV} {q r : Rat} {L M : Nat} (hv : RatA v q L) (hw : RatA w r M) (hL : 1 ≤ L) (hM : 1 ≤ M) (h : L + M ≤ 8388608) : Go.Ev.Fn CX 14 [v, w] (.tup [rv (q / r), .bool (decide (r ≠ 0))]) := by
  have hnv := ref2_Norm hv (by omega)
  have hnw := ref2_Norm hw (by omega)
  obtain ⟨z1, z2⟩ := szR_of hv hL
  obtain ⟨y1, y2⟩ := szR_of hw hM
  have g1 := lim_len_mul (a := q.num.natAbs) (b := r.den)
  have g2 := lim_len_mul (a := q.den) (b := r.num.natAbs)
  obtain ⟨s, n, d, rfl, -⟩ := hv
  obtain ⟨s', n', d', rfl, -⟩ := hw
  have h0 := ref2_Norm (v := ratV false [] []) (q := 0) (L := 1) ⟨_, _, _, rfl, okL_nil, okL_nil, by simp, by simp, by rw [wth_nil]; exact (mk_zero false (.inl rfl)).symm⟩ (by omega)
  refine Go.Ev.Fn.intro (fn := Tryz.f14) (body := (Tryz.f14).body.get!) (by kernel_rfl) (by kernel_rfl) (by kernel_rfl) (fun _ => rfl) (Nat.le_of_ble_eq_true (by kernel_rfl)) ?_; unfold Tryz.f14; simp only [Option.get!_some]
  repeat (first | (simp only [go_sem, Nat.reduceEqDiff, Nat.reduceAdd, Nat.reduceSub, Nat.reduceMul, Nat.reduceLeDiff, Nat.reduceLT, reduceIte, reduceCtorEq, Nat.succ_ne_zero, elemsC, Int.reduceToNat, Nat.reducePow]) | (simp (disch := (first | omega | (simp only [AL, List.length_map]; omega))) only [AR, AL, ifT, ifF, take_all, List.length_cons, List.length_nil, Int.reduceToNat, Int.reducePow, Nat.reducePow]) | (refine wk_intro (by kernel_rfl) ?_) | (refine vp_draw (id := 1) (l := []) (by kernel_rfl) ?_) | (refine vp_draw (id := 4) (l := [24, 26, 29, 31, 27, 32]) (by kernel_rfl) ?_) | (refine vf_of (by first | exact hnv | exact hnw) ?_))
  by_cases hr : r = 0
  · have hl : (lim r.num.natAbs).length = 0 := by rw [num_zero.2 hr]; simp [lim_zero]
    rw [show decide (r ≠ 0) = false from decide_eq_false (fun e => e hr), hr, Rat.div_def, Rat.inv_zero, Rat.mul_zero]
    subst hr
    repeat (first | (simp only [go_sem, Nat.reduceEqDiff, Nat.reduceAdd, Nat.reduceSub, Nat.reduceMul, Nat.reduceLeDiff, Nat.reduceLT, reduceIte, reduceCtorEq, Nat.succ_ne_zero, elemsC, Int.reduceToNat, Nat.reducePow]) | (simp (disch := (first | omega | (simp only [AL, List.length_map]; omega))) only [AR, AL, ifT, ifF, take_all, List.length_cons, List.length_nil, Int.reduceToNat, Int.reducePow, Nat.reducePow]) | (refine wk_intro (by kernel_rfl) ?_) | (refine vp_draw (id := 1) (l := []) (by kernel_rfl) ?_) | (refine vp_draw (id := 4) (l := [24, 26, 29, 31, 27, 32]) (by kernel_rfl) ?_) | (refine vf_of (by first | exact h0) ?_))
  · have hl := lim_pos (N := r.num.natAbs) (fun e => hr (num_zero.1 (by omega)))
    have hOf := ref2_OfL (s := !(decide (q.num < 0) == decide (r.num < 0))) (n := q.num.natAbs * r.den) (d := q.den * r.num.natAbs) (by omega) (by omega)
    rw [quo_parts hr] at hOf
    rw [decide_eq_true hr]
    repeat (first | (simp only [go_sem, Nat.reduceEqDiff, Nat.reduceAdd, Nat.reduceSub, Nat.reduceMul, Nat.reduceLeDiff, Nat.reduceLT, reduceIte, reduceCtorEq, Nat.succ_ne_zero, elemsC, Int.reduceToNat, Nat.reducePow]) | (simp (disch := (first | omega | (simp only [AL, List.length_map]; omega))) only [AR, AL, ifT, ifF, take_all, List.length_cons, List.length_nil, Int.reduceToNat, Int.reducePow, Nat.reducePow]) | (refine wk_intro (by kernel_rfl) ?_) | (refine vp_draw (id := 1) (l := []) (by kernel_rfl) ?_) | (refine vp_draw (id := 4) (l := [24, 26, 29, 31, 27, 32]) (by kernel_rfl) ?_))
    refine vf_of (ref1_MulL (by omega) (by omega)) ?_; repeat (first | (simp only [go_sem, Nat.reduceEqDiff, Nat.reduceAdd, Nat.reduceSub, Nat.reduceMul, Nat.reduceLeDiff, Nat.reduceLT, reduceIte, reduceCtorEq, Nat.succ_ne_zero, elemsC, Int.reduceToNat, Nat.reducePow]) | (simp (disch := (first | omega | (simp only [AL, List.length_map]; omega))) only [AR, AL, ifT, ifF, take_all, List.length_cons, List.length_nil, Int.reduceToNat, Int.reducePow, Nat.reducePow]) | (refine wk_intro (by kernel_rfl) ?_) | (refine vp_draw (id := 1) (l := []) (by kernel_rfl) ?_) | (refine vp_draw (id := 4) (l := [24, 26, 29, 31, 27, 32]) (by kernel_rfl) ?_))
    refine vf_of (ref1_MulL (by omega) (by omega)) ?_; repeat (first | (simp only [go_sem, Nat.reduceEqDiff, Nat.reduceAdd, Nat.reduceSub, Nat.reduceMul, Nat.reduceLeDiff, Nat.reduceLT, reduceIte, reduceCtorEq, Nat.succ_ne_zero, elemsC, Int.reduceToNat, Nat.reducePow]) | (simp (disch := (first | omega | (simp only [AL, List.length_map]; omega))) only [AR, AL, ifT, ifF, take_all, List.length_cons, List.length_nil, Int.reduceToNat, Int.reducePow, Nat.reducePow]) | (refine wk_intro (by kernel_rfl) ?_) | (refine vp_draw (id := 1) (l := []) (by kernel_rfl) ?_) | (refine vp_draw (id := 4) (l := [24, 26, 29, 31, 27, 32]) (by kernel_rfl) ?_))
    refine vf_of (hOf) ?_; repeat (first | (simp only [go_sem, Nat.reduceEqDiff, Nat.reduceAdd, Nat.reduceSub, Nat.reduceMul, Nat.reduceLeDiff, Nat.reduceLT, reduceIte, reduceCtorEq, Nat.succ_ne_zero, elemsC, Int.reduceToNat, Nat.reducePow]) | (simp (disch := (first | omega | (simp only [AL, List.length_map]; omega))) only [AR, AL, ifT, ifF, take_all, List.length_cons, List.length_nil, Int.reduceToNat, Int.reducePow, Nat.reducePow]) | (refine wk_intro (by kernel_rfl) ?_) | (refine vp_draw (id := 1) (l := []) (by kernel_rfl) ?_) | (refine vp_draw (id := 4) (l := [24, 26, 29, 31, 27, 32]) (by kernel_rfl) ?_))
end Go.Proofs.YtodiciendlhkgaaGreat

/- rat.Cmp, vernierref2.Sub and Cmp, in the evaluator. -/
namespace Go.Proofs.YtodiciendlhkgaaGreat
set_option linter.unusedSimpArgs false
set_option linter.unusedVariables false
set_option maxRecDepth 8000
open Go.Ev
/-- -1, 0 or 1. -/
def cmpR (q r : Rat) : Int := if q < r then -1 else if q = r then 0 else 1
theorem sub_num {q r : Rat} : (q - r).num < 0 ↔ q < r := by
  have h : (q - r).num < 0 ↔ q - r < 0 := by
    have := Rat.num_nonneg (q := q - r)
    constructor
    · intro h
      have h1 : ¬ 0 ≤ q - r := fun g => absurd (this.2 g) (by omega)
      grind
    · intro h
      rcases Int.lt_or_le (q - r).num 0 with h1 | h1
      · exact h1
      · exact absurd (this.1 h1) (by grind)
  rw [h]
  constructor <;> intro h <;> grind
theorem sub_zero' {q r : Rat} : (q - r).num = 0 ↔ q = r := by
  rw [Rat.num_eq_zero]
  constructor <;> intro h <;> grind
theorem int_szR {n : Int} (h : -9223372036854775808 ≤ n ∧ n ≤ 9223372036854775808) : szR (n : Rat) 2 := by
  refine ⟨?_, ?_⟩
  · show (lim n.natAbs).length ≤ 2
    exact lim_two.2 (by omega)
  · show (lim 1).length ≤ 2
    rw [lim_one]; simp
theorem rat_Cmp {v w : SV} {q r : Rat} {L M : Nat} (hv : RatA v q L) (hw : RatA w r M) (hL : 1 ≤ L) (hM : 1 ≤ M) (h : L + M ≤ 268435456) : Go.Ev.Fn CX 36 [v, w] (.int .i64 (cmpR q r)) := by
  have hs := rat_Sub hv hw hL hM h
  have hz := szR_sub (szR_of hv hL) (szR_of hw hM) hL
  obtain ⟨s, n, d, rfl, -⟩ := hv
  obtain ⟨s', n', d', rfl, -⟩ := hw
  obtain ⟨y1, -⟩ := hz
  refine Go.Ev.Fn.intro (fn := Tryz.f36) (body := (Tryz.f36).body.get!) (by kernel_rfl) (by kernel_rfl) (by kernel_rfl) (fun _ => rfl) (Nat.le_of_ble_eq_true (by kernel_rfl)) ?_; unfold Tryz.f36; simp only [Option.get!_some]
  by_cases h1 : q < r
  · have e : decide ((q - r).num < 0) = true := decide_eq_true (sub_num.2 h1)
    rw [show cmpR q r = -1 from if_pos h1]
    repeat (first | (simp only [go_sem, Nat.reduceEqDiff, Nat.reduceAdd, Nat.reduceSub, Nat.reduceMul, Nat.reduceLeDiff, Nat.reduceLT, reduceIte, reduceCtorEq, Nat.succ_ne_zero, elemsC, Int.reduceToNat, Nat.reducePow, e]) | (simp (disch := (first | omega | (simp only [AL, List.length_map]; omega))) only [AR, AL, ifT, ifF, take_all, List.length_cons, List.length_nil, Int.reduceToNat, Int.reducePow, Nat.reducePow, e]) | (refine wk_intro (by kernel_rfl) ?_) | (refine vf_of (by first | exact hs) ?_))
  · have e : decide ((q - r).num < 0) = false := decide_eq_false (fun h => h1 (sub_num.1 h))
    by_cases h2 : q = r
    · have e2 : (lim (q - r).num.natAbs).length = 0 := by rw [sub_zero'.2 h2]; simp [lim_zero]
      rw [show cmpR q r = 0 by unfold cmpR; rw [if_neg h1, if_pos h2]]
      repeat (first | (simp only [go_sem, Nat.reduceEqDiff, Nat.reduceAdd, Nat.reduceSub, Nat.reduceMul, Nat.reduceLeDiff, Nat.reduceLT, reduceIte, reduceCtorEq, Nat.succ_ne_zero, elemsC, Int.reduceToNat, Nat.reducePow, e]) | (simp (disch := (first | omega | (simp only [AL, List.length_map]; omega))) only [AR, AL, ifT, ifF, take_all, List.length_cons, List.length_nil, Int.reduceToNat, Int.reducePow, Nat.reducePow, e]) | (refine wk_intro (by kernel_rfl) ?_) | (refine vf_of (by first | exact hs) ?_))
    · have e2 := lim_pos (N := (q - r).num.natAbs) (fun h => h2 (sub_zero'.1 (by omega)))
      rw [show cmpR q r = 1 by unfold cmpR; rw [if_neg h1, if_neg h2]]
      repeat (first | (simp only [go_sem, Nat.reduceEqDiff, Nat.reduceAdd, Nat.reduceSub, Nat.reduceMul, Nat.reduceLeDiff, Nat.reduceLT, reduceIte, reduceCtorEq, Nat.succ_ne_zero, elemsC, Int.reduceToNat, Nat.reducePow, e]) | (simp (disch := (first | omega | (simp only [AL, List.length_map]; omega))) only [AR, AL, ifT, ifF, take_all, List.length_cons, List.length_nil, Int.reduceToNat, Int.reducePow, Nat.reducePow, e]) | (refine wk_intro (by kernel_rfl) ?_) | (refine vf_of (by first | exact hs) ?_))
theorem ref2_Sub {v w : SV} {q r : Rat} {L M : Nat} (hv : RatA v q L) (hw : RatA w r M) (hL : 1 ≤ L) (hM : 1 ≤ M) (h : L + M ≤ 8388608) : Go.Ev.Fn CX 20 [v, w] (rv (q - r)) := by
  have hN := ref2_Neg hw hM (by omega)
  have hA := ref2_Add hv (RatA_rv (szR_neg (szR_of hw hM))) hL hM h
  rw [← Rat.sub_eq_add_neg] at hA
  obtain ⟨s, n, d, rfl, -⟩ := hv
  obtain ⟨s', n', d', rfl, -⟩ := hw
  refine Go.Ev.Fn.intro (fn := Tryz.f20) (body := (Tryz.f20).body.get!) (by kernel_rfl) (by kernel_rfl) (by kernel_rfl) (fun _ => rfl) (Nat.le_of_ble_eq_true (by kernel_rfl)) ?_; unfold Tryz.f20; simp only [Option.get!_some]
  repeat (first | (simp only [go_sem, Nat.reduceEqDiff, Nat.reduceAdd, Nat.reduceSub, Nat.reduceMul, Nat.reduceLeDiff, Nat.reduceLT, reduceIte, reduceCtorEq, Nat.succ_ne_zero, elemsC, Int.reduceToNat, Nat.reducePow]) | (simp (disch := (first | omega | (simp only [AL, List.length_map]; omega))) only [AR, AL, ifT, ifF, take_all, List.length_cons, List.length_nil, Int.reduceToNat, Int.reducePow, Nat.reducePow]) | (refine wk_intro (by kernel_rfl) ?_) | (refine vp_draw (id := 1) (l := []) (by kernel_rfl) ?_) | (refine vf_of (by first | exact hN | exact hA) ?_))
theorem ref2_Cmp {v w : SV} {q r : Rat} {L M : Nat} (hv : RatA v q L) (hw : RatA w r M) (hL : 1 ≤ L) (hM : 1 ≤ M) (h : L + M ≤ 8388608) : Go.Ev.Fn CX 6 [v, w] (.int .i64 (cmpR q r)) := by
  have hs := ref2_Sub hv hw hL hM h
  have hz := szR_sub (szR_of hv hL) (szR_of hw hM) hL
  obtain ⟨s, n, d, rfl, -⟩ := hv
  obtain ⟨s', n', d', rfl, -⟩ := hw
  obtain ⟨y1, -⟩ := hz
  refine Go.Ev.Fn.intro (fn := Tryz.f6) (body := (Tryz.f6).body.get!) (by kernel_rfl) (by kernel_rfl) (by kernel_rfl) (fun _ => rfl) (Nat.le_of_ble_eq_true (by kernel_rfl)) ?_; unfold Tryz.f6; simp only [Option.get!_some]
  by_cases h2 : q = r
  · have e2 : (lim (q - r).num.natAbs).length = 0 := by rw [sub_zero'.2 h2]; simp [lim_zero]
    have h1 : ¬ q < r := by grind
    rw [show cmpR q r = 0 by unfold cmpR; rw [if_neg h1, if_pos h2]]
    repeat (first | (simp only [go_sem, Nat.reduceEqDiff, Nat.reduceAdd, Nat.reduceSub, Nat.reduceMul, Nat.reduceLeDiff, Nat.reduceLT, reduceIte, reduceCtorEq, Nat.succ_ne_zero, elemsC, Int.reduceToNat, Nat.reducePow]) | (simp (disch := (first | omega | (simp only [AL, List.length_map]; omega))) only [AR, AL, ifT, ifF, take_all, List.length_cons, List.length_nil, Int.reduceToNat, Int.reducePow, Nat.reducePow]) | (refine wk_intro (by kernel_rfl) ?_) | (refine vf_of (by first | exact hs) ?_))
  · have e2 := lim_pos (N := (q - r).num.natAbs) (fun h => h2 (sub_zero'.1 (by omega)))
    by_cases h1 : q < r
    · have e : decide ((q - r).num < 0) = true := decide_eq_true (sub_num.2 h1)
      rw [show cmpR q r = -1 from if_pos h1]
      repeat (first | (simp only [go_sem, Nat.reduceEqDiff, Nat.reduceAdd, Nat.reduceSub, Nat.reduceMul, Nat.reduceLeDiff, Nat.reduceLT, reduceIte, reduceCtorEq, Nat.succ_ne_zero, elemsC, Int.reduceToNat, Nat.reducePow, e]) | (simp (disch := (first | omega | (simp only [AL, List.length_map]; omega))) only [AR, AL, ifT, ifF, take_all, List.length_cons, List.length_nil, Int.reduceToNat, Int.reducePow, Nat.reducePow, e]) | (refine wk_intro (by kernel_rfl) ?_) | (refine vf_of (by first | exact hs) ?_))
    · have e : decide ((q - r).num < 0) = false := decide_eq_false (fun h => h1 (sub_num.1 h))
      rw [show cmpR q r = 1 by unfold cmpR; rw [if_neg h1, if_neg h2]]
      repeat (first | (simp only [go_sem, Nat.reduceEqDiff, Nat.reduceAdd, Nat.reduceSub, Nat.reduceMul, Nat.reduceLeDiff, Nat.reduceLT, reduceIte, reduceCtorEq, Nat.succ_ne_zero, elemsC, Int.reduceToNat, Nat.reducePow, e]) | (simp (disch := (first | omega | (simp only [AL, List.length_map]; omega))) only [AR, AL, ifT, ifF, take_all, List.length_cons, List.length_nil, Int.reduceToNat, Int.reducePow, Nat.reducePow, e]) | (refine wk_intro (by kernel_rfl) ?_) | (refine vf_of (by first | exact hs) ?_))
theorem cmpR_gt {q r : Rat} : decide (cmpR q r > 0) = decide (r < q) := by
  unfold cmpR
  by_cases h1 : q < r
  · rw [if_pos h1, decide_eq_false (by decide), decide_eq_false (by grind)]
  · rw [if_neg h1]
    by_cases h2 : q = r
    · rw [if_pos h2, decide_eq_false (by decide), decide_eq_false (by grind)]
    · rw [if_neg h2, decide_eq_true (by decide), decide_eq_true (by grind)]
theorem cmpR_lt {q r : Rat} : decide (cmpR q r < 0) = decide (q < r) := by
  unfold cmpR
  by_cases h1 : q < r
  · rw [if_pos h1, decide_eq_true (by decide), decide_eq_true h1]
  · rw [if_neg h1, decide_eq_false h1]
    by_cases h2 : q = r
    · rw [if_pos h2, decide_eq_false (by decide)]
    · rw [if_neg h2, decide_eq_false (by decide)]
theorem cmpR_ge {q r : Rat} : decide (cmpR q r ≥ 0) = decide (r ≤ q) := by
  unfold cmpR
  by_cases h1 : q < r
  · rw [if_pos h1, decide_eq_false (by decide), decide_eq_false (by grind)]
  · rw [if_neg h1, decide_eq_true (show r ≤ q by grind)]
    by_cases h2 : q = r
    · rw [if_pos h2, decide_eq_true (by decide)]
    · rw [if_neg h2, decide_eq_true (by decide)]
theorem cmpR_le {q r : Rat} : decide (cmpR q r ≤ 0) = decide (q ≤ r) := by
  unfold cmpR
  by_cases h1 : q < r
  · rw [if_pos h1, decide_eq_true (by decide), decide_eq_true (show q ≤ r by grind)]
  · rw [if_neg h1]
    by_cases h2 : q = r
    · rw [if_pos h2, decide_eq_true (by decide), decide_eq_true (show q ≤ r by grind)]
    · rw [if_neg h2, decide_eq_false (by decide), decide_eq_false (show ¬ q ≤ r by grind)]
theorem b_and64i {a b : Nat} (ha : a < 9223372036854775808) (hb : b < 9223372036854775808) : bitsSV .and .i64 (a : Int) (b : Int) = some (.int .i64 ((a &&& b : Nat) : Int)) := by
  have h : a &&& b < 2 ^ 63 := Nat.lt_of_le_of_lt Nat.and_le_left ha
  have e : IntKind.i64.wrap ((BitVec.ofInt IntKind.i64.bits (a : Int) &&& BitVec.ofInt IntKind.i64.bits (b : Int)).toNat : Int) = ((a &&& b : Nat) : Int) := by
    show IntKind.i64.wrap ((BitVec.ofInt 64 (a : Int) &&& BitVec.ofInt 64 (b : Int)).toNat : Int) = _
    rw [ofInt_nat, ofInt_nat, BitVec.toNat_and, BitVec.toNat_ofNat, BitVec.toNat_ofNat, Nat.mod_eq_of_lt (show a < 2 ^ 64 by omega), Nat.mod_eq_of_lt (show b < 2 ^ 64 by omega), wI64 (by omega)]
  show some (SV.int _ _) = _
  rw [e]
theorem and_one64 {a : Nat} (ha : a < 9223372036854775808) : bitsSV .and .i64 (a : Int) 1 = some (.int .i64 ((a % 2 : Nat) : Int)) := by
  have := b_and64i ha (b := 1) (by omega)
  rw [and_one] at this
  exact this
theorem lim_len1 : (lim 1).length ≤ 1 := lim_len_one (by decide)
end Go.Proofs.YtodiciendlhkgaaGreat

/- Sums, means, variances of rows of numbers: plain mathematics; what a row of Rats reads as. No program. -/
namespace Go.Proofs.YtodiciendlhkgaaGreat
open Go.Ev
def sumR (l : List Rat) : Rat := l.foldl (fun a b => a + b) 0
def meanR (l : List Rat) : Rat := sumR l / ((l.length : Int) : Rat)
def offR (l : List Rat) : List Rat := l.map fun x => x - meanR l
def sqR (l : List Rat) : Rat := sumR ((offR l).map fun x => x * x)
def varR (l : List Rat) : Rat := sqR l / (((l.length : Int) - 1 : Int) : Rat)
theorem foldl_add (l : List Rat) (a : Rat) : l.foldl (fun a b => a + b) a = a + sumR l := by
  unfold sumR
  induction l generalizing a with
  | nil => simp only [List.foldl_nil]; grind
  | cons x l ih => simp only [List.foldl_cons]; rw [ih (a + x), ih (0 + x)]; grind
theorem sumR_nil : sumR [] = 0 := rfl
theorem sumR_cons (x : Rat) (l : List Rat) : sumR (x :: l) = x + sumR l := by
  show List.foldl _ (0 + x) l = _
  rw [foldl_add]; grind
theorem sumR_append (l m : List Rat) : sumR (l ++ m) = sumR l + sumR m := by
  unfold sumR; rw [List.foldl_append, foldl_add]; rfl
theorem sumR_snoc (l : List Rat) (x : Rat) : sumR (l ++ [x]) = sumR l + x := by
  rw [sumR_append, sumR_cons, sumR_nil]; grind
theorem take_snoc (l : List Rat) {i : Nat} (h : i < l.length) : l.take (i + 1) = l.take i ++ [l.getD i 0] := by
  rw [List.take_add_one, List.getD_eq_getElem?_getD, List.getElem?_eq_getElem h]
  rfl
theorem sumR_take (l : List Rat) {i : Nat} (h : i < l.length) : sumR (l.take (i + 1)) = sumR (l.take i) + l.getD i 0 := by rw [take_snoc l h, sumR_snoc]
theorem map_take_snoc (l : List Rat) (f : Rat → Rat) {i : Nat} (h : i < l.length) : (l.take (i + 1)).map f = (l.take i).map f ++ [f (l.getD i 0)] := by
  rw [take_snoc l h, List.map_append]; rfl
theorem getD_mem {l : List Rat} {i : Nat} (h : i < l.length) : l.getD i 0 ∈ l := by
  rw [List.getD_eq_getElem?_getD, List.getElem?_eq_getElem h]; exact List.getElem_mem h
theorem getD_map (l : List Rat) (f : Rat → Rat) {i : Nat} (h : i < l.length) : (l.map f).getD i 0 = f (l.getD i 0) := by
  rw [List.getD_eq_getElem?_getD, List.getD_eq_getElem?_getD, List.getElem?_map, List.getElem?_eq_getElem h]; rfl
theorem sz_sum {L : Nat} (hL : 1 ≤ L) : ∀ l : List Rat, (∀ x ∈ l, szR x L) → szR (sumR l) ((L + 1) * l.length + 1) := by
  intro l
  induction l with
  | nil => intro _; exact szR_zero (by omega)
  | cons x l ih =>
    intro h
    rw [sumR_cons]
    have h1 := ih fun y hy => h y (List.mem_cons_of_mem _ hy)
    exact szR_mono (szR_add (h x List.mem_cons_self) h1 hL) (by rw [List.length_cons, Nat.mul_succ]; omega)
theorem sz_sum12 {L : Nat} {l : List Rat} (hL : 1 ≤ L) (h : ∀ x ∈ l, szR x L) (hl : l.length ≤ 12) : szR (sumR l) (12 * L + 13) :=
  szR_mono (sz_sum hL l h) (by have := Nat.mul_le_mul_left (L + 1) hl; omega)
theorem sz_take12 {L : Nat} {l : List Rat} (hL : 1 ≤ L) (h : ∀ x ∈ l, szR x L) (hl : l.length ≤ 12) (i : Nat) : szR (sumR (l.take i)) (12 * L + 13) :=
  sz_sum12 hL (fun x hx => h x (List.mem_of_mem_take hx)) (by rw [List.length_take]; omega)
theorem sz_mean {L : Nat} {l : List Rat} (hL : 1 ≤ L) (h : ∀ x ∈ l, szR x L) (hl : l.length ≤ 12) : szR (meanR l) (12 * L + 15) :=
  szR_div (M := 2) (sz_sum12 hL h hl) (int_szR (by omega)) (by omega) (by omega)
theorem sz_off {L : Nat} {l : List Rat} (hL : 1 ≤ L) (h : ∀ x ∈ l, szR x L) (hl : l.length ≤ 12) : ∀ x ∈ offR l, szR x (13 * L + 16) := by
  intro x hx
  obtain ⟨y, hy, rfl⟩ := List.mem_map.1 hx
  exact szR_mono (szR_sub (h y hy) (sz_mean hL h hl) hL) (by omega)
theorem sz_map {L M : Nat} {l : List Rat} {f : Rat → Rat} (h : ∀ x ∈ l, szR x L) (hf : ∀ x, szR x L → szR (f x) M) : ∀ x ∈ l.map f, szR x M := by
  intro x hx
  obtain ⟨y, hy, rfl⟩ := List.mem_map.1 hx
  exact hf y (h y hy)
theorem sz_sq {L : Nat} {l : List Rat} (hL : 1 ≤ L) (h : ∀ x ∈ l, szR x L) (hl : l.length ≤ 12) : szR (sqR l) (312 * L + 397) := by
  have h1 := sz_map (f := fun x => x * x) (sz_off hL h hl) (fun x hx => szR_mul hx hx (by omega))
  exact szR_mono (sz_sum12 (by omega) h1 (by rw [List.length_map]; unfold offR; rw [List.length_map]; exact hl)) (by omega)
theorem sz_var {L : Nat} {l : List Rat} (hL : 1 ≤ L) (h : ∀ x ∈ l, szR x L) (hl : l.length ≤ 12) : szR (varR l) (312 * L + 399) :=
  szR_div (M := 2) (sz_sq hL h hl) (int_szR (by omega)) (by omega) (by omega)
/-- A row of Rats, cell by cell. -/
def RowC : List SV → List Rat → Nat → Prop
  | cs, [], _ => cs = []
  | cs, q :: l, L => ∃ s n d rest, cs = .bool s :: natV n :: natV d :: rest ∧ RatA (ratV s n d) q L ∧ RowC rest l L
theorem row_len {L : Nat} : ∀ {l : List Rat} {cs : List SV}, RowC cs l L → cs.length = l.length * 3
  | [], _, h => by cases h; rfl
  | q :: l, cs, h => by
    obtain ⟨s, n, d, rest, rfl, -, h2⟩ := h
    have := row_len h2
    simp only [List.length_cons]
    omega
theorem row_one {L : Nat} : ∀ {l : List Rat} {cs : List SV}, RowC cs l L → cs.all SV.one = true
  | [], _, h => by cases h; rfl
  | q :: l, cs, h => by
    obtain ⟨s, n, d, rest, rfl, -, h2⟩ := h
    have := row_one h2
    simp only [List.all_cons, this]
    rfl
theorem row_at {L : Nat} : ∀ {l : List Rat} {cs : List SV} {i : Nat}, RowC cs l L → i < l.length → ∃ s n d rest, cs.drop (i * 3) = .bool s :: natV n :: natV d :: rest ∧ RatA (ratV s n d) (l.getD i 0) L
  | [], _, _, _, hi => by simp at hi
  | q :: l, cs, 0, h, _ => by
    obtain ⟨s, n, d, rest, rfl, h1, h2⟩ := h
    exact ⟨s, n, d, rest, rfl, h1⟩
  | q :: l, cs, i + 1, h, hi => by
    obtain ⟨s, n, d, rest, rfl, h1, h2⟩ := h
    obtain ⟨s', n', d', r', h3, h4⟩ := row_at (i := i) h2 (by simpa using hi)
    refine ⟨s', n', d', r', ?_, h4⟩
    have e : ∀ k, (SV.bool s :: natV n :: natV d :: rest).drop (k + 3) = rest.drop k := fun _ => rfl
    rw [show (i + 1) * 3 = i * 3 + 3 by omega, e, h3]
theorem row_append {L : Nat} : ∀ {l : List Rat} {m : List Rat} {cs ds : List SV}, RowC cs l L → RowC ds m L → RowC (cs ++ ds) (l ++ m) L
  | [], _, _, _, h, h2 => by cases h; exact h2
  | q :: l, _, cs, ds, h, h2 => by
    obtain ⟨s, n, d, rest, rfl, h1, h3⟩ := h
    exact ⟨s, n, d, rest ++ ds, rfl, h1, row_append h3 h2⟩
theorem row_snoc {L : Nat} {l : List Rat} {cs : List SV} {s : Bool} {n d : List Nat} {q : Rat} (h : RowC cs l L) (h1 : RatA (ratV s n d) q L) : RowC (cs ++ [.bool s, natV n, natV d]) (l ++ [q]) L :=
  row_append h ⟨s, n, d, [], rfl, h1, rfl⟩
theorem row_mono {L M : Nat} : ∀ {l : List Rat} {cs : List SV}, RowC cs l L → L ≤ M → RowC cs l M
  | [], _, h, _ => h
  | q :: l, cs, h, hL => by
    obtain ⟨s, n, d, rest, rfl, h1, h2⟩ := h
    exact ⟨s, n, d, rest, rfl, RatA_mono h1 hL, row_mono h2 hL⟩
theorem row_sz {L : Nat} (hL : 1 ≤ L) : ∀ {l : List Rat} {cs : List SV}, RowC cs l L → ∀ x ∈ l, szR x L
  | [], _, _, x, hx => by cases hx
  | q :: l, cs, h, x, hx => by
    obtain ⟨s, n, d, rest, rfl, h1, h2⟩ := h
    rcases List.mem_cons.1 hx with rfl | hx
    · exact szR_of h1 hL
    · exact row_sz hL h2 x hx
/-- A normal number's cells. -/
def rvC (q : Rat) : List SV := [.bool (decide (q.num < 0)), natV (lim q.num.natAbs), natV (lim q.den)]
theorem row_rv {L : Nat} {l : List Rat} {cs : List SV} {q : Rat} (h : RowC cs l L) (hq : szR q L) : RowC (cs ++ rvC q) (l ++ [q]) L := row_snoc h (RatA_rv hq)
/-- A row of normal numbers, cell by cell. -/
def rvsC (l : List Rat) : List SV := l.flatMap rvC
theorem rvsC_nil : rvsC [] = [] := rfl
theorem rvsC_snoc (l : List Rat) (q : Rat) : rvsC (l ++ [q]) = rvsC l ++ rvC q := by
  unfold rvsC; rw [List.flatMap_append]; simp
theorem rvsC_len (l : List Rat) : (rvsC l).length = l.length * 3 := by
  induction l with
  | nil => rfl
  | cons x l ih => show (rvC x ++ rvsC l).length = _; rw [List.length_append, ih, List.length_cons]; show 3 + _ = _; omega
theorem rvsC_row {L : Nat} : ∀ l : List Rat, (∀ x ∈ l, szR x L) → RowC (rvsC l) l L
  | [], _ => rfl
  | q :: l, h => ⟨_, _, _, _, rfl, RatA_rv (h q List.mem_cons_self), rvsC_row l fun x hx => h x (List.mem_cons_of_mem _ hx)⟩
theorem rvsC_at {l : List Rat} {i : Nat} (h : i < l.length) : ∃ rest, (rvsC l).drop (i * 3) = .bool (decide ((l.getD i 0).num < 0)) :: natV (lim (l.getD i 0).num.natAbs) :: natV (lim (l.getD i 0).den) :: rest := by
  induction l generalizing i with
  | nil => simp at h
  | cons x l ih =>
    cases i with
    | zero => exact ⟨_, rfl⟩
    | succ i =>
      obtain ⟨r, this⟩ := ih (i := i) (by simpa using h)
      have e : ∀ k, (rvC x ++ rvsC l).drop (k + 3) = (rvsC l).drop k := fun _ => rfl
      refine ⟨r, ?_⟩
      show (rvC x ++ rvsC l).drop _ = _
      rw [show (i + 1) * 3 = i * 3 + 3 by omega, e, this]
      rfl
end Go.Proofs.YtodiciendlhkgaaGreat

/- Rows of Rats, tables and tests as arguments. -/
set_option maxRecDepth 8000
namespace Go.Proofs.YtodiciendlhkgaaGreat
open Go.Ev Go.RowKit Go.WideShapes
theorem u_rats : Tryz.prog.underlying 43 = some (.slice 24) := by kernel_rfl
theorem u_tabs : Tryz.prog.underlying 48 = some (.slice 43) := by kernel_rfl
/-- A Rat as it comes in. -/
abbrev InR := Bool × List Nat × List Nat
def InR.cells (p : InR) : List SV := [.bool p.1, natV p.2.1, natV p.2.2]
def InR.q (p : InR) : Rat := mkRat (sgn p.1 (wth p.2.1)) (wth p.2.2)
def InR.ok (p : InR) : Prop := okL p.2.1 ∧ okL p.2.2
def ratsC (ps : List InR) : List SV := ps.flatMap InR.cells
theorem ratsC_nil : ratsC [] = [] := rfl
theorem ratsC_cons (p : InR) (ps : List InR) : ratsC (p :: ps) = .bool p.1 :: natV p.2.1 :: natV p.2.2 :: ratsC ps := rfl
theorem ratsC_len : ∀ ps : List InR, (ratsC ps).length = ps.length * 3
  | [] => rfl
  | p :: ps => by rw [ratsC_cons]; simp only [List.length_cons, ratsC_len ps]; omega
theorem ratsC_row {L : Nat} : ∀ ps : List InR, (∀ p ∈ ps, p.ok ∧ p.2.1.length ≤ L ∧ p.2.2.length ≤ L) → RowC (ratsC ps) (ps.map InR.q) L
  | [], _ => rfl
  | p :: ps, h => by
    obtain ⟨⟨h1, h2⟩, h3, h4⟩ := h p List.mem_cons_self
    exact ⟨_, _, _, _, rfl, ⟨_, _, _, rfl, h1, h2, h3, h4, rfl⟩, ratsC_row ps fun x hx => h x (List.mem_cons_of_mem _ hx)⟩
theorem shp_rats_all {n : Nat} : ∀ l : List (List SV), (∀ x ∈ l, ShpT Tryz.prog (n + 3) 24 x) → ∃ ps : List InR, l.flatten = ratsC ps ∧ l.length = ps.length ∧ ∀ p ∈ ps, p.ok := by
  intro l
  induction l with
  | nil => intro _; exact ⟨[], rfl, rfl, fun p hp => by cases hp⟩
  | cons x l ih =>
    intro hx
    obtain ⟨ps, h1, h2, h3⟩ := ih fun y hy => hx y (List.mem_cons_of_mem _ hy)
    obtain ⟨s, xs, ys, rfl, h4, h5, -, -⟩ := shp_rat (hx x List.mem_cons_self)
    refine ⟨(s, xs, ys) :: ps, by rw [List.flatten_cons, h1]; rfl, by simp [h2], fun p hp => ?_⟩
    rcases List.mem_cons.1 hp with rfl | hp
    · exact ⟨h4, h5⟩
    · exact h3 p hp
abbrev rowV (ps : List InR) : SV := .sl ps.length (ratsC ps)
theorem shp_rats {n : Nat} {ss : List SV} (h : ShpT Tryz.prog (n + 4) 43 ss) : ∃ ps : List InR, ss = [rowV ps] ∧ ps.length ≤ maxLen ∧ ∀ p ∈ ps, p.ok := by
  unfold ShpT at h
  rw [u_rats] at h
  obtain ⟨elems, rfl, hl, he⟩ := h
  obtain ⟨ps, h1, h2, h3⟩ := shp_rats_all elems he
  exact ⟨ps, by rw [h1, h2], h2 ▸ hl, h3⟩
theorem shp_tabs_all {n : Nat} : ∀ l : List (List SV), (∀ x ∈ l, ShpT Tryz.prog (n + 4) 43 x) → ∃ ts : List (List InR), l.flatten = ts.map rowV ∧ l.length = ts.length ∧ ∀ ps ∈ ts, ps.length ≤ maxLen ∧ ∀ p ∈ ps, p.ok := by
  intro l
  induction l with
  | nil => intro _; exact ⟨[], rfl, rfl, fun p hp => by cases hp⟩
  | cons x l ih =>
    intro hx
    obtain ⟨ts, h1, h2, h3⟩ := ih fun y hy => hx y (List.mem_cons_of_mem _ hy)
    obtain ⟨ps, rfl, h4, h5⟩ := shp_rats (hx x List.mem_cons_self)
    refine ⟨ps :: ts, by rw [List.flatten_cons, h1]; rfl, by simp [h2], fun p hp => ?_⟩
    rcases List.mem_cons.1 hp with rfl | hp
    · exact ⟨h4, h5⟩
    · exact h3 p hp
abbrev tabV (ts : List (List InR)) : SV := .sl ts.length (ts.map rowV)
theorem shp_tabs {n : Nat} {ss : List SV} (h : ShpT Tryz.prog (n + 5) 48 ss) : ∃ ts : List (List InR), ss = [tabV ts] ∧ ts.length ≤ maxLen ∧ ∀ ps ∈ ts, ps.length ≤ maxLen ∧ ∀ p ∈ ps, p.ok := by
  unfold ShpT at h
  rw [u_tabs] at h
  obtain ⟨elems, rfl, hl, he⟩ := h
  obtain ⟨ts, h1, h2, h3⟩ := shp_tabs_all elems he
  exact ⟨ts, by rw [h1, h2], h2 ▸ hl, h3⟩
/-- A slice that is handed in. -/
theorem open_slice {H : Type} {enc : TypeId × Value → H} {P : Program} {w : World} {sp : Nat → Bool} {held : Bool} {r : Reach} {b0 : Nat} {m : Nat} {t e : TypeId} {v : Value} {d : DataW H} {ps : List MemPlace} (hp : plainT P m t = true) (hu : P.underlying t = some (.slice e))
    (hok : Value.okWide P w r b0 t v) (hd : DataW.Trod enc P w 0 sp held t v d ps) : ∃ s, Rep w (fun _ => False) v s ∧ ShpT P m t [s] := by
  obtain ⟨a, len, cap, rfl⟩ := okWide_slice hu hok
  obtain ⟨n, hn⟩ := hd
  obtain ⟨ss, ⟨hl, hr⟩, hs⟩ := trod_reads hp hn
  have hl1 : ss.length = 1 := by rw [hl]; simp [Value.cells]
  match ss, hl1 with
  | [s], _ =>
    refine ⟨s, ?_, hs⟩
    have := hr 0 s rfl
    simpa [Value.cells, Array.getD_eq_getD_getElem?, List.getD_eq_getElem?_getD] using this
/-- A test's reading. -/
abbrev testV (kind : Int) (x y : SV) (t : SV) (sm : Bool) (nm dm : List Nat) (ss : Bool) (ns ds : List Nat) (k n : Int) : SV :=
  .agg [.int .i64 kind, x, y, t, .bool sm, natV nm, natV dm, .bool ss, natV ns, natV ds, .int .i64 k, .int .i64 n]
end Go.Proofs.YtodiciendlhkgaaGreat

/- What lies between two naturals by a power of two: plain mathematics, no program. -/
namespace Go.Proofs.YtodiciendlhkgaaGreat
open Go.Ev
abbrev p2 (w : Nat) : Rat := ((2 ^ w : Nat) : Rat)
theorem p2_pos (w : Nat) : 0 < p2 w := by
  have : 0 < 2 ^ w := Nat.pow_pos (by omega)
  exact_mod_cast this
/-- A number q that is not below 0 lies between a and b, by 2 to the power w. -/
def Enc (w a b : Nat) (q : Rat) : Prop := (a : Rat) ≤ q * p2 w ∧ q * p2 w ≤ (b : Rat)
theorem floor_le {a d : Nat} : ((a / d : Nat) : Rat) * (d : Rat) ≤ (a : Rat) := by
  have := Nat.div_mul_le_self a d
  exact_mod_cast this
theorem le_floor {a d : Nat} (hd : 0 < d) : (a : Rat) ≤ ((a / d + 1 : Nat) : Rat) * (d : Rat) := by
  have h2 : a ≤ (a / d + 1) * d := by
    have := Nat.div_add_mod a d
    have h3 := Nat.mod_lt a hd
    rw [Nat.add_mul, Nat.one_mul, Nat.mul_comm]
    omega
  exact_mod_cast h2
theorem enc_add {w a b c d : Nat} {q r : Rat} (h1 : Enc w a b q) (h2 : Enc w c d r) : Enc w (a + c) (b + d) (q + r) := by
  obtain ⟨x1, x2⟩ := h1
  obtain ⟨y1, y2⟩ := h2
  have e1 : ((a + c : Nat) : Rat) = (a : Rat) + (c : Rat) := by exact_mod_cast rfl
  have e2 : ((b + d : Nat) : Rat) = (b : Rat) + (d : Rat) := by exact_mod_cast rfl
  unfold Enc
  rw [e1, e2]
  constructor <;> grind
theorem enc_wider {w a b n : Nat} {q : Rat} (h : Enc w a b q) : Enc w a (b + n) q := by
  obtain ⟨x1, x2⟩ := h
  refine ⟨x1, Rat.le_trans x2 ?_⟩
  have : b ≤ b + n := Nat.le_add_right _ _
  exact_mod_cast this
theorem enc_nonneg {w a b : Nat} {q : Rat} (h : Enc w a b q) : 0 ≤ q := by
  have h0 : (0 : Rat) ≤ (a : Rat) := by exact_mod_cast Nat.zero_le a
  have h1 : 0 ≤ q * p2 w := Rat.le_trans h0 h.1
  rcases Rat.le_total (a := 0) (b := q) with h2 | h2
  · exact h2
  · by_cases e : q = 0
    · rw [e]; exact Rat.le_refl
    · have : q * p2 w < 0 := by
        have h3 : 0 < (-q) * p2 w := Rat.mul_pos (by grind) (p2_pos w)
        grind
      grind
theorem le_by {x y c : Rat} (hc : 0 < c) (h : x * c ≤ y * c) : x ≤ y := by
  rcases Rat.le_total (a := x) (b := y) with h1 | h1
  · exact h1
  · have h2 := Rat.mul_le_mul_of_nonneg_right h1 (by grind : (0 : Rat) ≤ c)
    have h3 : (x - y) * c = 0 := by grind
    rcases Rat.mul_eq_zero.1 h3 with h4 | h4 <;> grind
theorem mul_le {a b c d : Rat} (h1 : a ≤ b) (h2 : c ≤ d) (hb : 0 ≤ b) (hc : 0 ≤ c) : a * c ≤ b * d :=
  Rat.le_trans (Rat.mul_le_mul_of_nonneg_right h1 hc) (Rat.mul_le_mul_of_nonneg_left h2 hb)
theorem nat_nonneg (a : Nat) : (0 : Rat) ≤ (a : Rat) := by exact_mod_cast Nat.zero_le a
theorem enc_mul {w a b c d : Nat} {q r : Rat} (h1 : Enc w a b q) (h2 : Enc w c d r) : Enc w (a * c / 2 ^ w) (b * d / 2 ^ w + 1) (q * r) := by
  have hq := enc_nonneg h1
  have P := p2_pos w
  obtain ⟨x1, x2⟩ := h1
  have hr := enc_nonneg h2
  obtain ⟨y1, y2⟩ := h2
  have f := floor_le (a := a * c) (d := 2 ^ w)
  have g := le_floor (a := b * d) (d := 2 ^ w) (Nat.pow_pos (by omega))
  have e1 : ((a * c : Nat) : Rat) = (a : Rat) * (c : Rat) := by exact_mod_cast rfl
  have e2 : ((b * d : Nat) : Rat) = (b : Rat) * (d : Rat) := by exact_mod_cast rfl
  have m1 := mul_le x1 y1 (Rat.le_trans (nat_nonneg a) x1) (nat_nonneg c)
  have m2 := mul_le x2 y2 (nat_nonneg b) (Rat.le_trans (nat_nonneg c) y1)
  refine ⟨le_by P ?_, le_by P ?_⟩
  · rw [e1] at f
    show ((a * c / 2 ^ w : Nat) : Rat) * p2 w ≤ _
    have : q * r * p2 w * p2 w = q * p2 w * (r * p2 w) := by grind
    rw [this]
    exact Rat.le_trans f m1
  · rw [e2] at g
    have : q * r * p2 w * p2 w = q * p2 w * (r * p2 w) := by grind
    rw [this]
    exact Rat.le_trans m2 g
theorem enc_times {w a b n d : Nat} {q : Rat} (hd : 0 < d) (h : Enc w a b q) : Enc w (a * n / d) (b * n / d + 1) (q * (n : Rat) / (d : Rat)) := by
  obtain ⟨x1, x2⟩ := h
  have D : (0 : Rat) < (d : Rat) := by exact_mod_cast hd
  have Dn : (d : Rat) ≠ 0 := by grind
  have f := floor_le (a := a * n) (d := d)
  have g := le_floor (a := b * n) (d := d) hd
  have e1 : ((a * n : Nat) : Rat) = (a : Rat) * (n : Rat) := by exact_mod_cast rfl
  have e2 : ((b * n : Nat) : Rat) = (b : Rat) * (n : Rat) := by exact_mod_cast rfl
  have m1 := Rat.mul_le_mul_of_nonneg_right x1 (nat_nonneg n)
  have m2 := Rat.mul_le_mul_of_nonneg_right x2 (nat_nonneg n)
  have c : q * (n : Rat) / (d : Rat) * p2 w * (d : Rat) = q * p2 w * (n : Rat) := by
    have := Rat.div_mul_cancel (a := q * (n : Rat)) Dn
    have h2 : q * (n : Rat) / (d : Rat) * p2 w * (d : Rat) = q * (n : Rat) / (d : Rat) * (d : Rat) * p2 w := by grind
    rw [h2, this]
    grind
  refine ⟨le_by D ?_, le_by D ?_⟩
  · rw [e1] at f
    rw [c]
    exact Rat.le_trans f m1
  · rw [e2] at g
    rw [c]
    exact Rat.le_trans m2 g
end Go.Proofs.YtodiciendlhkgaaGreat

/- vernierref4: whole numbers and what lies between two of them, in the evaluator. -/
namespace Go.Proofs.YtodiciendlhkgaaGreat
set_option linter.unusedSimpArgs false
set_option linter.unusedVariables false
set_option maxRecDepth 8000
open Go.Ev
/-- A whole number. -/
abbrev intV (z : Int) : SV := .agg [.bool (decide (z < 0)), natV (lim z.natAbs)]
/-- From one whole number to another. -/
abbrev ivV (a b : Int) : SV := .agg [.bool (decide (a < 0)), natV (lim a.natAbs), .bool (decide (b < 0)), natV (lim b.natAbs)]
theorem lim_ne {n : Nat} : decide (0 < (lim n).length) = decide (n ≠ 0) := by
  by_cases h : n = 0
  · subst h; rw [lim_zero]; rfl
  · rw [decide_eq_true (lim_pos h), decide_eq_true h]
end Go.Proofs.YtodiciendlhkgaaGreat

/- vernierref4: Plus, Times, Cmp, Fall, Rise, pow2, Less, More, in the evaluator. -/
namespace Go.Proofs.YtodiciendlhkgaaGreat
set_option linter.unusedSimpArgs false
set_option linter.unusedVariables false
set_option maxRecDepth 8000
open Go.Ev
theorem iv_eq {z : Int} {s : Bool} {n : Nat} (h1 : z.natAbs = n) (h2 : decide (z < 0) = s) : intV z = .agg [.bool s, natV (lim n)] := by subst h1 h2; rfl
theorem lenpos {n : Nat} : decide (((lim n).length : Int) > 0) = decide (n ≠ 0) := by
  rw [← lim_ne]; exact decide_eq_decide.2 (by omega)
/-- -1, 0, 1. -/
def cmpZ (a b : Int) : Int := if a < b then -1 else if a = b then 0 else 1
/-- Rounded up. -/
def cdZ (a : Int) (d : Nat) : Int := -(-a / (d : Int))
theorem fall_eq {a : Int} {d : Nat} (hd : d ≠ 0) : a / (d : Int) = if a < 0 ∧ a.natAbs % d ≠ 0 then -((a.natAbs / d + 1 : Nat) : Int) else sgn (decide (a < 0)) (a.natAbs / d) := by
  by_cases h : a < 0
  · obtain ⟨m, rfl⟩ : ∃ m : Nat, a = -(m : Int) := ⟨a.natAbs, by omega⟩
    rw [Int.natAbs_neg, Int.natAbs_natCast]
    have hm := Nat.div_add_mod m d
    have hlt := Nat.mod_lt m (Nat.pos_of_ne_zero hd)
    by_cases h2 : m % d = 0
    · rw [if_neg (fun g => g.2 h2), decide_eq_true h]
      unfold sgn
      rw [if_pos rfl]
      have : -(m : Int) = (d : Int) * -((m / d : Nat) : Int) := by
        rw [Int.mul_neg, ← Int.natCast_mul]
        omega
      rw [this, Int.mul_ediv_cancel_left _ (by omega)]
    · rw [if_pos ⟨h, h2⟩]
      have e : -(m : Int) = ((d - m % d : Nat) : Int) + (d : Int) * -((m / d + 1 : Nat) : Int) := by
        rw [Int.mul_neg, ← Int.natCast_mul, Nat.mul_add, Nat.mul_one]
        omega
      rw [e, Int.add_mul_ediv_left _ _ (by omega), Int.ediv_eq_zero_of_lt (by omega) (by omega)]
      omega
  · obtain ⟨m, rfl⟩ : ∃ m : Nat, a = (m : Int) := ⟨a.natAbs, by omega⟩
    rw [if_neg (fun g => h g.1), decide_eq_false h, Int.natAbs_natCast]
    unfold sgn
    rw [if_neg (by simp), Int.natCast_ediv]
theorem sgn_iv (s : Bool) (n : Nat) : intV (sgn s n) = .agg [.bool (s && decide (n ≠ 0)), natV (lim n)] := by
  refine iv_eq (sgn_abs s n) ?_
  by_cases h : n = 0
  · subst h; rw [sgn_zero]; simp
  · rw [sgn_neg s h, decide_eq_true h, Bool.and_true]
theorem abs_div_le (a : Int) {d : Nat} (hd : d ≠ 0) : (a / (d : Int)).natAbs ≤ a.natAbs := by
  rw [fall_eq hd]
  have h1 := Nat.div_le_self a.natAbs d
  split
  · rename_i h
    rw [Int.natAbs_neg, Int.natAbs_natCast]
    have hm := Nat.div_add_mod a.natAbs d
    have : a.natAbs / d ≤ d * (a.natAbs / d) := Nat.le_mul_of_pos_left _ (Nat.pos_of_ne_zero hd)
    omega
  · rw [sgn_abs]; exact h1
theorem cd_abs_le (a : Int) {d : Nat} (hd : d ≠ 0) : (cdZ a d).natAbs ≤ a.natAbs := by
  have := abs_div_le (-a) hd
  unfold cdZ
  omega
end Go.Proofs.YtodiciendlhkgaaGreat

/- vernierref1: Shift downwards, Bits, in the evaluator. -/
namespace Go.Proofs.YtodiciendlhkgaaGreat
set_option linter.unusedSimpArgs false
set_option linter.unusedVariables false
set_option maxRecDepth 8000
open Go.Ev
theorem wth_drop1 (b : List Nat) (i : Nat) : wth (b.drop i) = b.getD i 0 + 4294967296 * wth (b.drop (i + 1)) := by
  by_cases h : i < b.length
  · rw [List.drop_eq_getElem_cons h, List.getD_eq_getElem?_getD, List.getElem?_eq_getElem h]
    rfl
  · rw [List.drop_of_length_le (by omega), List.drop_of_length_le (by omega), getD_ge (by omega)]
    simp [wth]
theorem wth_shr_drop {a : List Nat} (ha : okL a) (m : Nat) : wth a / 2 ^ m = wth (a.drop (m / 32)) / 2 ^ (m % 32) := by
  have hpow : 2 ^ m = 4294967296 ^ (m / 32) * 2 ^ (m % 32) := pow_32 m
  rw [hpow, ← Nat.div_div_eq_div_mul]
  congr 1
  conv => lhs; rw [← List.take_append_drop (m / 32) a, wth_append]
  have h1 := wth_lt (okL_take ha (m / 32))
  rw [List.length_take] at h1 ⊢
  rcases Nat.lt_or_ge a.length (m / 32) with h2 | h2
  · rw [List.drop_of_length_le (by omega)]
    simp only [wth, Nat.mul_zero, Nat.add_zero]
    refine Nat.div_eq_of_lt (Nat.lt_of_lt_of_le h1 (Nat.pow_le_pow_right (by omega) (Nat.min_le_left _ _)))
  · rw [Nat.min_eq_left h2] at h1 ⊢
    rw [Nat.add_comm, Nat.mul_add_div (Nat.pow_pos (by omega)), Nat.div_eq_of_lt h1, Nat.add_zero]
theorem ref1_shift_down (xs : List Nat) (m : Nat) (hx : okL xs) (hl : xs.length ≤ 1073741824) (s : Int) (hs : s = -(m : Int)) (hm : m ≤ 4096) (hm0 : 0 < m) :
    Go.Ev.Fn CX 113 [natV xs, .int .i64 s] (natV (lim (wth xs / 2 ^ m))) := by
  refine Go.Ev.Fn.intro (fn := Tryz.f113) (body := (Tryz.f113).body.get!) (by kernel_rfl) (by kernel_rfl) (by kernel_rfl) (fun _ => rfl) (Nat.le_of_ble_eq_true (by kernel_rfl)) ?_; unfold Tryz.f113; simp only [Option.get!_some]
  have lx := lim_length_le hx
  have e1 : (if (-4096 : Int) > s then (-4096 : Int) else s) = s := if_neg (by omega)
  have e2 : (if (4096 : Int) < s then (4096 : Int) else s) = s := if_neg (by omega)
  have e3 : IntKind.i64.wrap (0 - s) = (m : Int) := by rw [wI64 (by omega)]; omega
  have hs0 : decide (s < 0) = true := by simp; omega
  repeat (first | (simp only [go_sem, Nat.reduceEqDiff, Nat.reduceAdd, Nat.reduceSub, Nat.reduceMul, Nat.reduceLeDiff, Nat.reduceLT, reduceIte, reduceCtorEq, Nat.succ_ne_zero, elemsC, Int.reduceToNat, Nat.reducePow, e1, e2, e3]) | (simp (disch := (first | omega | (simp only [AL, List.length_map]; omega))) only [AR, AL, ifT, ifF, take_all, List.length_cons, List.length_nil, Int.reduceToNat, Int.reducePow, Nat.reducePow, e1, e2, e3]) | (refine wk_intro (by kernel_rfl) ?_) | (refine vp_draw (l := []) (by kernel_rfl) ?_))
  have ha := okL_lim (wth xs)
  refine vf_of (ref1_Trim xs hx (by omega)) ?_; repeat (first | (simp only [go_sem, Nat.reduceEqDiff, Nat.reduceAdd, Nat.reduceSub, Nat.reduceMul, Nat.reduceLeDiff, Nat.reduceLT, reduceIte, reduceCtorEq, Nat.succ_ne_zero, elemsC, Int.reduceToNat, Nat.reducePow, e1, e2, e3, tdiv32, tmod32, hs0]) | (simp (disch := (first | omega | (simp only [AL, List.length_map]; omega))) only [AR, AL, ifT, ifF, take_all, List.length_cons, List.length_nil, Int.reduceToNat, Int.reducePow, Nat.reducePow, e1, e2, e3, tdiv32, tmod32, hs0]) | (refine wk_intro (by kernel_rfl) ?_))
  have va := wth_lim (wth xs)
  generalize lim (wth xs) = a at *
  have hk : m % 32 < 32 := Nat.mod_lt _ (by omega)
  rw [← va, wth_shr_drop ha]
  by_cases hlen : a.length ≤ m / 32
  · rw [List.drop_of_length_le hlen]
    have e0 : lim (wth [] / 2 ^ (m % 32)) = [] := by simp [wth, lim_zero]
    rw [e0]
    repeat (first | (simp only [go_sem, Nat.reduceEqDiff, Nat.reduceAdd, Nat.reduceSub, Nat.reduceMul, Nat.reduceLeDiff, Nat.reduceLT, reduceIte, reduceCtorEq, Nat.succ_ne_zero, elemsC, Int.reduceToNat, Nat.reducePow, e3, tdiv32, tmod32]) | (simp (disch := (first | omega | (simp only [AL, List.length_map]; omega))) only [AR, AL, ifT, ifF, take_all, List.length_cons, List.length_nil, Int.reduceToNat, Int.reducePow, Nat.reducePow, e3, tdiv32, tmod32]) | (refine wk_intro (by kernel_rfl) ?_))
    rfl
  · repeat (first | (simp only [go_sem, Nat.reduceEqDiff, Nat.reduceAdd, Nat.reduceSub, Nat.reduceMul, Nat.reduceLeDiff, Nat.reduceLT, reduceIte, reduceCtorEq, Nat.succ_ne_zero, elemsC, Int.reduceToNat, Nat.reducePow, e3, tdiv32, tmod32]) | (simp (disch := (first | omega | (simp only [AL, List.length_map]; omega))) only [AR, AL, ifT, ifF, take_all, List.length_cons, List.length_nil, Int.reduceToNat, Int.reducePow, Nat.reducePow, e3, tdiv32, tmod32]) | (refine wk_intro (by kernel_rfl) ?_))
    have hbl : (a.drop (m / 32)).length = a.length - m / 32 := List.length_drop ..
    have hb := okL_drop ha (m / 32)
    have hnl : a.length - m / 32 ≤ 1073741824 := by omega
    have hpos : 0 < a.length - m / 32 := by omega
    generalize a.drop (m / 32) = b at *
    generalize a.length - m / 32 = n at *
    subst hbl
    generalize m % 32 = k at *
    clear e1 e2 e3 hs0 va lx hx hl
    refine vp_loop_inv (fun s' => s'.tmp 5 = .sv (natV b) ∧ s'.tmp 7 = .sv (.int .u64 k) ∧
        ∃ c : List Nat, ∃ i : Nat, s'.tmp 9 = .sv (.int .i64 i) ∧ c.length = i ∧ okL c ∧ i ≤ b.length ∧ wth c + 4294967296 ^ i * (wth (b.drop i) / 2 ^ k) = wth b / 2 ^ k ∧
          ((i = 0 ∧ s'.tmp 8 = .nil ∧ s'.gen 56 = 0) ∨ (0 < i ∧ s'.tmp 8 = .ref 56 0 1 0 i ∧ s'.obj 56 0 = some (c.map limb))))
      (fun s => match s.tmp 9 with | .sv (.int _ i) => b.length - i.toNat | _ => 0) ⟨rfl, rfl, [], 0, rfl, rfl, okL_nil, by omega, by simp [wth], .inl ⟨rfl, rfl, rfl⟩⟩ ?_
    rintro s' ⟨i5, i7, c, i, i9, hcl, hc, hi, hv, hcase⟩
    by_cases hend : i = b.length
    · subst hend
      rw [List.drop_of_length_le (Nat.le_refl _), show wth [] / 2 ^ k = 0 by simp [wth], Nat.mul_zero, Nat.add_zero] at hv
      rcases hcase with ⟨h0, i8, -⟩ | ⟨h0, i8, iO⟩
      · omega
      · repeat (first | (simp only [go_sem, Nat.reduceEqDiff, Nat.reduceAdd, Nat.reduceSub, Nat.reduceMul, Nat.reduceLeDiff, Nat.reduceLT, reduceIte, reduceCtorEq, Nat.succ_ne_zero, elemsC, Int.reduceToNat, Nat.reducePow, i5, i7, i9, i8, iO]) | (simp (disch := (first | omega | (simp only [AL, List.length_map]; omega))) only [AR, AL, ifT, ifF, take_all, List.length_cons, List.length_nil, Int.reduceToNat, Int.reducePow, Nat.reducePow, i5, i7, i9, i8, iO]) | (refine wk_intro (by kernel_rfl) ?_) | (refine vp_draw (l := []) (by kernel_rfl) ?_))
        refine vf_of (fn_natV (ref1_Trim c hc (by omega)) hcl) ?_; repeat (first | (simp only [go_sem, Nat.reduceEqDiff, Nat.reduceAdd, Nat.reduceSub, Nat.reduceMul, Nat.reduceLeDiff, Nat.reduceLT, reduceIte, reduceCtorEq, Nat.succ_ne_zero, elemsC, Int.reduceToNat, Nat.reducePow, i5, i7, i9, i8, iO]) | (simp (disch := (first | omega | (simp only [AL, List.length_map]; omega))) only [AR, AL, ifT, ifF, take_all, List.length_cons, List.length_nil, Int.reduceToNat, Int.reducePow, Nat.reducePow, i5, i7, i9, i8, iO]) | (refine wk_intro (by kernel_rfl) ?_) | (refine vp_draw (l := []) (by kernel_rfl) ?_))
        rw [hv]
    · have h1 := getD_lt hb i
      have h2 := getD_lt hb (i + 1)
      have a1 := ref1_at b i hb (by omega) (by omega)
      have a2 := ref1_at b (i + 1) hb (by omega) (by omega)
      rw [show ((i + 1 : Nat) : Int) = (i : Int) + 1 from rfl] at a2
      have d1 := wth_drop1 b i
      have d2 := wth_drop1 b (i + 1)
      obtain ⟨g1, g2⟩ := (shr_limb hk (d1.trans (by rw [d2]))).resolve_right (not_not_intro h1)
      rw [← d2] at g2
      generalize hxx : b.getD i 0 = x at *
      generalize hyy : b.getD (i + 1) 0 = y at *
      have hsplit := Nat.mod_add_div (wth (b.drop i) / 2 ^ k) 4294967296
      rw [g1, g2] at hsplit
      have hv2 : ∀ v, v = (x + 4294967296 * y) / 2 ^ k % 4294967296 → wth (c ++ [v]) + 4294967296 ^ (i + 1) * (wth (b.drop (i + 1)) / 2 ^ k) = wth b / 2 ^ k := by
        rintro v rfl
        rw [wth_snoc, hcl, ← hv, ← hsplit, Nat.pow_succ, Nat.mul_add, Nat.mul_assoc, Nat.add_assoc]
      have hj : bitsSV .or .u64 ((x : Nat) : Int) ((y * 4294967296 : Nat) : Int) = some (.int .u64 ((x + 4294967296 * y : Nat) : Int)) := by
        rw [b_or64 (by omega) (by omega), or_high h1]
      have hw64 : y * 4294967296 % 18446744073709551616 = y * 4294967296 := Nat.mod_eq_of_lt (by omega)
      have hk64 : min k 64 = k := by omega
      have hz : (x + 4294967296 * y) / 2 ^ k % 4294967296 < 4294967296 := Nat.mod_lt _ (by omega)
      clear hsplit g1 g2 d1 d2 hv
      rcases hcase with ⟨h0, i8, ig⟩ | ⟨h0, i8, iO⟩
      · repeat (first | (simp only [go_sem, Nat.reduceEqDiff, Nat.reduceAdd, Nat.reduceSub, Nat.reduceMul, Nat.reduceLeDiff, Nat.reduceLT, reduceIte, reduceCtorEq, Nat.succ_ne_zero, elemsC, Int.reduceToNat, Nat.reducePow, i5, i7, i9, i8, ig]) | (simp (disch := (first | omega | (simp only [AL, List.length_map]; omega))) only [AR, AL, ifT, ifF, take_all, List.length_cons, List.length_nil, Int.reduceToNat, Int.reducePow, Nat.reducePow, i5, i7, i9, i8, ig]) | (refine wk_intro (by kernel_rfl) ?_) | (refine vp_draw (l := []) (by kernel_rfl) ?_))
        repeat (first | (simp only [go_sem, Nat.reduceEqDiff, Nat.reduceAdd, Nat.reduceSub, Nat.reduceMul, Nat.reduceLeDiff, Nat.reduceLT, reduceIte, reduceCtorEq, Nat.succ_ne_zero, elemsC, Int.reduceToNat, Nat.reducePow, i5, i7, i9, i8, ig, hj, hw64, hk64, N0]) | (simp (disch := (first | omega | (simp only [AL, List.length_map]; omega))) only [AR, AL, ifT, ifF, take_all, List.length_cons, List.length_nil, Int.reduceToNat, Int.reducePow, Nat.reducePow, i5, i7, i9, i8, ig, hj, hw64, hk64, N0]) | (refine wk_intro (by kernel_rfl) ?_) | (refine vp_draw (l := []) (by kernel_rfl) ?_) | (refine vf_of (by first | exact a1 | exact a2) ?_))
        subst h0
        obtain rfl := List.length_eq_zero_iff.1 hcl
        exact ⟨⟨[] ++ [(x + 4294967296 * y) / 2 ^ k % 4294967296], 1, rfl, rfl, okL_append.2 ⟨hc, okL_cons.2 ⟨hz, okL_nil⟩⟩, by omega, hv2 _ rfl, .inr ⟨by omega, rfl, rfl⟩⟩, by omega⟩
      · repeat (first | (simp only [go_sem, Nat.reduceEqDiff, Nat.reduceAdd, Nat.reduceSub, Nat.reduceMul, Nat.reduceLeDiff, Nat.reduceLT, reduceIte, reduceCtorEq, Nat.succ_ne_zero, elemsC, Int.reduceToNat, Nat.reducePow, i5, i7, i9, i8, iO]) | (simp (disch := (first | omega | (simp only [AL, List.length_map]; omega))) only [AR, AL, ifT, ifF, take_all, List.length_cons, List.length_nil, Int.reduceToNat, Int.reducePow, Nat.reducePow, i5, i7, i9, i8, iO]) | (refine wk_intro (by kernel_rfl) ?_) | (refine vp_draw (l := []) (by kernel_rfl) ?_))
        repeat (first | (simp only [go_sem, Nat.reduceEqDiff, Nat.reduceAdd, Nat.reduceSub, Nat.reduceMul, Nat.reduceLeDiff, Nat.reduceLT, reduceIte, reduceCtorEq, Nat.succ_ne_zero, elemsC, Int.reduceToNat, Nat.reducePow, i5, i7, i9, i8, iO, hj, hw64, hk64, N0]) | (simp (disch := (first | omega | (simp only [AL, List.length_map]; omega))) only [AR, AL, ifT, ifF, take_all, List.length_cons, List.length_nil, Int.reduceToNat, Int.reducePow, Nat.reducePow, i5, i7, i9, i8, iO, hj, hw64, hk64, N0]) | (refine wk_intro (by kernel_rfl) ?_) | (refine vp_draw (l := []) (by kernel_rfl) ?_) | (refine vf_of (by first | exact a1 | exact a2) ?_))
        exact ⟨⟨c ++ [(x + 4294967296 * y) / 2 ^ k % 4294967296], i + 1, rfl, by rw [List.length_append, hcl]; rfl, okL_append.2 ⟨hc, okL_cons.2 ⟨hz, okL_nil⟩⟩, by omega, hv2 _ rfl, .inr ⟨by omega, rfl, by rw [List.map_append]; rfl⟩⟩, by omega⟩
theorem ref1_shl {N m : Nat} (h : (lim N).length ≤ 1073741824) (hm : m ≤ 4096) : Go.Ev.Fn CX 113 [natV (lim N), .int .i64 (m : Int)] (natV (lim (N * 2 ^ m))) := by
  have := ref1_shift_up (lim N) m (okL_lim _) h _ rfl hm
  rwa [wth_lim] at this
theorem ref1_shr {N m : Nat} (h : (lim N).length ≤ 1073741824) (hm : m ≤ 4096) (h0 : 0 < m) : Go.Ev.Fn CX 113 [natV (lim N), .int .i64 (-(m : Int))] (natV (lim (N / 2 ^ m))) := by
  have := ref1_shift_down (lim N) m (okL_lim _) h _ rfl hm h0
  rwa [wth_lim] at this
end Go.Proofs.YtodiciendlhkgaaGreat

/- stat: by, Sum, Mean, off, products, Variance, Central of 2, in the evaluator. -/
namespace Go.Proofs.YtodiciendlhkgaaGreat
set_option linter.unusedSimpArgs false
set_option linter.unusedVariables false
set_option maxRecDepth 8000
open Go.Ev
theorem stat_by {v : SV} {q : Rat} {n : Int} {L : Nat} (hv : RatA v q L) (hL : 1 ≤ L) (hL2 : L ≤ 10000000) (hn : -9223372036854775808 ≤ n ∧ n < 9223372036854775808) :
    Go.Ev.Fn CX 153 [v, .int .i64 n] (rv (q / (n : Rat))) := by
  have r := rat_Int n hn
  have d := rat_Div hv (RatA_rv (int_szR (n := n) (by omega))) hL (by omega) (by omega)
  generalize decide ((n : Rat) ≠ 0) = b at *
  obtain ⟨s, y, d', rfl, -⟩ := hv
  refine Go.Ev.Fn.intro (fn := Tryz.f153) (body := (Tryz.f153).body.get!) (by kernel_rfl) (by kernel_rfl) (by kernel_rfl) (fun _ => rfl) (Nat.le_of_ble_eq_true (by kernel_rfl)) ?_; unfold Tryz.f153; simp only [Option.get!_some]
  repeat (first | (simp only [go_sem, Nat.reduceEqDiff, Nat.reduceAdd, Nat.reduceSub, Nat.reduceMul, Nat.reduceLeDiff, Nat.reduceLT, reduceIte, reduceCtorEq, Nat.succ_ne_zero, elemsC, Int.reduceToNat, Nat.reducePow]) | (simp (disch := (first | omega | (simp only [AL, List.length_map]; omega))) only [AR, AL, ifT, ifF, take_all, List.length_cons, List.length_nil, Int.reduceToNat, Int.reducePow, Nat.reducePow]) | (refine wk_intro (by kernel_rfl) ?_) | (refine vp_draw (id := 1) (l := []) (by kernel_rfl) ?_) | (refine vf_of (by first | exact r | exact d) ?_))
theorem stat_Sum {cs : List SV} {l : List Rat} {L : Nat} (h : RowC cs l L) (hL : 1 ≤ L) (hL2 : L ≤ 100000) (hl : l.length ≤ 12) :
    Go.Ev.Fn CX 119 [.sl l.length cs] (rv (sumR l)) := by
  have r0 := rat_Int 0 (by omega)
  have hlen := row_len h
  have hz := row_sz hL h
  refine Go.Ev.Fn.intro (fn := Tryz.f119) (body := (Tryz.f119).body.get!) (by kernel_rfl) (by kernel_rfl) (by kernel_rfl) (fun _ => rfl) (Nat.le_of_ble_eq_true (by kernel_rfl)) ?_; unfold Tryz.f119; simp only [Option.get!_some]
  repeat (first | (simp only [go_sem, Nat.reduceEqDiff, Nat.reduceAdd, Nat.reduceSub, Nat.reduceMul, Nat.reduceLeDiff, Nat.reduceLT, reduceIte, reduceCtorEq, Nat.succ_ne_zero, elemsC, Int.reduceToNat, Nat.reducePow]) | (simp (disch := (first | omega | (simp only [AL, List.length_map]; omega))) only [AR, AL, ifT, ifF, take_all, List.length_cons, List.length_nil, Int.reduceToNat, Int.reducePow, Nat.reducePow]) | (refine wk_intro (by kernel_rfl) ?_) | (refine vf_of (by first | exact r0) ?_))
  refine vp_loop_inv (fun s => s.tmp 7 = .sv (.sl l.length cs) ∧ s.tmp 8 = .sv (.int .i64 (l.length : Int)) ∧ s.tmp 2 = .ptr 2 0 0 ∧ s.obj 2 0 = some [.bool false, .sl 0 [], .sl 0 []] ∧ s.tmp 3 = .ptr 3 0 0 ∧
      ∃ i : Nat, s.tmp 9 = .sv (.int .i64 (i : Int)) ∧ i ≤ l.length ∧ s.obj 3 0 = some (rvC (sumR (l.take i))))
    (fun s => match s.tmp 9 with | .sv (.int _ i) => l.length - i.toNat | _ => 0) ⟨rfl, rfl, rfl, rfl, rfl, 0, rfl, by omega, rfl⟩ ?_
  rintro s2 ⟨i7, i8, i2, iO, i3, i, i9, hi, iP⟩
  by_cases hend : i = l.length
  · subst hend
    rw [List.take_length] at iP
    repeat (first | (simp only [go_sem, Nat.reduceEqDiff, Nat.reduceAdd, Nat.reduceSub, Nat.reduceMul, Nat.reduceLeDiff, Nat.reduceLT, reduceIte, reduceCtorEq, Nat.succ_ne_zero, elemsC, Int.reduceToNat, Nat.reducePow, i7, i8, i2, iO, i3, i9, iP, rvC]) | (simp (disch := (first | omega | (simp only [AL, List.length_map]; omega))) only [AR, AL, ifT, ifF, take_all, List.length_cons, List.length_nil, Int.reduceToNat, Int.reducePow, Nat.reducePow, i7, i8, i2, iO, i3, i9, iP, rvC]) | (refine wk_intro (by kernel_rfl) ?_))
  · obtain ⟨s, n, d, rest, hat, hA⟩ := row_at (i := i) h (by omega)
    have hS := sumR_take l (i := i) (by omega)
    have z := sz_take12 hL hz hl i
    have a := rat_Add (RatA_rv z) hA (by omega) hL (by omega)
    rw [← hS] at a
    clear hz z h hS hA
    repeat (first | (simp only [go_sem, Nat.reduceEqDiff, Nat.reduceAdd, Nat.reduceSub, Nat.reduceMul, Nat.reduceLeDiff, Nat.reduceLT, reduceIte, reduceCtorEq, Nat.succ_ne_zero, elemsC, Int.reduceToNat, Nat.reducePow, i7, i8, i2, iO, i3, i9, iP, rvC, hat, hlen]) | (simp (disch := (first | omega | (simp only [AL, List.length_map]; omega))) only [AR, AL, ifT, ifF, take_all, List.length_cons, List.length_nil, Int.reduceToNat, Int.reducePow, Nat.reducePow, i7, i8, i2, iO, i3, i9, iP, rvC, hat, hlen]) | (refine wk_intro (by kernel_rfl) ?_) | (refine vf_of (by first | exact a) ?_))
    exact ⟨⟨i + 1, rfl, by omega, rfl⟩, by omega⟩
/-- A number and an error. -/
abbrev numE (q : Rat) (e : Int) : SV := .tup [rv q, .int .i64 e]
theorem stat_Mean {cs : List SV} {l : List Rat} {L : Nat} (h : RowC cs l L) (hL : 1 ≤ L) (hL2 : L ≤ 100000) (hl : l.length ≤ 12) :
    Go.Ev.Fn CX 114 [.sl l.length cs] (if l.length = 0 then numE 0 5 else numE (meanR l) 0) := by
  have r0 := rat_Int 0 (by omega)
  by_cases h0 : l.length = 0
  · rw [if_pos h0]
    refine Go.Ev.Fn.intro (fn := Tryz.f114) (body := (Tryz.f114).body.get!) (by kernel_rfl) (by kernel_rfl) (by kernel_rfl) (fun _ => rfl) (Nat.le_of_ble_eq_true (by kernel_rfl)) ?_; unfold Tryz.f114; simp only [Option.get!_some]
    repeat (first | (simp only [go_sem, Nat.reduceEqDiff, Nat.reduceAdd, Nat.reduceSub, Nat.reduceMul, Nat.reduceLeDiff, Nat.reduceLT, reduceIte, reduceCtorEq, Nat.succ_ne_zero, elemsC, Int.reduceToNat, Nat.reducePow]) | (simp (disch := (first | omega | (simp only [AL, List.length_map]; omega))) only [AR, AL, ifT, ifF, take_all, List.length_cons, List.length_nil, Int.reduceToNat, Int.reducePow, Nat.reducePow]) | (refine wk_intro (by kernel_rfl) ?_) | (refine vf_of (by first | exact r0) ?_))
    rfl
  · rw [if_neg h0]
    have s1 := stat_Sum h hL hL2 hl
    have b1 := stat_by (n := (l.length : Int)) (RatA_rv (sz_sum12 hL (row_sz hL h) hl)) (by omega) (by omega) (by omega)
    rw [show sumR l / ((l.length : Int) : Rat) = meanR l from rfl] at b1
    clear h
    refine Go.Ev.Fn.intro (fn := Tryz.f114) (body := (Tryz.f114).body.get!) (by kernel_rfl) (by kernel_rfl) (by kernel_rfl) (fun _ => rfl) (Nat.le_of_ble_eq_true (by kernel_rfl)) ?_; unfold Tryz.f114; simp only [Option.get!_some]
    repeat (first | (simp only [go_sem, Nat.reduceEqDiff, Nat.reduceAdd, Nat.reduceSub, Nat.reduceMul, Nat.reduceLeDiff, Nat.reduceLT, reduceIte, reduceCtorEq, Nat.succ_ne_zero, elemsC, Int.reduceToNat, Nat.reducePow]) | (simp (disch := (first | omega | (simp only [AL, List.length_map]; omega))) only [AR, AL, ifT, ifF, take_all, List.length_cons, List.length_nil, Int.reduceToNat, Int.reducePow, Nat.reducePow]) | (refine wk_intro (by kernel_rfl) ?_) | (refine vf_of (by first | exact s1 | exact b1) ?_))
theorem rvs_snoc {l : List Rat} {i : Nat} (h : i < l.length) : rvsC (l.take i) ++ rvC (l.getD i 0) = rvsC (l.take (i + 1)) := by rw [take_snoc l h, rvsC_snoc]
theorem stat_off {cs : List SV} {l : List Rat} {L : Nat} (h : RowC cs l L) (hL : 1 ≤ L) (hL2 : L ≤ 100000) (hl : l.length ≤ 12) (h0 : 1 ≤ l.length) :
    Go.Ev.Fn CX 169 [.sl l.length cs] (.sl l.length (rvsC (offR l))) := by
  have m1 := stat_Mean h hL hL2 hl
  rw [if_neg (by omega)] at m1
  have hz := row_sz hL h
  have zm := sz_mean hL hz hl
  have hlen := row_len h
  have hol : (offR l).length = l.length := by unfold offR; rw [List.length_map]
  refine Go.Ev.Fn.intro (fn := Tryz.f169) (body := (Tryz.f169).body.get!) (by kernel_rfl) (by kernel_rfl) (by kernel_rfl) (fun _ => rfl) (Nat.le_of_ble_eq_true (by kernel_rfl)) ?_; unfold Tryz.f169; simp only [Option.get!_some]
  repeat (first | (simp only [go_sem, Nat.reduceEqDiff, Nat.reduceAdd, Nat.reduceSub, Nat.reduceMul, Nat.reduceLeDiff, Nat.reduceLT, reduceIte, reduceCtorEq, Nat.succ_ne_zero, elemsC, Int.reduceToNat, Nat.reducePow]) | (simp (disch := (first | omega | (simp only [AL, List.length_map]; omega))) only [AR, AL, ifT, ifF, take_all, List.length_cons, List.length_nil, Int.reduceToNat, Int.reducePow, Nat.reducePow]) | (refine wk_intro (by kernel_rfl) ?_) | (refine vf_of (by first | exact m1) ?_))
  refine vp_loop_inv (fun s => s.tmp 13 = .sv (.sl l.length cs) ∧ s.tmp 14 = .sv (.int .i64 (l.length : Int)) ∧ s.tmp 3 = .ptr 3 0 0 ∧ s.obj 3 0 = some (rvC (meanR l)) ∧
      ∃ i : Nat, s.tmp 15 = .sv (.int .i64 (i : Int)) ∧ i ≤ l.length ∧ ((i = 0 ∧ s.tmp 5 = .nil ∧ s.gen 24 = 0) ∨ (0 < i ∧ s.tmp 5 = .ref 24 0 3 0 i ∧ s.obj 24 0 = some (rvsC ((offR l).take i)))))
    (fun s => match s.tmp 15 with | .sv (.int _ i) => l.length - i.toNat | _ => 0) ⟨rfl, rfl, rfl, rfl, 0, rfl, by omega, .inl ⟨rfl, rfl, rfl⟩⟩ ?_
  rintro s2 ⟨i13, i14, i3, iO, i, i15, hi, hc⟩
  by_cases hend : i = l.length
  · subst hend
    rcases hc with ⟨h00, _⟩ | ⟨_, i5, iP⟩
    · omega
    · rw [List.take_of_length_le (by omega)] at iP
      have hrl := rvsC_len (offR l)
      repeat (first | (simp only [go_sem, Nat.reduceEqDiff, Nat.reduceAdd, Nat.reduceSub, Nat.reduceMul, Nat.reduceLeDiff, Nat.reduceLT, reduceIte, reduceCtorEq, Nat.succ_ne_zero, elemsC, Int.reduceToNat, Nat.reducePow, i13, i14, i3, iO, i15, i5, iP, rvC]) | (simp (disch := (first | omega | (simp only [AL, List.length_map]; omega))) only [AR, AL, ifT, ifF, take_all, List.length_cons, List.length_nil, Int.reduceToNat, Int.reducePow, Nat.reducePow, i13, i14, i3, iO, i15, i5, iP, rvC]) | (refine wk_intro (by kernel_rfl) ?_))
      refine ro_ref (cs := rvsC (offR l)) (by decide) ?_ ?_
      · simp only [go_sem, Nat.reduceEqDiff, Nat.reduceAdd, Nat.reduceSub, Nat.reduceMul, Nat.reduceLeDiff, Nat.reduceLT, reduceIte, reduceCtorEq, Nat.succ_ne_zero, elemsC, Int.reduceToNat, Nat.reducePow, i5, iP]
      · rw [List.drop_zero, List.take_of_length_le (by omega)]
  · obtain ⟨s, n, d, rest, hat, hA⟩ := row_at (i := i) h (by omega)
    have a := rat_Sub hA (RatA_rv zm) hL (by omega) (by omega)
    have hd : (offR l).getD i 0 = l.getD i 0 - meanR l := by unfold offR; rw [getD_map l _ (by omega)]
    have hsn := rvs_snoc (l := offR l) (i := i) (by omega)
    rw [hd] at hsn
    have hrl := rvsC_len ((offR l).take i)
    rw [List.length_take, hol, Nat.min_eq_left (by omega)] at hrl
    clear hz zm h hd hA
    rcases hc with ⟨h00, i5, ig⟩ | ⟨h00, i5, iP⟩
    · subst h00
      rw [List.take_zero, rvsC_nil, List.nil_append] at hsn
      rw [Nat.zero_mul, List.drop_zero] at hat
      subst hat
      repeat (first | (simp only [go_sem, Nat.reduceEqDiff, Nat.reduceAdd, Nat.reduceSub, Nat.reduceMul, Nat.reduceLeDiff, Nat.reduceLT, reduceIte, reduceCtorEq, Nat.succ_ne_zero, elemsC, Int.reduceToNat, Nat.reducePow, i13, i14, i3, iO, i15, i5, ig, rvC, N0]) | (simp (disch := (first | omega | (simp only [AL, List.length_map]; omega))) only [AR, AL, ifT, ifF, take_all, List.length_cons, List.length_nil, Int.reduceToNat, Int.reducePow, Nat.reducePow, i13, i14, i3, iO, i15, i5, ig, rvC, N0]) | (refine wk_intro (by kernel_rfl) ?_) | (refine vf_of (by first | exact a) ?_))
      exact ⟨⟨1, rfl, by omega, .inr ⟨by omega, rfl, by first | (rw [← hsn]; rfl) | rw [← hsn]⟩⟩, by omega⟩
    · unfold rvC at hsn
      repeat (first | (simp only [go_sem, Nat.reduceEqDiff, Nat.reduceAdd, Nat.reduceSub, Nat.reduceMul, Nat.reduceLeDiff, Nat.reduceLT, reduceIte, reduceCtorEq, Nat.succ_ne_zero, elemsC, Int.reduceToNat, Nat.reducePow, i13, i14, i3, iO, i15, i5, iP, hat, hlen, rvC, N0, hsn, hrl]) | (simp (disch := (first | omega | (simp only [AL, List.length_map]; omega))) only [AR, AL, ifT, ifF, take_all, List.length_cons, List.length_nil, Int.reduceToNat, Int.reducePow, Nat.reducePow, i13, i14, i3, iO, i15, i5, iP, hat, hlen, rvC, N0, hsn, hrl]) | (refine wk_intro (by kernel_rfl) ?_) | (refine vf_of (by first | exact a) ?_))
      exact ⟨⟨i + 1, rfl, by omega, .inr ⟨by omega, rfl, by first | (rw [← hsn]; rfl) | rw [← hsn]⟩⟩, by omega⟩
theorem stat_products {l : List Rat} {L : Nat} (hz : ∀ x ∈ l, szR x L) (hL : 1 ≤ L) (hL2 : L ≤ 1000000) (hl : l.length ≤ 12) :
    Go.Ev.Fn CX 168 [.sl l.length (rvsC l), .sl l.length (rvsC l)] (rv (sumR (l.map fun x => x * x))) := by
  have r0 := rat_Int 0 (by omega)
  have hlen := rvsC_len l
  have hz2 := sz_map (f := fun x => x * x) hz (fun x hx => szR_mul hx hx hL)
  generalize hcs : rvsC l = cs at *
  refine Go.Ev.Fn.intro (fn := Tryz.f168) (body := (Tryz.f168).body.get!) (by kernel_rfl) (by kernel_rfl) (by kernel_rfl) (fun _ => rfl) (Nat.le_of_ble_eq_true (by kernel_rfl)) ?_; unfold Tryz.f168; simp only [Option.get!_some]
  repeat (first | (simp only [go_sem, Nat.reduceEqDiff, Nat.reduceAdd, Nat.reduceSub, Nat.reduceMul, Nat.reduceLeDiff, Nat.reduceLT, reduceIte, reduceCtorEq, Nat.succ_ne_zero, elemsC, Int.reduceToNat, Nat.reducePow]) | (simp (disch := (first | omega | (simp only [AL, List.length_map]; omega))) only [AR, AL, ifT, ifF, take_all, List.length_cons, List.length_nil, Int.reduceToNat, Int.reducePow, Nat.reducePow]) | (refine wk_intro (by kernel_rfl) ?_) | (refine vp_draw (id := 5) (l := []) (by kernel_rfl) ?_) | (refine vf_of (by first | exact r0) ?_))
  refine vp_loop_inv (fun s => s.tmp 9 = .sv (.sl l.length cs) ∧ s.tmp 1 = .sv (.sl l.length cs) ∧ s.tmp 10 = .sv (.int .i64 (l.length : Int)) ∧ s.tmp 4 = .ptr 4 0 0 ∧ s.obj 4 0 = some [.bool false, .sl 0 [], .sl 0 []] ∧ s.tmp 5 = .ptr 5 0 0 ∧
      ∃ i : Nat, s.tmp 11 = .sv (.int .i64 (i : Int)) ∧ i ≤ l.length ∧ s.obj 5 0 = some (rvC (sumR ((l.map fun x => x * x).take i))))
    (fun s => match s.tmp 11 with | .sv (.int _ i) => l.length - i.toNat | _ => 0) ⟨rfl, rfl, rfl, rfl, rfl, rfl, 0, rfl, by omega, rfl⟩ ?_
  rintro s2 ⟨i9, i1, i10, i4, iO, i5, i, i11, hi, iP⟩
  by_cases hend : i = l.length
  · subst hend
    rw [List.take_of_length_le (by rw [List.length_map]; omega)] at iP
    repeat (first | (simp only [go_sem, Nat.reduceEqDiff, Nat.reduceAdd, Nat.reduceSub, Nat.reduceMul, Nat.reduceLeDiff, Nat.reduceLT, reduceIte, reduceCtorEq, Nat.succ_ne_zero, elemsC, Int.reduceToNat, Nat.reducePow, i9, i1, i10, i4, iO, i5, i11, iP, rvC]) | (simp (disch := (first | omega | (simp only [AL, List.length_map]; omega))) only [AR, AL, ifT, ifF, take_all, List.length_cons, List.length_nil, Int.reduceToNat, Int.reducePow, Nat.reducePow, i9, i1, i10, i4, iO, i5, i11, iP, rvC]) | (refine wk_intro (by kernel_rfl) ?_) | (refine vp_draw (id := 5) (l := []) (by kernel_rfl) ?_))
  · obtain ⟨rest, hat⟩ := rvsC_at (l := l) (i := i) (by omega)
    rw [hcs] at hat
    have hm := hz _ (getD_mem (l := l) (i := i) (by omega))
    have m1 := rat_Mul (RatA_rv hm) (RatA_rv hm) hL hL (by omega)
    have hS := sumR_take (l.map fun x => x * x) (i := i) (by rw [List.length_map]; omega)
    rw [getD_map l _ (by omega)] at hS
    have a := rat_Add (RatA_rv (sz_take12 (by omega) hz2 (by rw [List.length_map]; omega) i)) (RatA_rv (szR_mul hm hm hL)) (by omega) (by omega) (by omega)
    rw [← hS] at a
    generalize l.getD i 0 = x at *
    clear hz hz2 hm hS
    repeat (first | (simp only [go_sem, Nat.reduceEqDiff, Nat.reduceAdd, Nat.reduceSub, Nat.reduceMul, Nat.reduceLeDiff, Nat.reduceLT, reduceIte, reduceCtorEq, Nat.succ_ne_zero, elemsC, Int.reduceToNat, Nat.reducePow, i9, i1, i10, i4, iO, i5, i11, iP, rvC, hat, hlen, List.cons_append, List.nil_append]) | (simp (disch := (first | omega | (simp only [AL, List.length_map]; omega))) only [AR, AL, ifT, ifF, take_all, List.length_cons, List.length_nil, Int.reduceToNat, Int.reducePow, Nat.reducePow, i9, i1, i10, i4, iO, i5, i11, iP, rvC, hat, hlen, List.cons_append, List.nil_append]) | (refine wk_intro (by kernel_rfl) ?_) | (refine vp_draw (id := 5) (l := []) (by kernel_rfl) ?_) | (refine vf_of (by first | exact m1 | exact a) ?_))
    exact ⟨⟨i + 1, rfl, by omega, rfl⟩, by omega⟩
theorem stat_Covariance {cs : List SV} {l : List Rat} {L : Nat} (h : RowC cs l L) (hL : 1 ≤ L) (hL2 : L ≤ 10000) (hl : l.length ≤ 12) :
    Go.Ev.Fn CX 154 [.sl l.length cs, .sl l.length cs] (if l.length < 2 then numE 0 5 else numE (varR l) 0) := by
  have r0 := rat_Int 0 (by omega)
  by_cases h0 : l.length < 2
  · rw [if_pos h0]
    refine Go.Ev.Fn.intro (fn := Tryz.f154) (body := (Tryz.f154).body.get!) (by kernel_rfl) (by kernel_rfl) (by kernel_rfl) (fun _ => rfl) (Nat.le_of_ble_eq_true (by kernel_rfl)) ?_; unfold Tryz.f154; simp only [Option.get!_some]
    repeat (first | (simp only [go_sem, Nat.reduceEqDiff, Nat.reduceAdd, Nat.reduceSub, Nat.reduceMul, Nat.reduceLeDiff, Nat.reduceLT, reduceIte, reduceCtorEq, Nat.succ_ne_zero, elemsC, Int.reduceToNat, Nat.reducePow]) | (simp (disch := (first | omega | (simp only [AL, List.length_map]; omega))) only [AR, AL, ifT, ifF, take_all, List.length_cons, List.length_nil, Int.reduceToNat, Int.reducePow, Nat.reducePow]) | (refine wk_intro (by kernel_rfl) ?_) | (refine vf_of (by first | exact r0) ?_))
    rfl
  · rw [if_neg h0]
    have s1 := stat_off h hL (by omega) hl (by omega)
    have hz := row_sz hL h
    have zo := sz_off hL hz hl
    have p1 := stat_products zo (by omega) (by omega) (by unfold offR; rw [List.length_map]; exact hl)
    rw [show (offR l).length = l.length by unfold offR; rw [List.length_map], show sumR ((offR l).map fun x => x * x) = sqR l from rfl] at p1
    have b1 := stat_by (n := (l.length : Int) - 1) (RatA_rv (sz_sq hL hz hl)) (by omega) (by omega) (by omega)
    rw [show sqR l / (((l.length : Int) - 1 : Int) : Rat) = varR l from rfl, show (l.length : Int) - 1 = ((l.length - 1 : Nat) : Int) by omega] at b1
    clear h zo hz
    refine Go.Ev.Fn.intro (fn := Tryz.f154) (body := (Tryz.f154).body.get!) (by kernel_rfl) (by kernel_rfl) (by kernel_rfl) (fun _ => rfl) (Nat.le_of_ble_eq_true (by kernel_rfl)) ?_; unfold Tryz.f154; simp only [Option.get!_some]
    repeat (first | (simp only [go_sem, Nat.reduceEqDiff, Nat.reduceAdd, Nat.reduceSub, Nat.reduceMul, Nat.reduceLeDiff, Nat.reduceLT, reduceIte, reduceCtorEq, Nat.succ_ne_zero, elemsC, Int.reduceToNat, Nat.reducePow]) | (simp (disch := (first | omega | (simp only [AL, List.length_map]; omega))) only [AR, AL, ifT, ifF, take_all, List.length_cons, List.length_nil, Int.reduceToNat, Int.reducePow, Nat.reducePow]) | (refine wk_intro (by kernel_rfl) ?_) | (refine vf_of (by first | exact s1 | exact p1 | exact b1) ?_))
theorem stat_Variance {cs : List SV} {l : List Rat} {L : Nat} (h : RowC cs l L) (hL : 1 ≤ L) (hL2 : L ≤ 10000) (hl : l.length ≤ 12) :
    Go.Ev.Fn CX 116 [.sl l.length cs] (if l.length < 2 then numE 0 5 else numE (varR l) 0) := by
  have c1 := stat_Covariance h hL hL2 hl
  by_cases h0 : l.length < 2
  · rw [if_pos h0] at c1 ⊢
    refine Go.Ev.Fn.intro (fn := Tryz.f116) (body := (Tryz.f116).body.get!) (by kernel_rfl) (by kernel_rfl) (by kernel_rfl) (fun _ => rfl) (Nat.le_of_ble_eq_true (by kernel_rfl)) ?_; unfold Tryz.f116; simp only [Option.get!_some]
    repeat (first | (simp only [go_sem, Nat.reduceEqDiff, Nat.reduceAdd, Nat.reduceSub, Nat.reduceMul, Nat.reduceLeDiff, Nat.reduceLT, reduceIte, reduceCtorEq, Nat.succ_ne_zero, elemsC, Int.reduceToNat, Nat.reducePow]) | (simp (disch := (first | omega | (simp only [AL, List.length_map]; omega))) only [AR, AL, ifT, ifF, take_all, List.length_cons, List.length_nil, Int.reduceToNat, Int.reducePow, Nat.reducePow]) | (refine wk_intro (by kernel_rfl) ?_) | (refine vf_of (by first | exact c1) ?_))
  · rw [if_neg h0] at c1 ⊢
    refine Go.Ev.Fn.intro (fn := Tryz.f116) (body := (Tryz.f116).body.get!) (by kernel_rfl) (by kernel_rfl) (by kernel_rfl) (fun _ => rfl) (Nat.le_of_ble_eq_true (by kernel_rfl)) ?_; unfold Tryz.f116; simp only [Option.get!_some]
    repeat (first | (simp only [go_sem, Nat.reduceEqDiff, Nat.reduceAdd, Nat.reduceSub, Nat.reduceMul, Nat.reduceLeDiff, Nat.reduceLT, reduceIte, reduceCtorEq, Nat.succ_ne_zero, elemsC, Int.reduceToNat, Nat.reducePow]) | (simp (disch := (first | omega | (simp only [AL, List.length_map]; omega))) only [AR, AL, ifT, ifF, take_all, List.length_cons, List.length_nil, Int.reduceToNat, Int.reducePow, Nat.reducePow]) | (refine wk_intro (by kernel_rfl) ?_) | (refine vf_of (by first | exact c1) ?_))
theorem stat_Central {cs : List SV} {l : List Rat} {L : Nat} (h : RowC cs l L) (hL : 1 ≤ L) (hL2 : L ≤ 10000) (hl : l.length ≤ 12) (h0 : 1 ≤ l.length) :
    Go.Ev.Fn CX 155 [.int .i64 2, .sl l.length cs] (numE (sqR l / ((l.length : Int) : Rat)) 0) := by
  have r0 := rat_Int 0 (by omega)
  have r1 := rat_Int 1 (by omega)
  have s1 := stat_off h hL (by omega) hl (by omega)
  have hz := row_sz hL h
  have zo := sz_off hL hz hl
  have hol : (offR l).length = l.length := by unfold offR; rw [List.length_map]
  have b1 := stat_by (n := (l.length : Int)) (RatA_rv (sz_sq hL hz hl)) (by omega) (by omega) (by omega)
  have zs := fun i => sz_take12 (by omega) (sz_map (f := fun x => x * x) zo (fun x hx => szR_mul hx hx (by omega))) (by rw [List.length_map]; omega) i
  have hst := fun {i : Nat} (hi : i < l.length) => sumR_take ((offR l).map fun x => x * x) (i := i) (by rw [List.length_map]; omega)
  have hgd := fun {i : Nat} (hi : i < l.length) => getD_map (offR l) (fun x => x * x) (i := i) (by omega)
  have hall : sumR (((offR l).map fun x => x * x).take l.length) = sqR l := by rw [List.take_of_length_le (by rw [List.length_map]; omega)]; rfl
  have hat := fun {i : Nat} (hi : i < l.length) => rvsC_at (l := offR l) (i := i) (by omega)
  have hlen := rvsC_len (offR l)
  have hzm := fun {i : Nat} (hi : i < l.length) => zo _ (getD_mem (l := offR l) (i := i) (by omega))
  have hsum0 : sumR (((offR l).map fun x => x * x).take 0) = 0 := rfl
  rw [hol] at hlen
  generalize hS : (fun i => sumR (((offR l).map fun x => x * x).take i)) = S at *
  have hSi : ∀ i, sumR (((offR l).map fun x => x * x).take i) = S i := fun i => by rw [← hS]
  simp only [hSi] at zs hst hall hsum0
  generalize sqR l = q at *
  generalize hcs : rvsC (offR l) = ds at *
  clear h hz zo
  refine Go.Ev.Fn.intro (fn := Tryz.f155) (body := (Tryz.f155).body.get!) (by kernel_rfl) (by kernel_rfl) (by kernel_rfl) (fun _ => rfl) (Nat.le_of_ble_eq_true (by kernel_rfl)) ?_; unfold Tryz.f155; simp only [Option.get!_some]
  repeat (first | (simp only [go_sem, Nat.reduceEqDiff, Nat.reduceAdd, Nat.reduceSub, Nat.reduceMul, Nat.reduceLeDiff, Nat.reduceLT, reduceIte, reduceCtorEq, Nat.succ_ne_zero, elemsC, Int.reduceToNat, Nat.reducePow]) | (simp (disch := (first | omega | (simp only [AL, List.length_map]; omega))) only [AR, AL, ifT, ifF, take_all, List.length_cons, List.length_nil, Int.reduceToNat, Int.reducePow, Nat.reducePow]) | (refine wk_intro (by kernel_rfl) ?_) | (refine vf_of (by first | exact r0 | exact s1) ?_))
  refine vp_loop_inv (fun s => s.tmp 0 = .sv (.int .i64 2) ∧ s.tmp 1 = .sv (.sl l.length cs) ∧ s.tmp 4 = .ptr 4 0 0 ∧ s.obj 4 0 = some [.bool false, .sl 0 [], .sl 0 []] ∧ s.tmp 6 = .ptr 6 0 0 ∧ s.tmp 25 = .sv (.sl l.length ds) ∧ s.tmp 26 = .sv (.int .i64 (l.length : Int)) ∧
      ∃ i : Nat, s.tmp 27 = .sv (.int .i64 (i : Int)) ∧ i ≤ l.length ∧ s.obj 6 0 = some (rvC (S i)))
    (fun s => match s.tmp 27 with | .sv (.int _ i) => l.length - i.toNat | _ => 0) ⟨rfl, rfl, rfl, rfl, rfl, rfl, rfl, 0, rfl, by omega, by rw [hsum0]; rfl⟩ ?_
  rintro s2 ⟨i0, i1, i4, iO, i6, i25, i26, i, i27, hi, iP⟩
  by_cases hend : i = l.length
  · subst hend
    rw [hall] at iP
    repeat (first | (simp only [go_sem, Nat.reduceEqDiff, Nat.reduceAdd, Nat.reduceSub, Nat.reduceMul, Nat.reduceLeDiff, Nat.reduceLT, reduceIte, reduceCtorEq, Nat.succ_ne_zero, elemsC, Int.reduceToNat, Nat.reducePow, i0, i1, i4, iO, i6, i25, i26, i27, iP, rvC]) | (simp (disch := (first | omega | (simp only [AL, List.length_map]; omega))) only [AR, AL, ifT, ifF, take_all, List.length_cons, List.length_nil, Int.reduceToNat, Int.reducePow, Nat.reducePow, i0, i1, i4, iO, i6, i25, i26, i27, iP, rvC]) | (refine wk_intro (by kernel_rfl) ?_) | (refine vf_of (by first | exact b1) ?_))
  · obtain ⟨rest, g1⟩ := hat (i := i) (by omega)
    have z1 := hzm (i := i) (by omega)
    have e1 := hst (i := i) (by omega)
    rw [hgd (by omega)] at e1
    have m1 := rat_Mul (RatA_rv (int_szR (n := 1) (by omega))) (RatA_rv z1) (by omega) (by omega) (by omega)
    generalize (offR l).getD i 0 = x at *
    rw [show ((1 : Int) : Rat) * x = x by show (1 : Rat) * x = x; exact Rat.one_mul x] at m1
    have m2 := rat_Mul (RatA_rv z1) (RatA_rv z1) (by omega) (by omega) (by omega)
    have a1 := rat_Add (RatA_rv (zs i)) (RatA_rv (szR_mul z1 z1 (by omega))) (by omega) (by omega) (by omega)
    rw [← e1] at a1
    clear hat hzm hst hgd hall hsum0 e1 z1
    repeat (first | (simp only [go_sem, Nat.reduceEqDiff, Nat.reduceAdd, Nat.reduceSub, Nat.reduceMul, Nat.reduceLeDiff, Nat.reduceLT, reduceIte, reduceCtorEq, Nat.succ_ne_zero, elemsC, Int.reduceToNat, Nat.reducePow, i0, i1, i4, iO, i6, i25, i26, i27, iP, g1, hlen, List.cons_append, List.nil_append, rvC]) | (simp (disch := (first | omega | (simp only [AL, List.length_map]; omega))) only [AR, AL, ifT, ifF, take_all, List.length_cons, List.length_nil, Int.reduceToNat, Int.reducePow, Nat.reducePow, i0, i1, i4, iO, i6, i25, i26, i27, iP, g1, hlen, List.cons_append, List.nil_append, rvC]) | (refine wk_intro (by kernel_rfl) ?_) | (refine vf_of (by first | exact r1) ?_))
    refine vp_loop_inv (fun s => s.tmp 0 = .sv (.int .i64 2) ∧ s.tmp 1 = .sv (.sl l.length cs) ∧ s.tmp 4 = .ptr 4 0 0 ∧ s.obj 4 0 = some [.bool false, .sl 0 [], .sl 0 []] ∧ s.tmp 6 = .ptr 6 0 0 ∧ s.tmp 25 = .sv (.sl l.length ds) ∧ s.tmp 26 = .sv (.int .i64 (l.length : Int)) ∧
        s.tmp 27 = .sv (.int .i64 (i : Int)) ∧ s.obj 6 0 = some (rvC (S i)) ∧ s.tmp 32 = .sv (.int .i64 2) ∧
        ∃ g8 g9, s.tmp 8 = .ptr 8 g8 0 ∧ s.tmp 9 = .ptr 9 g9 0 ∧ s.obj 8 g8 = some (rvC x) ∧ ((s.tmp 33 = .sv (.int .i64 0) ∧ s.obj 9 g9 = some (rvC ((1 : Int) : Rat))) ∨ (s.tmp 33 = .sv (.int .i64 1) ∧ s.obj 9 g9 = some (rvC x)) ∨ (s.tmp 33 = .sv (.int .i64 2) ∧ s.obj 9 g9 = some (rvC (x * x)))))
      (fun s => match s.tmp 33 with | .sv (.int _ i) => 2 - i.toNat | _ => 0) ⟨i0, i1, i4, iO, i6, i25, i26, i27, iP, rfl, _, _, rfl, rfl, ?_, .inl ⟨rfl, ?_⟩⟩ ?_
    · simp only [go_sem, Nat.reduceEqDiff, Nat.reduceAdd, Nat.reduceSub, Nat.reduceMul, Nat.reduceLeDiff, Nat.reduceLT, reduceIte, reduceCtorEq, Nat.succ_ne_zero, elemsC, Int.reduceToNat, Nat.reducePow, rvC]
    · simp only [go_sem, Nat.reduceEqDiff, Nat.reduceAdd, Nat.reduceSub, Nat.reduceMul, Nat.reduceLeDiff, Nat.reduceLT, reduceIte, reduceCtorEq, Nat.succ_ne_zero, elemsC, Int.reduceToNat, Nat.reducePow, rvC]
    rintro s3 ⟨k0, k1, k4, kO, k6, k25, k26, k27, kP, k32, g8, g9, k8, k9, o8, h33⟩
    rcases h33 with ⟨k33, o9⟩ | ⟨k33, o9⟩ | ⟨k33, o9⟩
    · repeat (first | (simp only [go_sem, Nat.reduceEqDiff, Nat.reduceAdd, Nat.reduceSub, Nat.reduceMul, Nat.reduceLeDiff, Nat.reduceLT, reduceIte, reduceCtorEq, Nat.succ_ne_zero, elemsC, Int.reduceToNat, Nat.reducePow, k0, k1, k4, kO, k6, k25, k26, k27, kP, k32, k8, k9, o8, k33, o9, rvC]) | (simp (disch := (first | omega | (simp only [AL, List.length_map]; omega))) only [AR, AL, ifT, ifF, take_all, List.length_cons, List.length_nil, Int.reduceToNat, Int.reducePow, Nat.reducePow, k0, k1, k4, kO, k6, k25, k26, k27, kP, k32, k8, k9, o8, k33, o9, rvC]) | (refine wk_intro (by kernel_rfl) ?_))
      refine vf_of (m1) ?_; repeat (first | (simp only [go_sem, Nat.reduceEqDiff, Nat.reduceAdd, Nat.reduceSub, Nat.reduceMul, Nat.reduceLeDiff, Nat.reduceLT, reduceIte, reduceCtorEq, Nat.succ_ne_zero, elemsC, Int.reduceToNat, Nat.reducePow, k0, k1, k4, kO, k6, k25, k26, k27, kP, k32, k8, k9, o8, k33, o9, rvC]) | (simp (disch := (first | omega | (simp only [AL, List.length_map]; omega))) only [AR, AL, ifT, ifF, take_all, List.length_cons, List.length_nil, Int.reduceToNat, Int.reducePow, Nat.reducePow, k0, k1, k4, kO, k6, k25, k26, k27, kP, k32, k8, k9, o8, k33, o9, rvC]) | (refine wk_intro (by kernel_rfl) ?_))
      exact ⟨⟨_, _, rfl, rfl, o8, .inr (.inl ⟨rfl, if_pos rfl⟩)⟩, by omega⟩
    · repeat (first | (simp only [go_sem, Nat.reduceEqDiff, Nat.reduceAdd, Nat.reduceSub, Nat.reduceMul, Nat.reduceLeDiff, Nat.reduceLT, reduceIte, reduceCtorEq, Nat.succ_ne_zero, elemsC, Int.reduceToNat, Nat.reducePow, k0, k1, k4, kO, k6, k25, k26, k27, kP, k32, k8, k9, o8, k33, o9, rvC]) | (simp (disch := (first | omega | (simp only [AL, List.length_map]; omega))) only [AR, AL, ifT, ifF, take_all, List.length_cons, List.length_nil, Int.reduceToNat, Int.reducePow, Nat.reducePow, k0, k1, k4, kO, k6, k25, k26, k27, kP, k32, k8, k9, o8, k33, o9, rvC]) | (refine wk_intro (by kernel_rfl) ?_))
      refine vf_of (m2) ?_; repeat (first | (simp only [go_sem, Nat.reduceEqDiff, Nat.reduceAdd, Nat.reduceSub, Nat.reduceMul, Nat.reduceLeDiff, Nat.reduceLT, reduceIte, reduceCtorEq, Nat.succ_ne_zero, elemsC, Int.reduceToNat, Nat.reducePow, k0, k1, k4, kO, k6, k25, k26, k27, kP, k32, k8, k9, o8, k33, o9, rvC]) | (simp (disch := (first | omega | (simp only [AL, List.length_map]; omega))) only [AR, AL, ifT, ifF, take_all, List.length_cons, List.length_nil, Int.reduceToNat, Int.reducePow, Nat.reducePow, k0, k1, k4, kO, k6, k25, k26, k27, kP, k32, k8, k9, o8, k33, o9, rvC]) | (refine wk_intro (by kernel_rfl) ?_))
      exact ⟨⟨_, _, rfl, rfl, o8, .inr (.inr ⟨rfl, if_pos rfl⟩)⟩, by omega⟩
    · repeat (first | (simp only [go_sem, Nat.reduceEqDiff, Nat.reduceAdd, Nat.reduceSub, Nat.reduceMul, Nat.reduceLeDiff, Nat.reduceLT, reduceIte, reduceCtorEq, Nat.succ_ne_zero, elemsC, Int.reduceToNat, Nat.reducePow, k0, k1, k4, kO, k6, k25, k26, k27, kP, k32, k8, k9, o8, k33, o9, rvC]) | (simp (disch := (first | omega | (simp only [AL, List.length_map]; omega))) only [AR, AL, ifT, ifF, take_all, List.length_cons, List.length_nil, Int.reduceToNat, Int.reducePow, Nat.reducePow, k0, k1, k4, kO, k6, k25, k26, k27, kP, k32, k8, k9, o8, k33, o9, rvC]) | (refine wk_intro (by kernel_rfl) ?_))
      refine vf_of (a1) ?_; repeat (first | (simp only [go_sem, Nat.reduceEqDiff, Nat.reduceAdd, Nat.reduceSub, Nat.reduceMul, Nat.reduceLeDiff, Nat.reduceLT, reduceIte, reduceCtorEq, Nat.succ_ne_zero, elemsC, Int.reduceToNat, Nat.reducePow, k0, k1, k4, kO, k6, k25, k26, k27, kP, k32, k8, k9, o8, k33, o9, rvC]) | (simp (disch := (first | omega | (simp only [AL, List.length_map]; omega))) only [AR, AL, ifT, ifF, take_all, List.length_cons, List.length_nil, Int.reduceToNat, Int.reducePow, Nat.reducePow, k0, k1, k4, kO, k6, k25, k26, k27, kP, k32, k8, k9, o8, k33, o9, rvC]) | (refine wk_intro (by kernel_rfl) ?_))
      exact ⟨⟨i + 1, rfl, by omega, rfl⟩, by omega⟩
end Go.Proofs.YtodiciendlhkgaaGreat

/- A statistic's laws: plain mathematics, no program. -/
namespace Go.Proofs.YtodiciendlhkgaaGreat
open Go.Ev
abbrev lenR (l : List Rat) : Rat := ((l.length : Int) : Rat)
theorem lenR_cons (x : Rat) (l : List Rat) : lenR (x :: l) = lenR l + 1 := by
  show (((l.length + 1 : Nat) : Int) : Rat) = _
  rw [Int.natCast_add, Rat.intCast_add]; rfl
theorem lenR_ne {l : List Rat} (h : l ≠ []) : lenR l ≠ 0 := by
  intro h2
  have : (l.length : Int) = 0 := Rat.intCast_inj.1 h2
  exact h (List.length_eq_zero_iff.1 (by omega))
theorem sumR_lin (a b : Rat) (l : List Rat) : sumR (l.map fun x => x * a + b) = sumR l * a + lenR l * b := by
  induction l with
  | nil => rw [List.map_nil, sumR_nil, show lenR [] = 0 from rfl]; grind
  | cons x l ih => rw [List.map_cons, sumR_cons, sumR_cons, lenR_cons, ih]; grind
theorem sumR_scale (c : Rat) (l : List Rat) : sumR (l.map fun x => c * x) = c * sumR l := by
  induction l with
  | nil => rw [List.map_nil, sumR_nil]; grind
  | cons x l ih => rw [List.map_cons, sumR_cons, sumR_cons, ih]; grind
theorem div_cancel' {x n : Rat} (h : n ≠ 0) : x / n * n = x := Rat.div_mul_cancel h
theorem div_uniq {x y n : Rat} (h : n ≠ 0) (e : y * n = x) : x / n = y := by
  rw [← e]; exact Rat.mul_div_cancel h
theorem meanR_lin (a b : Rat) {l : List Rat} (h : l ≠ []) : meanR (l.map fun x => x * a + b) = meanR l * a + b := by
  unfold meanR
  rw [sumR_lin, List.length_map]
  have hn := lenR_ne h
  refine div_uniq hn ?_
  have e := div_cancel' (x := sumR l) hn
  show (sumR l / lenR l * a + b) * lenR l = _
  generalize sumR l / lenR l = m at *
  rw [← e]; grind
theorem offR_lin (a b : Rat) {l : List Rat} (h : l ≠ []) : offR (l.map fun x => x * a + b) = (offR l).map fun x => x * a := by
  unfold offR
  rw [meanR_lin a b h, List.map_map, List.map_map]
  refine List.map_congr_left fun x _ => ?_
  show x * a + b - (meanR l * a + b) = (x - meanR l) * a
  grind
theorem sqR_lin (a b : Rat) {l : List Rat} (h : l ≠ []) : sqR (l.map fun x => x * a + b) = (a * a) * sqR l := by
  unfold sqR
  rw [offR_lin a b h, List.map_map, ← sumR_scale, List.map_map]
  congr 1
  refine List.map_congr_left fun x _ => ?_
  show x * a * (x * a) = a * a * (x * x)
  grind
theorem varR_lin (a b : Rat) {l : List Rat} (h : l ≠ []) : varR (l.map fun x => x * a + b) = (a * a) * varR l := by
  unfold varR
  rw [sqR_lin a b h, List.length_map, Rat.div_def, Rat.div_def, Rat.mul_assoc]
/-- A statistic, its degrees, the error. -/
abbrev Res := Rat × List Int × Int
/-- A row's test. -/
def stuR (l : List Rat) (mu : Rat) : Res :=
  if l.length < 2 then (0, [], 5) else if varR l = 0 then (0, [], 5) else (lenR l * ((meanR l - mu) * (meanR l - mu)) / varR l, [(l.length : Int) - 1], 0)
theorem stuR_moves {a b mu : Rat} {l : List Rat} (ha : a ≠ 0) : stuR (l.map fun x => x * a + b) (mu * a + b) = stuR l mu := by
  unfold stuR lenR
  rw [List.length_map]
  by_cases h : l.length < 2
  · rw [if_pos h, if_pos h]
  · have hl : l ≠ [] := by rintro rfl; simp at h
    rw [if_neg h, if_neg h, varR_lin a b hl, meanR_lin a b hl]
    have haa : a * a ≠ 0 := fun e => by rcases Rat.mul_eq_zero.1 e with h | h <;> exact ha h
    by_cases hv : varR l = 0
    · rw [if_pos hv, if_pos (by rw [hv]; grind)]
    · have hv2 : a * a * varR l ≠ 0 := fun e => (Rat.mul_eq_zero.1 e).elim haa hv
      rw [if_neg hv, if_neg hv2]
      refine Prod.ext ?_ rfl
      refine div_uniq hv2 ?_
      show lenR l * ((meanR l - mu) * (meanR l - mu)) / varR l * (a * a * varR l) = _
      have e := div_cancel' (x := lenR l * ((meanR l - mu) * (meanR l - mu))) hv
      show _ = lenR l * _
      generalize lenR l * ((meanR l - mu) * (meanR l - mu)) / varR l = q at *
      grind
/-- Two rows pooled. -/
def poolR (a b : List Rat) : Res :=
  if a.length = 0 ∨ b.length = 0 ∨ a.length + b.length < 3 then (0, [], 5) else
  if (sqR a + sqR b) / (((a.length : Int) + (b.length : Int) - 2 : Int) : Rat) = 0 then (0, [], 5) else
  ((meanR a - meanR b) * (meanR a - meanR b) / ((sqR a + sqR b) / (((a.length : Int) + (b.length : Int) - 2 : Int) : Rat) * ((((a.length : Int) + (b.length : Int) : Int) : Rat) / (((a.length : Int) * (b.length : Int) : Int) : Rat))), [(a.length : Int) + (b.length : Int) - 2], 0)
theorem poolR_turn (a b : List Rat) : poolR a b = poolR b a := by
  unfold poolR
  rw [show (a.length : Int) + (b.length : Int) = (b.length : Int) + (a.length : Int) by omega, show (a.length : Int) * (b.length : Int) = (b.length : Int) * (a.length : Int) from Int.mul_comm _ _,
    show sqR a + sqR b = sqR b + sqR a by grind, show (meanR a - meanR b) * (meanR a - meanR b) = (meanR b - meanR a) * (meanR b - meanR a) by grind]
  by_cases h : a.length = 0 ∨ b.length = 0 ∨ a.length + b.length < 3
  · rw [if_pos h, if_pos (by omega)]
  · rw [if_neg h, if_neg (show ¬ (b.length = 0 ∨ a.length = 0 ∨ b.length + a.length < 3) by omega)]
/-- Two variances. -/
def fisR (a b : List Rat) : Res :=
  if a.length < 2 ∨ b.length < 2 then (0, [], 5) else if varR a = 0 ∨ varR b = 0 then (0, [], 5) else (varR a / varR b, [(a.length : Int) - 1, (b.length : Int) - 1], 0)
theorem fisR_turn (a b : List Rat) : ((fisR a b).2.2 = 5 ∧ (fisR b a).2.2 = 5) ∨ ((fisR a b).2 = ([(a.length : Int) - 1, (b.length : Int) - 1], 0) ∧ (fisR b a).2 = ([(b.length : Int) - 1, (a.length : Int) - 1], 0) ∧ (fisR a b).1 * (fisR b a).1 = 1) := by
  unfold fisR
  by_cases h : a.length < 2 ∨ b.length < 2
  · rw [if_pos h, if_pos (show b.length < 2 ∨ a.length < 2 by omega)]; exact .inl ⟨rfl, rfl⟩
  · rw [if_neg h, if_neg (show ¬ (b.length < 2 ∨ a.length < 2) by omega)]
    by_cases hv : varR a = 0 ∨ varR b = 0
    · rw [if_pos hv, if_pos (Or.symm hv)]; exact .inl ⟨rfl, rfl⟩
    · rw [if_neg hv, if_neg (fun h => hv (Or.symm h))]
      refine .inr ⟨rfl, rfl, ?_⟩
      show varR a / varR b * (varR b / varR a) = 1
      have ha : varR a ≠ 0 := fun h => hv (.inl h)
      have hb : varR b ≠ 0 := fun h => hv (.inr h)
      have e1 := div_cancel' (x := varR a) hb
      have e2 := div_cancel' (x := varR b) ha
      generalize varR a / varR b = p at *
      generalize varR b / varR a = q at *
      generalize varR a = x at *
      generalize varR b = y at *
      have : (p * q - 1) * x = 0 := by grind
      rcases Rat.mul_eq_zero.1 this with h | h
      · grind
      · exact absurd h ha
end Go.Proofs.YtodiciendlhkgaaGreat
