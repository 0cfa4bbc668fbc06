/- Part 7 of the proof: the evaluator, contracts of functions and their plain laws (joined by program). No condition. -/
import Derived.Test.YtigiblhmhmgagaaGreatPart6
/- The document's rationals (vernierref2): Norm, Of, Int, limbs, Same, Mul, Add, in the evaluator. -/
namespace Go.Proofs.YtigiblhmhmgagaaGreat
set_option linter.unusedSimpArgs false
set_option linter.unusedVariables false
set_option maxRecDepth 8000
open Go.Ev
theorem ref2_Norm {v : SV} {q : Rat} {L : Nat} (h : RatA v q L) (hL : L ≤ 16777216) : Go.Ev.Fn CX 38 [v] (rv q) := by
  obtain ⟨s, n, d, rfl, hn, hd, hl, hm, rfl⟩ := h
  have lx := lim_length_le hn
  have ly := lim_length_le hd
  have tn := ref1_Trim n hn (by omega)
  have td := ref1_Trim d hd (by omega)
  refine Go.Ev.Fn.intro (fn := Tryz.f38) (body := (Tryz.f38).body.get!) (by kernel_rfl) (by kernel_rfl) (by kernel_rfl) (fun _ => rfl) (Nat.le_of_ble_eq_true (by kernel_rfl)) ?_; unfold Tryz.f38; simp only [Option.get!_some]
  generalize wth n = N at *
  generalize wth d = D at *
  repeat (first | (simp only [go_sem, Nat.reduceEqDiff, Nat.reduceAdd, Nat.reduceSub, Nat.reduceMul, Nat.reduceLeDiff, Nat.reduceLT, reduceIte, reduceCtorEq, Nat.succ_ne_zero, elemsC, Int.reduceToNat, Nat.reducePow]) | (simp (disch := (first | omega | (simp only [AL, List.length_map]; omega))) only [AR, AL, ifT, ifF, take_all, List.length_cons, List.length_nil, Int.reduceToNat, Int.reducePow, Nat.reducePow]) | (refine wk_intro (by kernel_rfl) ?_) | (refine vp_draw (id := 1) (l := [7, 10]) (by kernel_rfl) ?_) | (refine vf_of (by first | exact tn | exact td) ?_))
  by_cases h : N = 0 ∨ D = 0
  · rw [mk_zero s h, rv_zero]
    by_cases hD : D = 0
    · have h0 : (lim D).length = 0 := by rw [hD, lim_zero]; rfl
      repeat (first | (simp only [go_sem, Nat.reduceEqDiff, Nat.reduceAdd, Nat.reduceSub, Nat.reduceMul, Nat.reduceLeDiff, Nat.reduceLT, reduceIte, reduceCtorEq, Nat.succ_ne_zero, elemsC, Int.reduceToNat, Nat.reducePow]) | (simp (disch := (first | omega | (simp only [AL, List.length_map]; omega))) only [AR, AL, ifT, ifF, take_all, List.length_cons, List.length_nil, Int.reduceToNat, Int.reducePow, Nat.reducePow]) | (refine wk_intro (by kernel_rfl) ?_) | (refine vp_draw (id := 1) (l := [7, 10]) (by kernel_rfl) ?_))
      rfl
    · have h0 : (lim N).length = 0 := by rw [h.resolve_right hD, lim_zero]; rfl
      have h1 := lim_pos hD
      repeat (first | (simp only [go_sem, Nat.reduceEqDiff, Nat.reduceAdd, Nat.reduceSub, Nat.reduceMul, Nat.reduceLeDiff, Nat.reduceLT, reduceIte, reduceCtorEq, Nat.succ_ne_zero, elemsC, Int.reduceToNat, Nat.reducePow]) | (simp (disch := (first | omega | (simp only [AL, List.length_map]; omega))) only [AR, AL, ifT, ifF, take_all, List.length_cons, List.length_nil, Int.reduceToNat, Int.reducePow, Nat.reducePow]) | (refine wk_intro (by kernel_rfl) ?_) | (refine vp_draw (id := 1) (l := [7, 10]) (by kernel_rfl) ?_))
      rfl
  · have hN : N ≠ 0 := fun e => h (.inl e)
    have hD : D ≠ 0 := fun e => h (.inr e)
    rw [mk_parts s hN hD]
    have h1 := lim_pos hN
    have h2 := lim_pos hD
    have hg : N.gcd D ≠ 0 := Nat.ne_of_gt (Nat.gcd_pos_of_pos_left _ (by omega))
    have h3 := lim_len_mono (Nat.gcd_le_left D (by omega : 0 < N))
    repeat (first | (simp only [go_sem, Nat.reduceEqDiff, Nat.reduceAdd, Nat.reduceSub, Nat.reduceMul, Nat.reduceLeDiff, Nat.reduceLT, reduceIte, reduceCtorEq, Nat.succ_ne_zero, elemsC, Int.reduceToNat, Nat.reducePow]) | (simp (disch := (first | omega | (simp only [AL, List.length_map]; omega))) only [AR, AL, ifT, ifF, take_all, List.length_cons, List.length_nil, Int.reduceToNat, Int.reducePow, Nat.reducePow]) | (refine wk_intro (by kernel_rfl) ?_) | (refine vp_draw (id := 1) (l := [7, 10]) (by kernel_rfl) ?_))
    refine vf_of (ref1_GcdL (by omega) (by omega)) ?_; repeat (first | (simp only [go_sem, Nat.reduceEqDiff, Nat.reduceAdd, Nat.reduceSub, Nat.reduceMul, Nat.reduceLeDiff, Nat.reduceLT, reduceIte, reduceCtorEq, Nat.succ_ne_zero, elemsC, Int.reduceToNat, Nat.reducePow]) | (simp (disch := (first | omega | (simp only [AL, List.length_map]; omega))) only [AR, AL, ifT, ifF, take_all, List.length_cons, List.length_nil, Int.reduceToNat, Int.reducePow, Nat.reducePow]) | (refine wk_intro (by kernel_rfl) ?_) | (refine vp_draw (id := 1) (l := [7, 10]) (by kernel_rfl) ?_))
    refine vf_of (ref1_DivL hg (by omega) (by omega)) ?_; repeat (first | (simp only [go_sem, Nat.reduceEqDiff, Nat.reduceAdd, Nat.reduceSub, Nat.reduceMul, Nat.reduceLeDiff, Nat.reduceLT, reduceIte, reduceCtorEq, Nat.succ_ne_zero, elemsC, Int.reduceToNat, Nat.reducePow]) | (simp (disch := (first | omega | (simp only [AL, List.length_map]; omega))) only [AR, AL, ifT, ifF, take_all, List.length_cons, List.length_nil, Int.reduceToNat, Int.reducePow, Nat.reducePow]) | (refine wk_intro (by kernel_rfl) ?_) | (refine vp_draw (id := 1) (l := [7, 10]) (by kernel_rfl) ?_))
    refine vf_of (ref1_DivL hg (by omega) (by omega)) ?_; repeat (first | (simp only [go_sem, Nat.reduceEqDiff, Nat.reduceAdd, Nat.reduceSub, Nat.reduceMul, Nat.reduceLeDiff, Nat.reduceLT, reduceIte, reduceCtorEq, Nat.succ_ne_zero, elemsC, Int.reduceToNat, Nat.reducePow]) | (simp (disch := (first | omega | (simp only [AL, List.length_map]; omega))) only [AR, AL, ifT, ifF, take_all, List.length_cons, List.length_nil, Int.reduceToNat, Int.reducePow, Nat.reducePow]) | (refine wk_intro (by kernel_rfl) ?_) | (refine vp_draw (id := 1) (l := [7, 10]) (by kernel_rfl) ?_))
theorem ref2_Of (s : Bool) (n d : List Nat) (hn : okL n) (hd : okL d) (hl : n.length ≤ 16777216) (hm : d.length ≤ 16777216) :
    Go.Ev.Fn CX 19 [.bool s, natV n, natV d] (rv (mkRat (sgn s (wth n)) (wth d))) := by
  have hN := ref2_Norm (v := ratV s n d) (L := 16777216) ⟨s, n, d, rfl, hn, hd, hl, hm, rfl⟩ (by omega)
  refine Go.Ev.Fn.intro (fn := Tryz.f19) (body := (Tryz.f19).body.get!) (by kernel_rfl) (by kernel_rfl) (by kernel_rfl) (fun _ => rfl) (Nat.le_of_ble_eq_true (by kernel_rfl)) ?_; unfold Tryz.f19; simp only [Option.get!_some]
  repeat (first | (simp only [go_sem, Nat.reduceEqDiff, Nat.reduceAdd, Nat.reduceSub, Nat.reduceMul, Nat.reduceLeDiff, Nat.reduceLT, reduceIte, reduceCtorEq, Nat.succ_ne_zero, elemsC, Int.reduceToNat, Nat.reducePow]) | (simp (disch := (first | omega | (simp only [AL, List.length_map]; omega))) only [AR, AL, ifT, ifF, take_all, List.length_cons, List.length_nil, Int.reduceToNat, Int.reducePow, Nat.reducePow]) | (refine wk_intro (by kernel_rfl) ?_) | (refine vf_of (by first | exact hN) ?_))
theorem ref2_OfL {s : Bool} {n d : Nat} (hl : (lim n).length ≤ 16777216) (hm : (lim d).length ≤ 16777216) :
    Go.Ev.Fn CX 19 [.bool s, natV (lim n), natV (lim d)] (rv (mkRat (sgn s n) d)) := by
  have h := ref2_Of s (lim n) (lim d) (okL_lim _) (okL_lim _) hl hm
  rwa [wth_lim, wth_lim] at h
theorem ref2_Mul {v w : SV} {q r : Rat} {L M : Nat} (hv : RatA v q L) (hw : RatA w r M) (hL : 1 ≤ L) (hM : 1 ≤ M) (h : L + M ≤ 8388608) : Go.Ev.Fn CX 67 [v, w] (rv (q * r)) := by
  have hnv := ref2_Norm hv (by omega)
  have hnw := ref2_Norm hw (by omega)
  obtain ⟨z1, z2⟩ := szR_of hv hL
  obtain ⟨y1, y2⟩ := szR_of hw hM
  have g1 := lim_len_mul (a := q.num.natAbs) (b := r.num.natAbs)
  have g2 := lim_len_mul (a := q.den) (b := r.den)
  have hOf := ref2_OfL (s := !(decide (q.num < 0) == decide (r.num < 0))) (n := q.num.natAbs * r.num.natAbs) (d := q.den * r.den) (by omega) (by omega)
  rw [mul_parts] at hOf
  obtain ⟨s, n, d, rfl, -⟩ := hv
  obtain ⟨s', n', d', rfl, -⟩ := hw
  refine Go.Ev.Fn.intro (fn := Tryz.f67) (body := (Tryz.f67).body.get!) (by kernel_rfl) (by kernel_rfl) (by kernel_rfl) (fun _ => rfl) (Nat.le_of_ble_eq_true (by kernel_rfl)) ?_; unfold Tryz.f67; simp only [Option.get!_some]
  repeat (first | (simp only [go_sem, Nat.reduceEqDiff, Nat.reduceAdd, Nat.reduceSub, Nat.reduceMul, Nat.reduceLeDiff, Nat.reduceLT, reduceIte, reduceCtorEq, Nat.succ_ne_zero, elemsC, Int.reduceToNat, Nat.reducePow]) | (simp (disch := (first | omega | (simp only [AL, List.length_map]; omega))) only [AR, AL, ifT, ifF, take_all, List.length_cons, List.length_nil, Int.reduceToNat, Int.reducePow, Nat.reducePow]) | (refine wk_intro (by kernel_rfl) ?_) | (refine vp_draw (id := 1) (l := []) (by kernel_rfl) ?_) | (refine vp_draw (id := 2) (l := [17, 19, 22, 24, 20, 25]) (by kernel_rfl) ?_) | (refine vf_of (by first | exact hnv | exact hnw) ?_))
  refine vf_of (ref1_MulL (by omega) (by omega)) ?_; repeat (first | (simp only [go_sem, Nat.reduceEqDiff, Nat.reduceAdd, Nat.reduceSub, Nat.reduceMul, Nat.reduceLeDiff, Nat.reduceLT, reduceIte, reduceCtorEq, Nat.succ_ne_zero, elemsC, Int.reduceToNat, Nat.reducePow]) | (simp (disch := (first | omega | (simp only [AL, List.length_map]; omega))) only [AR, AL, ifT, ifF, take_all, List.length_cons, List.length_nil, Int.reduceToNat, Int.reducePow, Nat.reducePow]) | (refine wk_intro (by kernel_rfl) ?_) | (refine vp_draw (id := 1) (l := []) (by kernel_rfl) ?_) | (refine vp_draw (id := 2) (l := [17, 19, 22, 24, 20, 25]) (by kernel_rfl) ?_))
  refine vf_of (ref1_MulL (by omega) (by omega)) ?_; repeat (first | (simp only [go_sem, Nat.reduceEqDiff, Nat.reduceAdd, Nat.reduceSub, Nat.reduceMul, Nat.reduceLeDiff, Nat.reduceLT, reduceIte, reduceCtorEq, Nat.succ_ne_zero, elemsC, Int.reduceToNat, Nat.reducePow]) | (simp (disch := (first | omega | (simp only [AL, List.length_map]; omega))) only [AR, AL, ifT, ifF, take_all, List.length_cons, List.length_nil, Int.reduceToNat, Int.reducePow, Nat.reducePow]) | (refine wk_intro (by kernel_rfl) ?_) | (refine vp_draw (id := 1) (l := []) (by kernel_rfl) ?_) | (refine vp_draw (id := 2) (l := [17, 19, 22, 24, 20, 25]) (by kernel_rfl) ?_))
  refine vf_of (hOf) ?_; repeat (first | (simp only [go_sem, Nat.reduceEqDiff, Nat.reduceAdd, Nat.reduceSub, Nat.reduceMul, Nat.reduceLeDiff, Nat.reduceLT, reduceIte, reduceCtorEq, Nat.succ_ne_zero, elemsC, Int.reduceToNat, Nat.reducePow]) | (simp (disch := (first | omega | (simp only [AL, List.length_map]; omega))) only [AR, AL, ifT, ifF, take_all, List.length_cons, List.length_nil, Int.reduceToNat, Int.reducePow, Nat.reducePow]) | (refine wk_intro (by kernel_rfl) ?_) | (refine vp_draw (id := 1) (l := []) (by kernel_rfl) ?_) | (refine vp_draw (id := 2) (l := [17, 19, 22, 24, 20, 25]) (by kernel_rfl) ?_))
theorem ref2_limbs (a b : List Nat) (ha : a.length ≤ 274877906944) (hb : b.length ≤ 274877906944) : Go.Ev.Fn CX 63 [natV a, natV b] (.bool (decide (a = b))) := by
  refine Go.Ev.Fn.intro (fn := Tryz.f63) (body := (Tryz.f63).body.get!) (by kernel_rfl) (by kernel_rfl) (by kernel_rfl) (fun _ => rfl) (Nat.le_of_ble_eq_true (by kernel_rfl)) ?_; unfold Tryz.f63; simp only [Option.get!_some]
  by_cases hl : a.length = b.length
  · repeat (first | (simp only [go_sem, Nat.reduceEqDiff, Nat.reduceAdd, Nat.reduceSub, Nat.reduceMul, Nat.reduceLeDiff, Nat.reduceLT, reduceIte, reduceCtorEq, Nat.succ_ne_zero, elemsC, Int.reduceToNat, Nat.reducePow]) | (simp (disch := (first | omega | (simp only [AL, List.length_map]; omega))) only [AR, AL, ifT, ifF, take_all, List.length_cons, List.length_nil, Int.reduceToNat, Int.reducePow, Nat.reducePow]) | (refine wk_intro (by kernel_rfl) ?_) | (refine vp_draw (id := 6) (l := []) (by kernel_rfl) ?_))
    refine vp_loop_inv (fun s => s.tmp 0 = .sv (natV a) ∧ s.tmp 1 = .sv (natV b) ∧ ∃ i : Nat, s.tmp 5 = .sv (.int .i64 i) ∧ i ≤ a.length ∧ a.take i = b.take i) (fun s => match s.tmp 5 with | .sv (.int _ i) => a.length - i.toNat | _ => 0) ⟨rfl, rfl, 0, rfl, by omega, rfl⟩ ?_
    rintro s ⟨i0, i1, i, i5, hi, ht⟩
    by_cases hend : i = a.length
    · subst hend
      rw [List.take_length, hl, List.take_length] at ht
      rw [decide_eq_true ht]
      repeat (first | (simp only [go_sem, Nat.reduceEqDiff, Nat.reduceAdd, Nat.reduceSub, Nat.reduceMul, Nat.reduceLeDiff, Nat.reduceLT, reduceIte, reduceCtorEq, Nat.succ_ne_zero, elemsC, Int.reduceToNat, Nat.reducePow, i0, i1, i5]) | (simp (disch := (first | omega | (simp only [AL, List.length_map]; omega))) only [AR, AL, ifT, ifF, take_all, List.length_cons, List.length_nil, Int.reduceToNat, Int.reducePow, Nat.reducePow, i0, i1, i5]) | (refine wk_intro (by kernel_rfl) ?_) | (refine vp_draw (id := 6) (l := []) (by kernel_rfl) ?_))
    · have e : ∀ c : List Nat, i < c.length → c.take (i + 1) = c.take i ++ [c.getD i 0] := by
        intro c hc
        rw [List.take_add_one, List.getD_eq_getElem?_getD, List.getElem?_eq_getElem hc]
        rfl
      by_cases hx : a.getD i 0 = b.getD i 0
      · repeat (first | (simp only [go_sem, Nat.reduceEqDiff, Nat.reduceAdd, Nat.reduceSub, Nat.reduceMul, Nat.reduceLeDiff, Nat.reduceLT, reduceIte, reduceCtorEq, Nat.succ_ne_zero, elemsC, Int.reduceToNat, Nat.reducePow, i0, i1, i5]) | (simp (disch := (first | omega | (simp only [AL, List.length_map]; omega))) only [AR, AL, ifT, ifF, take_all, List.length_cons, List.length_nil, Int.reduceToNat, Int.reducePow, Nat.reducePow, i0, i1, i5]) | (refine wk_intro (by kernel_rfl) ?_) | (refine vp_draw (id := 6) (l := []) (by kernel_rfl) ?_))
        exact ⟨⟨i + 1, rfl, by omega, by rw [e a (by omega), e b (by omega), ht, hx]⟩, by omega⟩
      · rw [decide_eq_false (fun h => hx (by rw [h]))]
        repeat (first | (simp only [go_sem, Nat.reduceEqDiff, Nat.reduceAdd, Nat.reduceSub, Nat.reduceMul, Nat.reduceLeDiff, Nat.reduceLT, reduceIte, reduceCtorEq, Nat.succ_ne_zero, elemsC, Int.reduceToNat, Nat.reducePow, i0, i1, i5]) | (simp (disch := (first | omega | (simp only [AL, List.length_map]; omega))) only [AR, AL, ifT, ifF, take_all, List.length_cons, List.length_nil, Int.reduceToNat, Int.reducePow, Nat.reducePow, i0, i1, i5]) | (refine wk_intro (by kernel_rfl) ?_) | (refine vp_draw (id := 6) (l := []) (by kernel_rfl) ?_))
  · rw [decide_eq_false (fun h => hl (by rw [h]))]
    repeat (first | (simp only [go_sem, Nat.reduceEqDiff, Nat.reduceAdd, Nat.reduceSub, Nat.reduceMul, Nat.reduceLeDiff, Nat.reduceLT, reduceIte, reduceCtorEq, Nat.succ_ne_zero, elemsC, Int.reduceToNat, Nat.reducePow]) | (simp (disch := (first | omega | (simp only [AL, List.length_map]; omega))) only [AR, AL, ifT, ifF, take_all, List.length_cons, List.length_nil, Int.reduceToNat, Int.reducePow, Nat.reducePow]) | (refine wk_intro (by kernel_rfl) ?_) | (refine vp_draw (id := 6) (l := []) (by kernel_rfl) ?_))
theorem rv_eq {q r : Rat} (h1 : decide (q.num < 0) = decide (r.num < 0)) (h2 : lim q.num.natAbs = lim r.num.natAbs) (h3 : lim q.den = lim r.den) : q = r := by
  have h4 := lim_inj h2
  have h5 := lim_inj h3
  refine Rat.ext ?_ h5
  by_cases h : q.num < 0
  · rw [decide_eq_true h] at h1
    have := of_decide_eq_true h1.symm
    omega
  · rw [decide_eq_false h] at h1
    have := of_decide_eq_false h1.symm
    omega
theorem ref2_Same {v w : SV} {q r : Rat} {L M : Nat} (hv : RatA v q L) (hw : RatA w r M) (hL : 1 ≤ L) (hM : 1 ≤ M) (h : L + M ≤ 8388608) : Go.Ev.Fn CX 32 [v, w] (.bool (decide (q = r))) := by
  have hnv := ref2_Norm hv (by omega)
  have hnw := ref2_Norm hw (by omega)
  obtain ⟨z1, z2⟩ := szR_of hv hL
  obtain ⟨y1, y2⟩ := szR_of hw hM
  have l1 := ref2_limbs (lim q.num.natAbs) (lim r.num.natAbs) (by omega) (by omega)
  have l2 := ref2_limbs (lim q.den) (lim r.den) (by omega) (by omega)
  have hbb := beq_bool (decide (q.num < 0)) (decide (r.num < 0))
  obtain ⟨s, n, d, rfl, -⟩ := hv
  obtain ⟨s', n', d', rfl, -⟩ := hw
  refine Go.Ev.Fn.intro (fn := Tryz.f32) (body := (Tryz.f32).body.get!) (by kernel_rfl) (by kernel_rfl) (by kernel_rfl) (fun _ => rfl) (Nat.le_of_ble_eq_true (by kernel_rfl)) ?_; unfold Tryz.f32; simp only [Option.get!_some]
  repeat (first | (simp only [go_sem, Nat.reduceEqDiff, Nat.reduceAdd, Nat.reduceSub, Nat.reduceMul, Nat.reduceLeDiff, Nat.reduceLT, reduceIte, reduceCtorEq, Nat.succ_ne_zero, elemsC, Int.reduceToNat, Nat.reducePow, hbb]) | (simp (disch := (first | omega | (simp only [AL, List.length_map]; omega))) only [AR, AL, ifT, ifF, take_all, List.length_cons, List.length_nil, Int.reduceToNat, Int.reducePow, Nat.reducePow, hbb]) | (refine wk_intro (by kernel_rfl) ?_) | (refine vp_draw (id := 1) (l := []) (by kernel_rfl) ?_) | (refine vf_of (by first | exact hnv | exact hnw) ?_))
  by_cases h1 : decide (q.num < 0) = decide (r.num < 0)
  · rw [decide_eq_true h1]
    by_cases h2 : lim q.num.natAbs = lim r.num.natAbs
    · rw [decide_eq_true h2] at l1
      repeat (first | (simp only [go_sem, Nat.reduceEqDiff, Nat.reduceAdd, Nat.reduceSub, Nat.reduceMul, Nat.reduceLeDiff, Nat.reduceLT, reduceIte, reduceCtorEq, Nat.succ_ne_zero, elemsC, Int.reduceToNat, Nat.reducePow]) | (simp (disch := (first | omega | (simp only [AL, List.length_map]; omega))) only [AR, AL, ifT, ifF, take_all, List.length_cons, List.length_nil, Int.reduceToNat, Int.reducePow, Nat.reducePow]) | (refine wk_intro (by kernel_rfl) ?_) | (refine vp_draw (id := 1) (l := []) (by kernel_rfl) ?_))
      have e : decide (lim q.den = lim r.den) = decide (q = r) := by
        by_cases h3 : lim q.den = lim r.den
        · rw [decide_eq_true h3, decide_eq_true (rv_eq h1 h2 h3)]
        · rw [decide_eq_false h3, decide_eq_false (fun e => h3 (by rw [e]))]
      rw [e] at l2
      repeat (first | (simp only [go_sem, Nat.reduceEqDiff, Nat.reduceAdd, Nat.reduceSub, Nat.reduceMul, Nat.reduceLeDiff, Nat.reduceLT, reduceIte, reduceCtorEq, Nat.succ_ne_zero, elemsC, Int.reduceToNat, Nat.reducePow]) | (simp (disch := (first | omega | (simp only [AL, List.length_map]; omega))) only [AR, AL, ifT, ifF, take_all, List.length_cons, List.length_nil, Int.reduceToNat, Int.reducePow, Nat.reducePow]) | (refine wk_intro (by kernel_rfl) ?_) | (refine vp_draw (id := 1) (l := []) (by kernel_rfl) ?_) | (refine vf_of (by first | exact l1 | exact l2) ?_))
    · rw [decide_eq_false h2] at l1
      have hne : q ≠ r := fun e => h2 (by rw [e])
      rw [decide_eq_false hne]
      repeat (first | (simp only [go_sem, Nat.reduceEqDiff, Nat.reduceAdd, Nat.reduceSub, Nat.reduceMul, Nat.reduceLeDiff, Nat.reduceLT, reduceIte, reduceCtorEq, Nat.succ_ne_zero, elemsC, Int.reduceToNat, Nat.reducePow]) | (simp (disch := (first | omega | (simp only [AL, List.length_map]; omega))) only [AR, AL, ifT, ifF, take_all, List.length_cons, List.length_nil, Int.reduceToNat, Int.reducePow, Nat.reducePow]) | (refine wk_intro (by kernel_rfl) ?_) | (refine vp_draw (id := 1) (l := []) (by kernel_rfl) ?_) | (refine vf_of (by first | exact l1) ?_))
  · have hne : q ≠ r := fun e => h1 (by rw [e])
    rw [decide_eq_false h1, decide_eq_false hne]
    repeat (first | (simp only [go_sem, Nat.reduceEqDiff, Nat.reduceAdd, Nat.reduceSub, Nat.reduceMul, Nat.reduceLeDiff, Nat.reduceLT, reduceIte, reduceCtorEq, Nat.succ_ne_zero, elemsC, Int.reduceToNat, Nat.reducePow]) | (simp (disch := (first | omega | (simp only [AL, List.length_map]; omega))) only [AR, AL, ifT, ifF, take_all, List.length_cons, List.length_nil, Int.reduceToNat, Int.reducePow, Nat.reducePow]) | (refine wk_intro (by kernel_rfl) ?_) | (refine vp_draw (id := 1) (l := []) (by kernel_rfl) ?_))
theorem ref2_Int (n : Int) (h : -9223372036854775808 ≤ n ∧ n < 9223372036854775808) : Go.Ev.Fn CX 12 [.int .i64 n] (rv (n : Rat)) := by
  have oN := ref1_Of n.natAbs (by omega)
  have e1 := int_u64 h
  have hl := lim_two (v := n.natAbs) |>.2 (by omega)
  have hOf := ref2_OfL (s := decide (n < 0)) (n := n.natAbs) (d := 1) (by omega) (by rw [lim_one]; simp)
  rw [lim_one, sgn_self, show mkRat n 1 = (n : Rat) from Rat.mkRat_one n] at hOf
  refine Go.Ev.Fn.intro (fn := Tryz.f12) (body := (Tryz.f12).body.get!) (by kernel_rfl) (by kernel_rfl) (by kernel_rfl) (fun _ => rfl) (Nat.le_of_ble_eq_true (by kernel_rfl)) ?_; unfold Tryz.f12; simp only [Option.get!_some]
  by_cases h0 : n < 0
  · rw [if_pos h0] at e1
    rw [decide_eq_true h0] at hOf
    have e2 : IntKind.u64.wrap (0 - ((18446744073709551616 - n.natAbs : Nat) : Int)) = (n.natAbs : Int) := by rw [IntKind.wrap_u64]; omega
    repeat (first | (simp only [go_sem, Nat.reduceEqDiff, Nat.reduceAdd, Nat.reduceSub, Nat.reduceMul, Nat.reduceLeDiff, Nat.reduceLT, reduceIte, reduceCtorEq, Nat.succ_ne_zero, elemsC, Int.reduceToNat, Nat.reducePow, e1, e2]) | (simp (disch := (first | omega | (simp only [AL, List.length_map]; omega))) only [AR, AL, ifT, ifF, take_all, List.length_cons, List.length_nil, Int.reduceToNat, Int.reducePow, Nat.reducePow, e1, e2]) | (refine wk_intro (by kernel_rfl) ?_) | (refine vf_of (by first | exact oN | exact hOf) ?_))
  · rw [if_neg h0] at e1
    rw [decide_eq_false h0] at hOf
    repeat (first | (simp only [go_sem, Nat.reduceEqDiff, Nat.reduceAdd, Nat.reduceSub, Nat.reduceMul, Nat.reduceLeDiff, Nat.reduceLT, reduceIte, reduceCtorEq, Nat.succ_ne_zero, elemsC, Int.reduceToNat, Nat.reducePow, e1]) | (simp (disch := (first | omega | (simp only [AL, List.length_map]; omega))) only [AR, AL, ifT, ifF, take_all, List.length_cons, List.length_nil, Int.reduceToNat, Int.reducePow, Nat.reducePow, e1]) | (refine wk_intro (by kernel_rfl) ?_) | (refine vf_of (by first | exact oN | exact hOf) ?_))
theorem ref2_Add {v w : SV} {q r : Rat} {L M : Nat} (hv : RatA v q L) (hw : RatA w r M) (hL : 1 ≤ L) (hM : 1 ≤ M) (h : L + M ≤ 8388608) : Go.Ev.Fn CX 44 [v, w] (rv (q + r)) := by
  have hnv := ref2_Norm hv (by omega)
  have hnw := ref2_Norm hw (by omega)
  obtain ⟨z1, z2⟩ := szR_of hv hL
  obtain ⟨y1, y2⟩ := szR_of hw hM
  have g1 := lim_len_mul (a := q.num.natAbs) (b := r.den)
  have g2 := lim_len_mul (a := r.num.natAbs) (b := q.den)
  have g3 := lim_len_mul (a := q.den) (b := r.den)
  have g4 := lim_len_add2 (a := q.num.natAbs * r.den) (b := r.num.natAbs * q.den) (L := L + M) (by omega) (by omega)
  have g5 := lim_len_mono (Nat.sub_le (q.num.natAbs * r.den) (r.num.natAbs * q.den))
  have g6 := lim_len_mono (Nat.sub_le (r.num.natAbs * q.den) (q.num.natAbs * r.den))
  obtain ⟨s, n, d, rfl, -⟩ := hv
  obtain ⟨s', n', d', rfl, -⟩ := hw
  have hbb := beq_bool (decide (q.num < 0)) (decide (r.num < 0))
  refine Go.Ev.Fn.intro (fn := Tryz.f44) (body := (Tryz.f44).body.get!) (by kernel_rfl) (by kernel_rfl) (by kernel_rfl) (fun _ => rfl) (Nat.le_of_ble_eq_true (by kernel_rfl)) ?_; unfold Tryz.f44; simp only [Option.get!_some]
  repeat (first | (simp only [go_sem, Nat.reduceEqDiff, Nat.reduceAdd, Nat.reduceSub, Nat.reduceMul, Nat.reduceLeDiff, Nat.reduceLT, reduceIte, reduceCtorEq, Nat.succ_ne_zero, elemsC, Int.reduceToNat, Nat.reducePow]) | (simp (disch := (first | omega | (simp only [AL, List.length_map]; omega))) only [AR, AL, ifT, ifF, take_all, List.length_cons, List.length_nil, Int.reduceToNat, Int.reducePow, Nat.reducePow]) | (refine wk_intro (by kernel_rfl) ?_) | (refine vp_draw (id := 1) (l := []) (by kernel_rfl) ?_) | (refine vp_draw (id := 2) (l := [19, 21, 24, 26]) (by kernel_rfl) ?_) | (refine vp_draw (id := 5) (l := [7, 8, 42, 9]) (by kernel_rfl) ?_) | (refine vf_of (by first | exact hnv | exact hnw) ?_))
  refine vf_of (ref1_MulL (by omega) (by omega)) ?_; repeat (first | (simp only [go_sem, Nat.reduceEqDiff, Nat.reduceAdd, Nat.reduceSub, Nat.reduceMul, Nat.reduceLeDiff, Nat.reduceLT, reduceIte, reduceCtorEq, Nat.succ_ne_zero, elemsC, Int.reduceToNat, Nat.reducePow]) | (simp (disch := (first | omega | (simp only [AL, List.length_map]; omega))) only [AR, AL, ifT, ifF, take_all, List.length_cons, List.length_nil, Int.reduceToNat, Int.reducePow, Nat.reducePow]) | (refine wk_intro (by kernel_rfl) ?_) | (refine vp_draw (id := 1) (l := []) (by kernel_rfl) ?_) | (refine vp_draw (id := 2) (l := [19, 21, 24, 26]) (by kernel_rfl) ?_) | (refine vp_draw (id := 5) (l := [7, 8, 42, 9]) (by kernel_rfl) ?_))
  refine vf_of (ref1_MulL (by omega) (by omega)) ?_; repeat (first | (simp only [go_sem, Nat.reduceEqDiff, Nat.reduceAdd, Nat.reduceSub, Nat.reduceMul, Nat.reduceLeDiff, Nat.reduceLT, reduceIte, reduceCtorEq, Nat.succ_ne_zero, elemsC, Int.reduceToNat, Nat.reducePow]) | (simp (disch := (first | omega | (simp only [AL, List.length_map]; omega))) only [AR, AL, ifT, ifF, take_all, List.length_cons, List.length_nil, Int.reduceToNat, Int.reducePow, Nat.reducePow]) | (refine wk_intro (by kernel_rfl) ?_) | (refine vp_draw (id := 1) (l := []) (by kernel_rfl) ?_) | (refine vp_draw (id := 2) (l := [19, 21, 24, 26]) (by kernel_rfl) ?_) | (refine vp_draw (id := 5) (l := [7, 8, 42, 9]) (by kernel_rfl) ?_))
  refine vf_of (ref1_MulL (by omega) (by omega)) ?_; repeat (first | (simp only [go_sem, Nat.reduceEqDiff, Nat.reduceAdd, Nat.reduceSub, Nat.reduceMul, Nat.reduceLeDiff, Nat.reduceLT, reduceIte, reduceCtorEq, Nat.succ_ne_zero, elemsC, Int.reduceToNat, Nat.reducePow, hbb]) | (simp (disch := (first | omega | (simp only [AL, List.length_map]; omega))) only [AR, AL, ifT, ifF, take_all, List.length_cons, List.length_nil, Int.reduceToNat, Int.reducePow, Nat.reducePow, hbb]) | (refine wk_intro (by kernel_rfl) ?_) | (refine vp_draw (id := 1) (l := []) (by kernel_rfl) ?_) | (refine vp_draw (id := 2) (l := [19, 21, 24, 26]) (by kernel_rfl) ?_) | (refine vp_draw (id := 5) (l := [7, 8, 42, 9]) (by kernel_rfl) ?_))
  by_cases hs : decide (q.num < 0) = decide (r.num < 0)
  · have hOf := ref2_OfL (s := decide (q.num < 0)) (n := q.num.natAbs * r.den + r.num.natAbs * q.den) (d := q.den * r.den) (by omega) (by omega)
    rw [add_same q r hs] at hOf
    rw [decide_eq_true hs]
    repeat (first | (simp only [go_sem, Nat.reduceEqDiff, Nat.reduceAdd, Nat.reduceSub, Nat.reduceMul, Nat.reduceLeDiff, Nat.reduceLT, reduceIte, reduceCtorEq, Nat.succ_ne_zero, elemsC, Int.reduceToNat, Nat.reducePow]) | (simp (disch := (first | omega | (simp only [AL, List.length_map]; omega))) only [AR, AL, ifT, ifF, take_all, List.length_cons, List.length_nil, Int.reduceToNat, Int.reducePow, Nat.reducePow]) | (refine wk_intro (by kernel_rfl) ?_) | (refine vp_draw (id := 1) (l := []) (by kernel_rfl) ?_) | (refine vp_draw (id := 2) (l := [19, 21, 24, 26]) (by kernel_rfl) ?_) | (refine vp_draw (id := 5) (l := [7, 8, 42, 9]) (by kernel_rfl) ?_))
    refine vf_of (ref1_AddL (by omega) (by omega)) ?_; repeat (first | (simp only [go_sem, Nat.reduceEqDiff, Nat.reduceAdd, Nat.reduceSub, Nat.reduceMul, Nat.reduceLeDiff, Nat.reduceLT, reduceIte, reduceCtorEq, Nat.succ_ne_zero, elemsC, Int.reduceToNat, Nat.reducePow]) | (simp (disch := (first | omega | (simp only [AL, List.length_map]; omega))) only [AR, AL, ifT, ifF, take_all, List.length_cons, List.length_nil, Int.reduceToNat, Int.reducePow, Nat.reducePow]) | (refine wk_intro (by kernel_rfl) ?_) | (refine vp_draw (id := 1) (l := []) (by kernel_rfl) ?_) | (refine vp_draw (id := 2) (l := [19, 21, 24, 26]) (by kernel_rfl) ?_) | (refine vp_draw (id := 5) (l := [7, 8, 42, 9]) (by kernel_rfl) ?_))
    refine vf_of (hOf) ?_; repeat (first | (simp only [go_sem, Nat.reduceEqDiff, Nat.reduceAdd, Nat.reduceSub, Nat.reduceMul, Nat.reduceLeDiff, Nat.reduceLT, reduceIte, reduceCtorEq, Nat.succ_ne_zero, elemsC, Int.reduceToNat, Nat.reducePow]) | (simp (disch := (first | omega | (simp only [AL, List.length_map]; omega))) only [AR, AL, ifT, ifF, take_all, List.length_cons, List.length_nil, Int.reduceToNat, Int.reducePow, Nat.reducePow]) | (refine wk_intro (by kernel_rfl) ?_) | (refine vp_draw (id := 1) (l := []) (by kernel_rfl) ?_) | (refine vp_draw (id := 2) (l := [19, 21, 24, 26]) (by kernel_rfl) ?_) | (refine vp_draw (id := 5) (l := [7, 8, 42, 9]) (by kernel_rfl) ?_))
  · rw [decide_eq_false hs]
    have hc := ref1_CmpL (N := q.num.natAbs * r.den) (D := r.num.natAbs * q.den) (by omega) (by omega)
    repeat (first | (simp only [go_sem, Nat.reduceEqDiff, Nat.reduceAdd, Nat.reduceSub, Nat.reduceMul, Nat.reduceLeDiff, Nat.reduceLT, reduceIte, reduceCtorEq, Nat.succ_ne_zero, elemsC, Int.reduceToNat, Nat.reducePow]) | (simp (disch := (first | omega | (simp only [AL, List.length_map]; omega))) only [AR, AL, ifT, ifF, take_all, List.length_cons, List.length_nil, Int.reduceToNat, Int.reducePow, Nat.reducePow]) | (refine wk_intro (by kernel_rfl) ?_) | (refine vp_draw (id := 1) (l := []) (by kernel_rfl) ?_) | (refine vp_draw (id := 2) (l := [19, 21, 24, 26]) (by kernel_rfl) ?_) | (refine vp_draw (id := 5) (l := [7, 8, 42, 9]) (by kernel_rfl) ?_))
    by_cases h2 : r.num.natAbs * q.den ≤ q.num.natAbs * r.den
    · have hOf := ref2_OfL (s := decide (q.num < 0)) (n := q.num.natAbs * r.den - r.num.natAbs * q.den) (d := q.den * r.den) (by omega) (by omega)
      rw [add_ge q r hs h2] at hOf
      have hcc : decide (cmpN (q.num.natAbs * r.den) (r.num.natAbs * q.den) ≥ 0) = true := by
        have := cmpN_ge h2
        rw [decide_eq_false_iff_not] at this
        exact decide_eq_true (by omega)
      refine vf_of (hc) ?_; repeat (first | (simp only [go_sem, Nat.reduceEqDiff, Nat.reduceAdd, Nat.reduceSub, Nat.reduceMul, Nat.reduceLeDiff, Nat.reduceLT, reduceIte, reduceCtorEq, Nat.succ_ne_zero, elemsC, Int.reduceToNat, Nat.reducePow, hcc]) | (simp (disch := (first | omega | (simp only [AL, List.length_map]; omega))) only [AR, AL, ifT, ifF, take_all, List.length_cons, List.length_nil, Int.reduceToNat, Int.reducePow, Nat.reducePow, hcc]) | (refine wk_intro (by kernel_rfl) ?_) | (refine vp_draw (id := 1) (l := []) (by kernel_rfl) ?_) | (refine vp_draw (id := 2) (l := [19, 21, 24, 26]) (by kernel_rfl) ?_) | (refine vp_draw (id := 5) (l := [7, 8, 42, 9]) (by kernel_rfl) ?_))
      refine vf_of (ref1_SubL (by omega) (by omega)) ?_; repeat (first | (simp only [go_sem, Nat.reduceEqDiff, Nat.reduceAdd, Nat.reduceSub, Nat.reduceMul, Nat.reduceLeDiff, Nat.reduceLT, reduceIte, reduceCtorEq, Nat.succ_ne_zero, elemsC, Int.reduceToNat, Nat.reducePow]) | (simp (disch := (first | omega | (simp only [AL, List.length_map]; omega))) only [AR, AL, ifT, ifF, take_all, List.length_cons, List.length_nil, Int.reduceToNat, Int.reducePow, Nat.reducePow]) | (refine wk_intro (by kernel_rfl) ?_) | (refine vp_draw (id := 1) (l := []) (by kernel_rfl) ?_) | (refine vp_draw (id := 2) (l := [19, 21, 24, 26]) (by kernel_rfl) ?_) | (refine vp_draw (id := 5) (l := [7, 8, 42, 9]) (by kernel_rfl) ?_))
      refine vf_of (hOf) ?_; repeat (first | (simp only [go_sem, Nat.reduceEqDiff, Nat.reduceAdd, Nat.reduceSub, Nat.reduceMul, Nat.reduceLeDiff, Nat.reduceLT, reduceIte, reduceCtorEq, Nat.succ_ne_zero, elemsC, Int.reduceToNat, Nat.reducePow]) | (simp (disch := (first | omega | (simp only [AL, List.length_map]; omega))) only [AR, AL, ifT, ifF, take_all, List.length_cons, List.length_nil, Int.reduceToNat, Int.reducePow, Nat.reducePow]) | (refine wk_intro (by kernel_rfl) ?_) | (refine vp_draw (id := 1) (l := []) (by kernel_rfl) ?_) | (refine vp_draw (id := 2) (l := [19, 21, 24, 26]) (by kernel_rfl) ?_) | (refine vp_draw (id := 5) (l := [7, 8, 42, 9]) (by kernel_rfl) ?_))
    · have hOf := ref2_OfL (s := decide (r.num < 0)) (n := r.num.natAbs * q.den - q.num.natAbs * r.den) (d := q.den * r.den) (by omega) (by omega)
      rw [add_lt q r hs (by omega)] at hOf
      rw [cmpN_lt (by omega)] at hc
      refine vf_of (hc) ?_; repeat (first | (simp only [go_sem, Nat.reduceEqDiff, Nat.reduceAdd, Nat.reduceSub, Nat.reduceMul, Nat.reduceLeDiff, Nat.reduceLT, reduceIte, reduceCtorEq, Nat.succ_ne_zero, elemsC, Int.reduceToNat, Nat.reducePow]) | (simp (disch := (first | omega | (simp only [AL, List.length_map]; omega))) only [AR, AL, ifT, ifF, take_all, List.length_cons, List.length_nil, Int.reduceToNat, Int.reducePow, Nat.reducePow]) | (refine wk_intro (by kernel_rfl) ?_) | (refine vp_draw (id := 1) (l := []) (by kernel_rfl) ?_) | (refine vp_draw (id := 2) (l := [19, 21, 24, 26]) (by kernel_rfl) ?_) | (refine vp_draw (id := 5) (l := [7, 8, 42, 9]) (by kernel_rfl) ?_))
      refine vf_of (ref1_SubL (by omega) (by omega)) ?_; repeat (first | (simp only [go_sem, Nat.reduceEqDiff, Nat.reduceAdd, Nat.reduceSub, Nat.reduceMul, Nat.reduceLeDiff, Nat.reduceLT, reduceIte, reduceCtorEq, Nat.succ_ne_zero, elemsC, Int.reduceToNat, Nat.reducePow]) | (simp (disch := (first | omega | (simp only [AL, List.length_map]; omega))) only [AR, AL, ifT, ifF, take_all, List.length_cons, List.length_nil, Int.reduceToNat, Int.reducePow, Nat.reducePow]) | (refine wk_intro (by kernel_rfl) ?_) | (refine vp_draw (id := 1) (l := []) (by kernel_rfl) ?_) | (refine vp_draw (id := 2) (l := [19, 21, 24, 26]) (by kernel_rfl) ?_) | (refine vp_draw (id := 5) (l := [7, 8, 42, 9]) (by kernel_rfl) ?_))
      refine vf_of (hOf) ?_; repeat (first | (simp only [go_sem, Nat.reduceEqDiff, Nat.reduceAdd, Nat.reduceSub, Nat.reduceMul, Nat.reduceLeDiff, Nat.reduceLT, reduceIte, reduceCtorEq, Nat.succ_ne_zero, elemsC, Int.reduceToNat, Nat.reducePow]) | (simp (disch := (first | omega | (simp only [AL, List.length_map]; omega))) only [AR, AL, ifT, ifF, take_all, List.length_cons, List.length_nil, Int.reduceToNat, Int.reducePow, Nat.reducePow]) | (refine wk_intro (by kernel_rfl) ?_) | (refine vp_draw (id := 1) (l := []) (by kernel_rfl) ?_) | (refine vp_draw (id := 2) (l := [19, 21, 24, 26]) (by kernel_rfl) ?_) | (refine vp_draw (id := 5) (l := [7, 8, 42, 9]) (by kernel_rfl) ?_))
end Go.Proofs.YtigiblhmhmgagaaGreat

/- Sizes of sums, products, quotients; vernierref2.Div, Neg, Sub, Cmp; rat.Cmp, in the evaluator. -/
namespace Go.Proofs.YtigiblhmhmgagaaGreat
set_option linter.unusedSimpArgs false
set_option linter.unusedVariables false
set_option maxRecDepth 8000
open Go.Ev
theorem szR_zero {L : Nat} (h : 1 ≤ L) : szR 0 L := ⟨by rw [show (0 : Rat).num.natAbs = 0 by rfl, lim_zero]; simp, by rw [show (0 : Rat).den = 1 by rfl, lim_one]; exact h⟩
theorem szR_mul {q r : Rat} {L M : Nat} (h1 : szR q L) (h2 : szR r M) (hL : 1 ≤ L) : szR (q * r) (L + M) := by
  rw [← mul_parts]
  have g1 := lim_len_mul (a := q.num.natAbs) (b := r.num.natAbs)
  have g2 := lim_len_mul (a := q.den) (b := r.den)
  obtain ⟨a1, a2⟩ := h1
  obtain ⟨b1, b2⟩ := h2
  exact szR_mk (by omega) (by omega) (by omega)
theorem szR_add {q r : Rat} {L M : Nat} (h1 : szR q L) (h2 : szR r M) (hL : 1 ≤ L) : szR (q + r) (L + M + 1) := by
  have g1 := lim_len_mul (a := q.num.natAbs) (b := r.den)
  have g2 := lim_len_mul (a := r.num.natAbs) (b := q.den)
  have g3 := lim_len_mul (a := q.den) (b := r.den)
  obtain ⟨a1, a2⟩ := h1
  obtain ⟨b1, b2⟩ := h2
  have g4 := lim_len_add2 (a := q.num.natAbs * r.den) (b := r.num.natAbs * q.den) (L := L + M) (by omega) (by omega)
  have e : q + r = mkRat (sgn (decide (sgn (decide (q.num < 0)) (q.num.natAbs * r.den) + sgn (decide (r.num < 0)) (r.num.natAbs * q.den) < 0)) (sgn (decide (q.num < 0)) (q.num.natAbs * r.den) + sgn (decide (r.num < 0)) (r.num.natAbs * q.den)).natAbs) (q.den * r.den) := by
    rw [sgn_self]; exact add_parts q r
  rw [e]
  refine szR_mk (Nat.le_trans (lim_len_mono ?_) g4) (by omega) (by omega)
  have := Int.natAbs_add_le (sgn (decide (q.num < 0)) (q.num.natAbs * r.den)) (sgn (decide (r.num < 0)) (r.num.natAbs * q.den))
  rw [sgn_abs, sgn_abs] at this
  exact this
theorem szR_sub {q r : Rat} {L M : Nat} (h1 : szR q L) (h2 : szR r M) (hL : 1 ≤ L) : szR (q - r) (L + M + 1) := by
  rw [Rat.sub_eq_add_neg]
  exact szR_add h1 (szR_neg h2) hL
theorem szR_div {q r : Rat} {L M : Nat} (h1 : szR q L) (h2 : szR r M) (hL : 1 ≤ L) (hM : 1 ≤ M) : szR (q / r) (L + M) := by
  by_cases hr : r = 0
  · rw [hr, Rat.div_def, Rat.inv_zero, Rat.mul_zero]
    exact szR_zero (by omega)
  · rw [div_parts hr]
    exact szR_mul h1 (szR_mk h2.2 h2.1 hM) hL
theorem ref2_Neg {v : SV} {q : Rat} {L : Nat} (hv : RatA v q L) (hL : 1 ≤ L) (h : L ≤ 8388608) : Go.Ev.Fn CX 45 [v] (rv (-q)) := by
  have hnv := ref2_Norm hv (by omega)
  obtain ⟨z1, z2⟩ := szR_of hv hL
  rw [neg_parts]
  obtain ⟨s, n, d, rfl, -⟩ := hv
  refine Go.Ev.Fn.intro (fn := Tryz.f45) (body := (Tryz.f45).body.get!) (by kernel_rfl) (by kernel_rfl) (by kernel_rfl) (fun _ => rfl) (Nat.le_of_ble_eq_true (by kernel_rfl)) ?_; unfold Tryz.f45; simp only [Option.get!_some]
  repeat (first | (simp only [go_sem, Nat.reduceEqDiff, Nat.reduceAdd, Nat.reduceSub, Nat.reduceMul, Nat.reduceLeDiff, Nat.reduceLT, reduceIte, reduceCtorEq, Nat.succ_ne_zero, elemsC, Int.reduceToNat, Nat.reducePow]) | (simp (disch := (first | omega | (simp only [AL, List.length_map]; omega))) only [AR, AL, ifT, ifF, take_all, List.length_cons, List.length_nil, Int.reduceToNat, Int.reducePow, Nat.reducePow]) | (refine wk_intro (by kernel_rfl) ?_) | (refine vf_of (by first | exact hnv) ?_))
  cases hs : decide (q.num < 0)
  · rcases Nat.eq_zero_or_pos (lim q.num.natAbs).length with h0 | h0
    · rw [decide_eq_false (show ¬ 0 < (lim q.num.natAbs).length by omega)]
      repeat (first | (simp only [go_sem, Nat.reduceEqDiff, Nat.reduceAdd, Nat.reduceSub, Nat.reduceMul, Nat.reduceLeDiff, Nat.reduceLT, reduceIte, reduceCtorEq, Nat.succ_ne_zero, elemsC, Int.reduceToNat, Nat.reducePow, Bool.not_true, Bool.not_false]) | (simp (disch := (first | omega | (simp only [AL, List.length_map]; omega))) only [AR, AL, ifT, ifF, take_all, List.length_cons, List.length_nil, Int.reduceToNat, Int.reducePow, Nat.reducePow, Bool.not_true, Bool.not_false]) | (refine wk_intro (by kernel_rfl) ?_))
    · rw [decide_eq_true h0]
      repeat (first | (simp only [go_sem, Nat.reduceEqDiff, Nat.reduceAdd, Nat.reduceSub, Nat.reduceMul, Nat.reduceLeDiff, Nat.reduceLT, reduceIte, reduceCtorEq, Nat.succ_ne_zero, elemsC, Int.reduceToNat, Nat.reducePow, Bool.not_true, Bool.not_false]) | (simp (disch := (first | omega | (simp only [AL, List.length_map]; omega))) only [AR, AL, ifT, ifF, take_all, List.length_cons, List.length_nil, Int.reduceToNat, Int.reducePow, Nat.reducePow, Bool.not_true, Bool.not_false]) | (refine wk_intro (by kernel_rfl) ?_))
  · repeat (first | (simp only [go_sem, Nat.reduceEqDiff, Nat.reduceAdd, Nat.reduceSub, Nat.reduceMul, Nat.reduceLeDiff, Nat.reduceLT, reduceIte, reduceCtorEq, Nat.succ_ne_zero, elemsC, Int.reduceToNat, Nat.reducePow, Bool.not_true, Bool.not_false]) | (simp (disch := (first | omega | (simp only [AL, List.length_map]; omega))) only [AR, AL, ifT, ifF, take_all, List.length_cons, List.length_nil, Int.reduceToNat, Int.reducePow, Nat.reducePow, Bool.not_true, Bool.not_false]) | (refine wk_intro (by kernel_rfl) ?_))
    rfl
theorem sgn_mul2 (s t : Bool) (a b : Nat) : sgn s a * sgn t b = sgn (!(s == t)) (a * b) := by
  cases s <;> cases t <;> simp [sgn, Int.neg_mul, Int.mul_neg]
theorem quo_parts {q r : Rat} (hr : r ≠ 0) : mkRat (sgn (!(decide (q.num < 0) == decide (r.num < 0))) (q.num.natAbs * r.den)) (q.den * r.num.natAbs) = q / r := by
  rw [div_parts hr, ← sgn_mul2, ← Rat.mkRat_mul_mkRat, sgn_self, Rat.mkRat_self]
theorem ref2_Div {v w : SV} {q r : Rat} {L M : Nat} (hv : RatA v q L) (hw : RatA w r M) (hL : 1 ≤ L) (hM : 1 ≤ M) (h : L + M ≤ 8388608) : Go.Ev.Fn CX 66 [v, w] (.tup [rv (q / r), .bool (decide (r ≠ 0))]) := by
  have hnv := ref2_Norm hv (by omega)
  have hnw := ref2_Norm hw (by omega)
  obtain ⟨z1, z2⟩ := szR_of hv hL
  obtain ⟨y1, y2⟩ := szR_of hw hM
  have g1 := lim_len_mul (a := q.num.natAbs) (b := r.den)
  have g2 := lim_len_mul (a := q.den) (b := r.num.natAbs)
  obtain ⟨s, n, d, rfl, -⟩ := hv
  obtain ⟨s', n', d', rfl, -⟩ := hw
  have h0 := ref2_Norm (v := ratV false [] []) (q := 0) (L := 1) ⟨_, _, _, rfl, okL_nil, okL_nil, by simp, by simp, by rw [wth_nil]; exact (mk_zero false (.inl rfl)).symm⟩ (by omega)
  refine Go.Ev.Fn.intro (fn := Tryz.f66) (body := (Tryz.f66).body.get!) (by kernel_rfl) (by kernel_rfl) (by kernel_rfl) (fun _ => rfl) (Nat.le_of_ble_eq_true (by kernel_rfl)) ?_; unfold Tryz.f66; simp only [Option.get!_some]
  repeat (first | (simp only [go_sem, Nat.reduceEqDiff, Nat.reduceAdd, Nat.reduceSub, Nat.reduceMul, Nat.reduceLeDiff, Nat.reduceLT, reduceIte, reduceCtorEq, Nat.succ_ne_zero, elemsC, Int.reduceToNat, Nat.reducePow]) | (simp (disch := (first | omega | (simp only [AL, List.length_map]; omega))) only [AR, AL, ifT, ifF, take_all, List.length_cons, List.length_nil, Int.reduceToNat, Int.reducePow, Nat.reducePow]) | (refine wk_intro (by kernel_rfl) ?_) | (refine vp_draw (id := 1) (l := []) (by kernel_rfl) ?_) | (refine vp_draw (id := 4) (l := [24, 26, 29, 31, 27, 32]) (by kernel_rfl) ?_) | (refine vf_of (by first | exact hnv | exact hnw) ?_))
  by_cases hr : r = 0
  · have hl : (lim r.num.natAbs).length = 0 := by rw [num_zero.2 hr]; simp [lim_zero]
    rw [show decide (r ≠ 0) = false from decide_eq_false (fun e => e hr), hr, Rat.div_def, Rat.inv_zero, Rat.mul_zero]
    subst hr
    repeat (first | (simp only [go_sem, Nat.reduceEqDiff, Nat.reduceAdd, Nat.reduceSub, Nat.reduceMul, Nat.reduceLeDiff, Nat.reduceLT, reduceIte, reduceCtorEq, Nat.succ_ne_zero, elemsC, Int.reduceToNat, Nat.reducePow]) | (simp (disch := (first | omega | (simp only [AL, List.length_map]; omega))) only [AR, AL, ifT, ifF, take_all, List.length_cons, List.length_nil, Int.reduceToNat, Int.reducePow, Nat.reducePow]) | (refine wk_intro (by kernel_rfl) ?_) | (refine vp_draw (id := 1) (l := []) (by kernel_rfl) ?_) | (refine vp_draw (id := 4) (l := [24, 26, 29, 31, 27, 32]) (by kernel_rfl) ?_) | (refine vf_of (by first | exact h0) ?_))
  · have hl := lim_pos (N := r.num.natAbs) (fun e => hr (num_zero.1 (by omega)))
    have hOf := ref2_OfL (s := !(decide (q.num < 0) == decide (r.num < 0))) (n := q.num.natAbs * r.den) (d := q.den * r.num.natAbs) (by omega) (by omega)
    rw [quo_parts hr] at hOf
    rw [decide_eq_true hr]
    repeat (first | (simp only [go_sem, Nat.reduceEqDiff, Nat.reduceAdd, Nat.reduceSub, Nat.reduceMul, Nat.reduceLeDiff, Nat.reduceLT, reduceIte, reduceCtorEq, Nat.succ_ne_zero, elemsC, Int.reduceToNat, Nat.reducePow]) | (simp (disch := (first | omega | (simp only [AL, List.length_map]; omega))) only [AR, AL, ifT, ifF, take_all, List.length_cons, List.length_nil, Int.reduceToNat, Int.reducePow, Nat.reducePow]) | (refine wk_intro (by kernel_rfl) ?_) | (refine vp_draw (id := 1) (l := []) (by kernel_rfl) ?_) | (refine vp_draw (id := 4) (l := [24, 26, 29, 31, 27, 32]) (by kernel_rfl) ?_))
    refine vf_of (ref1_MulL (by omega) (by omega)) ?_; repeat (first | (simp only [go_sem, Nat.reduceEqDiff, Nat.reduceAdd, Nat.reduceSub, Nat.reduceMul, Nat.reduceLeDiff, Nat.reduceLT, reduceIte, reduceCtorEq, Nat.succ_ne_zero, elemsC, Int.reduceToNat, Nat.reducePow]) | (simp (disch := (first | omega | (simp only [AL, List.length_map]; omega))) only [AR, AL, ifT, ifF, take_all, List.length_cons, List.length_nil, Int.reduceToNat, Int.reducePow, Nat.reducePow]) | (refine wk_intro (by kernel_rfl) ?_) | (refine vp_draw (id := 1) (l := []) (by kernel_rfl) ?_) | (refine vp_draw (id := 4) (l := [24, 26, 29, 31, 27, 32]) (by kernel_rfl) ?_))
    refine vf_of (ref1_MulL (by omega) (by omega)) ?_; repeat (first | (simp only [go_sem, Nat.reduceEqDiff, Nat.reduceAdd, Nat.reduceSub, Nat.reduceMul, Nat.reduceLeDiff, Nat.reduceLT, reduceIte, reduceCtorEq, Nat.succ_ne_zero, elemsC, Int.reduceToNat, Nat.reducePow]) | (simp (disch := (first | omega | (simp only [AL, List.length_map]; omega))) only [AR, AL, ifT, ifF, take_all, List.length_cons, List.length_nil, Int.reduceToNat, Int.reducePow, Nat.reducePow]) | (refine wk_intro (by kernel_rfl) ?_) | (refine vp_draw (id := 1) (l := []) (by kernel_rfl) ?_) | (refine vp_draw (id := 4) (l := [24, 26, 29, 31, 27, 32]) (by kernel_rfl) ?_))
    refine vf_of (hOf) ?_; repeat (first | (simp only [go_sem, Nat.reduceEqDiff, Nat.reduceAdd, Nat.reduceSub, Nat.reduceMul, Nat.reduceLeDiff, Nat.reduceLT, reduceIte, reduceCtorEq, Nat.succ_ne_zero, elemsC, Int.reduceToNat, Nat.reducePow]) | (simp (disch := (first | omega | (simp only [AL, List.length_map]; omega))) only [AR, AL, ifT, ifF, take_all, List.length_cons, List.length_nil, Int.reduceToNat, Int.reducePow, Nat.reducePow]) | (refine wk_intro (by kernel_rfl) ?_) | (refine vp_draw (id := 1) (l := []) (by kernel_rfl) ?_) | (refine vp_draw (id := 4) (l := [24, 26, 29, 31, 27, 32]) (by kernel_rfl) ?_))
end Go.Proofs.YtigiblhmhmgagaaGreat

/- rat.Cmp, vernierref2.Sub and Cmp, in the evaluator. -/
namespace Go.Proofs.YtigiblhmhmgagaaGreat
set_option linter.unusedSimpArgs false
set_option linter.unusedVariables false
set_option maxRecDepth 8000
open Go.Ev
/-- -1, 0 or 1. -/
def cmpR (q r : Rat) : Int := if q < r then -1 else if q = r then 0 else 1
theorem sub_num {q r : Rat} : (q - r).num < 0 ↔ q < r := by
  have h : (q - r).num < 0 ↔ q - r < 0 := by
    have := Rat.num_nonneg (q := q - r)
    constructor
    · intro h
      have h1 : ¬ 0 ≤ q - r := fun g => absurd (this.2 g) (by omega)
      grind
    · intro h
      rcases Int.lt_or_le (q - r).num 0 with h1 | h1
      · exact h1
      · exact absurd (this.1 h1) (by grind)
  rw [h]
  constructor <;> intro h <;> grind
theorem sub_zero' {q r : Rat} : (q - r).num = 0 ↔ q = r := by
  rw [Rat.num_eq_zero]
  constructor <;> intro h <;> grind
theorem int_szR {n : Int} (h : -9223372036854775808 ≤ n ∧ n ≤ 9223372036854775808) : szR (n : Rat) 2 := by
  refine ⟨?_, ?_⟩
  · show (lim n.natAbs).length ≤ 2
    exact lim_two.2 (by omega)
  · show (lim 1).length ≤ 2
    rw [lim_one]; simp
theorem rat_Cmp {v w : SV} {q r : Rat} {L M : Nat} (hv : RatA v q L) (hw : RatA w r M) (hL : 1 ≤ L) (hM : 1 ≤ M) (h : L + M ≤ 268435456) : Go.Ev.Fn CX 22 [v, w] (.int .i64 (cmpR q r)) := by
  have hs := rat_Sub hv hw hL hM h
  have hz := szR_sub (szR_of hv hL) (szR_of hw hM) hL
  obtain ⟨s, n, d, rfl, -⟩ := hv
  obtain ⟨s', n', d', rfl, -⟩ := hw
  obtain ⟨y1, -⟩ := hz
  refine Go.Ev.Fn.intro (fn := Tryz.f22) (body := (Tryz.f22).body.get!) (by kernel_rfl) (by kernel_rfl) (by kernel_rfl) (fun _ => rfl) (Nat.le_of_ble_eq_true (by kernel_rfl)) ?_; unfold Tryz.f22; simp only [Option.get!_some]
  by_cases h1 : q < r
  · have e : decide ((q - r).num < 0) = true := decide_eq_true (sub_num.2 h1)
    rw [show cmpR q r = -1 from if_pos h1]
    repeat (first | (simp only [go_sem, Nat.reduceEqDiff, Nat.reduceAdd, Nat.reduceSub, Nat.reduceMul, Nat.reduceLeDiff, Nat.reduceLT, reduceIte, reduceCtorEq, Nat.succ_ne_zero, elemsC, Int.reduceToNat, Nat.reducePow, e]) | (simp (disch := (first | omega | (simp only [AL, List.length_map]; omega))) only [AR, AL, ifT, ifF, take_all, List.length_cons, List.length_nil, Int.reduceToNat, Int.reducePow, Nat.reducePow, e]) | (refine wk_intro (by kernel_rfl) ?_) | (refine vf_of (by first | exact hs) ?_))
  · have e : decide ((q - r).num < 0) = false := decide_eq_false (fun h => h1 (sub_num.1 h))
    by_cases h2 : q = r
    · have e2 : (lim (q - r).num.natAbs).length = 0 := by rw [sub_zero'.2 h2]; simp [lim_zero]
      rw [show cmpR q r = 0 by unfold cmpR; rw [if_neg h1, if_pos h2]]
      repeat (first | (simp only [go_sem, Nat.reduceEqDiff, Nat.reduceAdd, Nat.reduceSub, Nat.reduceMul, Nat.reduceLeDiff, Nat.reduceLT, reduceIte, reduceCtorEq, Nat.succ_ne_zero, elemsC, Int.reduceToNat, Nat.reducePow, e]) | (simp (disch := (first | omega | (simp only [AL, List.length_map]; omega))) only [AR, AL, ifT, ifF, take_all, List.length_cons, List.length_nil, Int.reduceToNat, Int.reducePow, Nat.reducePow, e]) | (refine wk_intro (by kernel_rfl) ?_) | (refine vf_of (by first | exact hs) ?_))
    · have e2 := lim_pos (N := (q - r).num.natAbs) (fun h => h2 (sub_zero'.1 (by omega)))
      rw [show cmpR q r = 1 by unfold cmpR; rw [if_neg h1, if_neg h2]]
      repeat (first | (simp only [go_sem, Nat.reduceEqDiff, Nat.reduceAdd, Nat.reduceSub, Nat.reduceMul, Nat.reduceLeDiff, Nat.reduceLT, reduceIte, reduceCtorEq, Nat.succ_ne_zero, elemsC, Int.reduceToNat, Nat.reducePow, e]) | (simp (disch := (first | omega | (simp only [AL, List.length_map]; omega))) only [AR, AL, ifT, ifF, take_all, List.length_cons, List.length_nil, Int.reduceToNat, Int.reducePow, Nat.reducePow, e]) | (refine wk_intro (by kernel_rfl) ?_) | (refine vf_of (by first | exact hs) ?_))
theorem ref2_Sub {v w : SV} {q r : Rat} {L M : Nat} (hv : RatA v q L) (hw : RatA w r M) (hL : 1 ≤ L) (hM : 1 ≤ M) (h : L + M ≤ 8388608) : Go.Ev.Fn CX 14 [v, w] (rv (q - r)) := by
  have hN := ref2_Neg hw hM (by omega)
  have hA := ref2_Add hv (RatA_rv (szR_neg (szR_of hw hM))) hL hM h
  rw [← Rat.sub_eq_add_neg] at hA
  obtain ⟨s, n, d, rfl, -⟩ := hv
  obtain ⟨s', n', d', rfl, -⟩ := hw
  refine Go.Ev.Fn.intro (fn := Tryz.f14) (body := (Tryz.f14).body.get!) (by kernel_rfl) (by kernel_rfl) (by kernel_rfl) (fun _ => rfl) (Nat.le_of_ble_eq_true (by kernel_rfl)) ?_; unfold Tryz.f14; simp only [Option.get!_some]
  repeat (first | (simp only [go_sem, Nat.reduceEqDiff, Nat.reduceAdd, Nat.reduceSub, Nat.reduceMul, Nat.reduceLeDiff, Nat.reduceLT, reduceIte, reduceCtorEq, Nat.succ_ne_zero, elemsC, Int.reduceToNat, Nat.reducePow]) | (simp (disch := (first | omega | (simp only [AL, List.length_map]; omega))) only [AR, AL, ifT, ifF, take_all, List.length_cons, List.length_nil, Int.reduceToNat, Int.reducePow, Nat.reducePow]) | (refine wk_intro (by kernel_rfl) ?_) | (refine vp_draw (id := 1) (l := []) (by kernel_rfl) ?_) | (refine vf_of (by first | exact hN | exact hA) ?_))
theorem ref2_Cmp {v w : SV} {q r : Rat} {L M : Nat} (hv : RatA v q L) (hw : RatA w r M) (hL : 1 ≤ L) (hM : 1 ≤ M) (h : L + M ≤ 8388608) : Go.Ev.Fn CX 17 [v, w] (.int .i64 (cmpR q r)) := by
  have hs := ref2_Sub hv hw hL hM h
  have hz := szR_sub (szR_of hv hL) (szR_of hw hM) hL
  obtain ⟨s, n, d, rfl, -⟩ := hv
  obtain ⟨s', n', d', rfl, -⟩ := hw
  obtain ⟨y1, -⟩ := hz
  refine Go.Ev.Fn.intro (fn := Tryz.f17) (body := (Tryz.f17).body.get!) (by kernel_rfl) (by kernel_rfl) (by kernel_rfl) (fun _ => rfl) (Nat.le_of_ble_eq_true (by kernel_rfl)) ?_; unfold Tryz.f17; simp only [Option.get!_some]
  by_cases h2 : q = r
  · have e2 : (lim (q - r).num.natAbs).length = 0 := by rw [sub_zero'.2 h2]; simp [lim_zero]
    have h1 : ¬ q < r := by grind
    rw [show cmpR q r = 0 by unfold cmpR; rw [if_neg h1, if_pos h2]]
    repeat (first | (simp only [go_sem, Nat.reduceEqDiff, Nat.reduceAdd, Nat.reduceSub, Nat.reduceMul, Nat.reduceLeDiff, Nat.reduceLT, reduceIte, reduceCtorEq, Nat.succ_ne_zero, elemsC, Int.reduceToNat, Nat.reducePow]) | (simp (disch := (first | omega | (simp only [AL, List.length_map]; omega))) only [AR, AL, ifT, ifF, take_all, List.length_cons, List.length_nil, Int.reduceToNat, Int.reducePow, Nat.reducePow]) | (refine wk_intro (by kernel_rfl) ?_) | (refine vf_of (by first | exact hs) ?_))
  · have e2 := lim_pos (N := (q - r).num.natAbs) (fun h => h2 (sub_zero'.1 (by omega)))
    by_cases h1 : q < r
    · have e : decide ((q - r).num < 0) = true := decide_eq_true (sub_num.2 h1)
      rw [show cmpR q r = -1 from if_pos h1]
      repeat (first | (simp only [go_sem, Nat.reduceEqDiff, Nat.reduceAdd, Nat.reduceSub, Nat.reduceMul, Nat.reduceLeDiff, Nat.reduceLT, reduceIte, reduceCtorEq, Nat.succ_ne_zero, elemsC, Int.reduceToNat, Nat.reducePow, e]) | (simp (disch := (first | omega | (simp only [AL, List.length_map]; omega))) only [AR, AL, ifT, ifF, take_all, List.length_cons, List.length_nil, Int.reduceToNat, Int.reducePow, Nat.reducePow, e]) | (refine wk_intro (by kernel_rfl) ?_) | (refine vf_of (by first | exact hs) ?_))
    · have e : decide ((q - r).num < 0) = false := decide_eq_false (fun h => h1 (sub_num.1 h))
      rw [show cmpR q r = 1 by unfold cmpR; rw [if_neg h1, if_neg h2]]
      repeat (first | (simp only [go_sem, Nat.reduceEqDiff, Nat.reduceAdd, Nat.reduceSub, Nat.reduceMul, Nat.reduceLeDiff, Nat.reduceLT, reduceIte, reduceCtorEq, Nat.succ_ne_zero, elemsC, Int.reduceToNat, Nat.reducePow, e]) | (simp (disch := (first | omega | (simp only [AL, List.length_map]; omega))) only [AR, AL, ifT, ifF, take_all, List.length_cons, List.length_nil, Int.reduceToNat, Int.reducePow, Nat.reducePow, e]) | (refine wk_intro (by kernel_rfl) ?_) | (refine vf_of (by first | exact hs) ?_))
theorem cmpR_gt {q r : Rat} : decide (cmpR q r > 0) = decide (r < q) := by
  unfold cmpR
  by_cases h1 : q < r
  · rw [if_pos h1, decide_eq_false (by decide), decide_eq_false (by grind)]
  · rw [if_neg h1]
    by_cases h2 : q = r
    · rw [if_pos h2, decide_eq_false (by decide), decide_eq_false (by grind)]
    · rw [if_neg h2, decide_eq_true (by decide), decide_eq_true (by grind)]
theorem cmpR_lt {q r : Rat} : decide (cmpR q r < 0) = decide (q < r) := by
  unfold cmpR
  by_cases h1 : q < r
  · rw [if_pos h1, decide_eq_true (by decide), decide_eq_true h1]
  · rw [if_neg h1, decide_eq_false h1]
    by_cases h2 : q = r
    · rw [if_pos h2, decide_eq_false (by decide)]
    · rw [if_neg h2, decide_eq_false (by decide)]
theorem cmpR_ge {q r : Rat} : decide (cmpR q r ≥ 0) = decide (r ≤ q) := by
  unfold cmpR
  by_cases h1 : q < r
  · rw [if_pos h1, decide_eq_false (by decide), decide_eq_false (by grind)]
  · rw [if_neg h1, decide_eq_true (show r ≤ q by grind)]
    by_cases h2 : q = r
    · rw [if_pos h2, decide_eq_true (by decide)]
    · rw [if_neg h2, decide_eq_true (by decide)]
theorem cmpR_le {q r : Rat} : decide (cmpR q r ≤ 0) = decide (q ≤ r) := by
  unfold cmpR
  by_cases h1 : q < r
  · rw [if_pos h1, decide_eq_true (by decide), decide_eq_true (show q ≤ r by grind)]
  · rw [if_neg h1]
    by_cases h2 : q = r
    · rw [if_pos h2, decide_eq_true (by decide), decide_eq_true (show q ≤ r by grind)]
    · rw [if_neg h2, decide_eq_false (by decide), decide_eq_false (show ¬ q ≤ r by grind)]
theorem b_and64i {a b : Nat} (ha : a < 9223372036854775808) (hb : b < 9223372036854775808) : bitsSV .and .i64 (a : Int) (b : Int) = some (.int .i64 ((a &&& b : Nat) : Int)) := by
  have h : a &&& b < 2 ^ 63 := Nat.lt_of_le_of_lt Nat.and_le_left ha
  have e : IntKind.i64.wrap ((BitVec.ofInt IntKind.i64.bits (a : Int) &&& BitVec.ofInt IntKind.i64.bits (b : Int)).toNat : Int) = ((a &&& b : Nat) : Int) := by
    show IntKind.i64.wrap ((BitVec.ofInt 64 (a : Int) &&& BitVec.ofInt 64 (b : Int)).toNat : Int) = _
    rw [ofInt_nat, ofInt_nat, BitVec.toNat_and, BitVec.toNat_ofNat, BitVec.toNat_ofNat, Nat.mod_eq_of_lt (show a < 2 ^ 64 by omega), Nat.mod_eq_of_lt (show b < 2 ^ 64 by omega), wI64 (by omega)]
  show some (SV.int _ _) = _
  rw [e]
theorem and_one64 {a : Nat} (ha : a < 9223372036854775808) : bitsSV .and .i64 (a : Int) 1 = some (.int .i64 ((a % 2 : Nat) : Int)) := by
  have := b_and64i ha (b := 1) (by omega)
  rw [and_one] at this
  exact this
theorem lim_len1 : (lim 1).length ≤ 1 := lim_len_one (by decide)
end Go.Proofs.YtigiblhmhmgagaaGreat

/- What lies between two naturals by a power of two: plain mathematics, no program. -/
namespace Go.Proofs.YtigiblhmhmgagaaGreat
open Go.Ev
abbrev p2 (w : Nat) : Rat := ((2 ^ w : Nat) : Rat)
theorem p2_pos (w : Nat) : 0 < p2 w := by
  have : 0 < 2 ^ w := Nat.pow_pos (by omega)
  exact_mod_cast this
/-- A number q that is not below 0 lies between a and b, by 2 to the power w. -/
def Enc (w a b : Nat) (q : Rat) : Prop := (a : Rat) ≤ q * p2 w ∧ q * p2 w ≤ (b : Rat)
theorem floor_le {a d : Nat} : ((a / d : Nat) : Rat) * (d : Rat) ≤ (a : Rat) := by
  have := Nat.div_mul_le_self a d
  exact_mod_cast this
theorem le_floor {a d : Nat} (hd : 0 < d) : (a : Rat) ≤ ((a / d + 1 : Nat) : Rat) * (d : Rat) := by
  have h2 : a ≤ (a / d + 1) * d := by
    have := Nat.div_add_mod a d
    have h3 := Nat.mod_lt a hd
    rw [Nat.add_mul, Nat.one_mul, Nat.mul_comm]
    omega
  exact_mod_cast h2
theorem enc_add {w a b c d : Nat} {q r : Rat} (h1 : Enc w a b q) (h2 : Enc w c d r) : Enc w (a + c) (b + d) (q + r) := by
  obtain ⟨x1, x2⟩ := h1
  obtain ⟨y1, y2⟩ := h2
  have e1 : ((a + c : Nat) : Rat) = (a : Rat) + (c : Rat) := by exact_mod_cast rfl
  have e2 : ((b + d : Nat) : Rat) = (b : Rat) + (d : Rat) := by exact_mod_cast rfl
  unfold Enc
  rw [e1, e2]
  constructor <;> grind
theorem enc_wider {w a b n : Nat} {q : Rat} (h : Enc w a b q) : Enc w a (b + n) q := by
  obtain ⟨x1, x2⟩ := h
  refine ⟨x1, Rat.le_trans x2 ?_⟩
  have : b ≤ b + n := Nat.le_add_right _ _
  exact_mod_cast this
theorem enc_nonneg {w a b : Nat} {q : Rat} (h : Enc w a b q) : 0 ≤ q := by
  have h0 : (0 : Rat) ≤ (a : Rat) := by exact_mod_cast Nat.zero_le a
  have h1 : 0 ≤ q * p2 w := Rat.le_trans h0 h.1
  rcases Rat.le_total (a := 0) (b := q) with h2 | h2
  · exact h2
  · by_cases e : q = 0
    · rw [e]; exact Rat.le_refl
    · have : q * p2 w < 0 := by
        have h3 : 0 < (-q) * p2 w := Rat.mul_pos (by grind) (p2_pos w)
        grind
      grind
theorem le_by {x y c : Rat} (hc : 0 < c) (h : x * c ≤ y * c) : x ≤ y := by
  rcases Rat.le_total (a := x) (b := y) with h1 | h1
  · exact h1
  · have h2 := Rat.mul_le_mul_of_nonneg_right h1 (by grind : (0 : Rat) ≤ c)
    have h3 : (x - y) * c = 0 := by grind
    rcases Rat.mul_eq_zero.1 h3 with h4 | h4 <;> grind
theorem mul_le {a b c d : Rat} (h1 : a ≤ b) (h2 : c ≤ d) (hb : 0 ≤ b) (hc : 0 ≤ c) : a * c ≤ b * d :=
  Rat.le_trans (Rat.mul_le_mul_of_nonneg_right h1 hc) (Rat.mul_le_mul_of_nonneg_left h2 hb)
theorem nat_nonneg (a : Nat) : (0 : Rat) ≤ (a : Rat) := by exact_mod_cast Nat.zero_le a
theorem enc_mul {w a b c d : Nat} {q r : Rat} (h1 : Enc w a b q) (h2 : Enc w c d r) : Enc w (a * c / 2 ^ w) (b * d / 2 ^ w + 1) (q * r) := by
  have hq := enc_nonneg h1
  have P := p2_pos w
  obtain ⟨x1, x2⟩ := h1
  have hr := enc_nonneg h2
  obtain ⟨y1, y2⟩ := h2
  have f := floor_le (a := a * c) (d := 2 ^ w)
  have g := le_floor (a := b * d) (d := 2 ^ w) (Nat.pow_pos (by omega))
  have e1 : ((a * c : Nat) : Rat) = (a : Rat) * (c : Rat) := by exact_mod_cast rfl
  have e2 : ((b * d : Nat) : Rat) = (b : Rat) * (d : Rat) := by exact_mod_cast rfl
  have m1 := mul_le x1 y1 (Rat.le_trans (nat_nonneg a) x1) (nat_nonneg c)
  have m2 := mul_le x2 y2 (nat_nonneg b) (Rat.le_trans (nat_nonneg c) y1)
  refine ⟨le_by P ?_, le_by P ?_⟩
  · rw [e1] at f
    show ((a * c / 2 ^ w : Nat) : Rat) * p2 w ≤ _
    have : q * r * p2 w * p2 w = q * p2 w * (r * p2 w) := by grind
    rw [this]
    exact Rat.le_trans f m1
  · rw [e2] at g
    have : q * r * p2 w * p2 w = q * p2 w * (r * p2 w) := by grind
    rw [this]
    exact Rat.le_trans m2 g
theorem enc_times {w a b n d : Nat} {q : Rat} (hd : 0 < d) (h : Enc w a b q) : Enc w (a * n / d) (b * n / d + 1) (q * (n : Rat) / (d : Rat)) := by
  obtain ⟨x1, x2⟩ := h
  have D : (0 : Rat) < (d : Rat) := by exact_mod_cast hd
  have Dn : (d : Rat) ≠ 0 := by grind
  have f := floor_le (a := a * n) (d := d)
  have g := le_floor (a := b * n) (d := d) hd
  have e1 : ((a * n : Nat) : Rat) = (a : Rat) * (n : Rat) := by exact_mod_cast rfl
  have e2 : ((b * n : Nat) : Rat) = (b : Rat) * (n : Rat) := by exact_mod_cast rfl
  have m1 := Rat.mul_le_mul_of_nonneg_right x1 (nat_nonneg n)
  have m2 := Rat.mul_le_mul_of_nonneg_right x2 (nat_nonneg n)
  have c : q * (n : Rat) / (d : Rat) * p2 w * (d : Rat) = q * p2 w * (n : Rat) := by
    have := Rat.div_mul_cancel (a := q * (n : Rat)) Dn
    have h2 : q * (n : Rat) / (d : Rat) * p2 w * (d : Rat) = q * (n : Rat) / (d : Rat) * (d : Rat) * p2 w := by grind
    rw [h2, this]
    grind
  refine ⟨le_by D ?_, le_by D ?_⟩
  · rw [e1] at f
    rw [c]
    exact Rat.le_trans f m1
  · rw [e2] at g
    rw [c]
    exact Rat.le_trans m2 g
end Go.Proofs.YtigiblhmhmgagaaGreat

/- vernierref4: whole numbers and what lies between two of them, in the evaluator. -/
namespace Go.Proofs.YtigiblhmhmgagaaGreat
set_option linter.unusedSimpArgs false
set_option linter.unusedVariables false
set_option maxRecDepth 8000
open Go.Ev
/-- A whole number. -/
abbrev intV (z : Int) : SV := .agg [.bool (decide (z < 0)), natV (lim z.natAbs)]
/-- From one whole number to another. -/
abbrev ivV (a b : Int) : SV := .agg [.bool (decide (a < 0)), natV (lim a.natAbs), .bool (decide (b < 0)), natV (lim b.natAbs)]
theorem lim_ne {n : Nat} : decide (0 < (lim n).length) = decide (n ≠ 0) := by
  by_cases h : n = 0
  · subst h; rw [lim_zero]; rfl
  · rw [decide_eq_true (lim_pos h), decide_eq_true h]
theorem ref4_Whole (n : Int) (h : -9223372036854775808 < n ∧ n < 9223372036854775808) : Go.Ev.Fn CX 116 [.int .i64 n] (intV n) := by
  by_cases h0 : n < 0
  · obtain ⟨m, rfl⟩ : ∃ m : Nat, n = -(m : Int) := ⟨n.natAbs, by omega⟩
    have o := ref1_Of m (by omega)
    rw [show intV (-(m : Int)) = .agg [.bool true, natV (lim m)] by show SV.agg [.bool (decide (-(m : Int) < 0)), natV (lim (-(m : Int)).natAbs)] = _; rw [decide_eq_true h0, Int.natAbs_neg, Int.natAbs_natCast]]
    have e0 : 0 - -(m : Int) = (m : Int) := by omega
    refine Go.Ev.Fn.intro (fn := Tryz.f116) (body := (Tryz.f116).body.get!) (by kernel_rfl) (by kernel_rfl) (by kernel_rfl) (fun _ => rfl) (Nat.le_of_ble_eq_true (by kernel_rfl)) ?_; unfold Tryz.f116; simp only [Option.get!_some]
    repeat (first | (simp only [go_sem, Nat.reduceEqDiff, Nat.reduceAdd, Nat.reduceSub, Nat.reduceMul, Nat.reduceLeDiff, Nat.reduceLT, reduceIte, reduceCtorEq, Nat.succ_ne_zero, elemsC, Int.reduceToNat, Nat.reducePow, e0]) | (simp (disch := (first | omega | (simp only [AL, List.length_map]; omega))) only [AR, AL, ifT, ifF, take_all, List.length_cons, List.length_nil, Int.reduceToNat, Int.reducePow, Nat.reducePow, e0]) | (refine wk_intro (by kernel_rfl) ?_) | (refine vf_of (by first | exact o) ?_))
  · obtain ⟨m, rfl⟩ : ∃ m : Nat, n = (m : Int) := ⟨n.natAbs, by omega⟩
    have o := ref1_Of m (by omega)
    rw [show intV (m : Int) = .agg [.bool false, natV (lim m)] by show SV.agg [.bool (decide ((m : Int) < 0)), natV (lim (m : Int).natAbs)] = _; rw [decide_eq_false h0, Int.natAbs_natCast]]
    refine Go.Ev.Fn.intro (fn := Tryz.f116) (body := (Tryz.f116).body.get!) (by kernel_rfl) (by kernel_rfl) (by kernel_rfl) (fun _ => rfl) (Nat.le_of_ble_eq_true (by kernel_rfl)) ?_; unfold Tryz.f116; simp only [Option.get!_some]
    repeat (first | (simp only [go_sem, Nat.reduceEqDiff, Nat.reduceAdd, Nat.reduceSub, Nat.reduceMul, Nat.reduceLeDiff, Nat.reduceLT, reduceIte, reduceCtorEq, Nat.succ_ne_zero, elemsC, Int.reduceToNat, Nat.reducePow]) | (simp (disch := (first | omega | (simp only [AL, List.length_map]; omega))) only [AR, AL, ifT, ifF, take_all, List.length_cons, List.length_nil, Int.reduceToNat, Int.reducePow, Nat.reducePow]) | (refine wk_intro (by kernel_rfl) ?_) | (refine vf_of (by first | exact o) ?_))
theorem ref4_Opp (z : Int) (h : (lim z.natAbs).length ≤ 1000000) : Go.Ev.Fn CX 78 [intV z] (intV (-z)) := by
  have e : intV (-z) = .agg [.bool (!decide (z < 0) && decide (0 < (lim z.natAbs).length)), natV (lim z.natAbs)] := by
    show SV.agg [.bool (decide (-z < 0)), natV (lim (-z).natAbs)] = _
    rw [lim_ne, Int.natAbs_neg]
    by_cases h1 : z < 0
    · rw [decide_eq_true h1, decide_eq_false (by omega)]; rfl
    · by_cases h2 : z = 0
      · rw [decide_eq_false h1, decide_eq_false (by omega), decide_eq_false (by omega)]; rfl
      · rw [decide_eq_false h1, decide_eq_true (by omega), decide_eq_true (by omega)]; rfl
  rw [e]
  by_cases h1 : z < 0
  · rw [decide_eq_true h1]
    refine Go.Ev.Fn.intro (fn := Tryz.f78) (body := (Tryz.f78).body.get!) (by kernel_rfl) (by kernel_rfl) (by kernel_rfl) (fun _ => rfl) (Nat.le_of_ble_eq_true (by kernel_rfl)) ?_; unfold Tryz.f78; simp only [Option.get!_some]
    repeat (first | (simp only [go_sem, Nat.reduceEqDiff, Nat.reduceAdd, Nat.reduceSub, Nat.reduceMul, Nat.reduceLeDiff, Nat.reduceLT, reduceIte, reduceCtorEq, Nat.succ_ne_zero, elemsC, Int.reduceToNat, Nat.reducePow, Bool.not_true, Bool.not_false, Bool.false_and, Bool.true_and]) | (simp (disch := (first | omega | (simp only [AL, List.length_map]; omega))) only [AR, AL, ifT, ifF, take_all, List.length_cons, List.length_nil, Int.reduceToNat, Int.reducePow, Nat.reducePow, Bool.not_true, Bool.not_false, Bool.false_and, Bool.true_and]) | (refine wk_intro (by kernel_rfl) ?_))
  · rw [decide_eq_false h1]
    refine Go.Ev.Fn.intro (fn := Tryz.f78) (body := (Tryz.f78).body.get!) (by kernel_rfl) (by kernel_rfl) (by kernel_rfl) (fun _ => rfl) (Nat.le_of_ble_eq_true (by kernel_rfl)) ?_; unfold Tryz.f78; simp only [Option.get!_some]
    repeat (first | (simp only [go_sem, Nat.reduceEqDiff, Nat.reduceAdd, Nat.reduceSub, Nat.reduceMul, Nat.reduceLeDiff, Nat.reduceLT, reduceIte, reduceCtorEq, Nat.succ_ne_zero, elemsC, Int.reduceToNat, Nat.reducePow, Bool.not_true, Bool.not_false, Bool.false_and, Bool.true_and]) | (simp (disch := (first | omega | (simp only [AL, List.length_map]; omega))) only [AR, AL, ifT, ifF, take_all, List.length_cons, List.length_nil, Int.reduceToNat, Int.reducePow, Nat.reducePow, Bool.not_true, Bool.not_false, Bool.false_and, Bool.true_and]) | (refine wk_intro (by kernel_rfl) ?_))
    rw [show decide (((lim z.natAbs).length : Int) > 0) = decide (0 < (lim z.natAbs).length) from decide_eq_decide.2 (by omega)]
end Go.Proofs.YtigiblhmhmgagaaGreat

/- vernierref4: Plus, Times, Cmp, Fall, Rise, pow2, Less, More, in the evaluator. -/
namespace Go.Proofs.YtigiblhmhmgagaaGreat
set_option linter.unusedSimpArgs false
set_option linter.unusedVariables false
set_option maxRecDepth 8000
open Go.Ev
theorem iv_eq {z : Int} {s : Bool} {n : Nat} (h1 : z.natAbs = n) (h2 : decide (z < 0) = s) : intV z = .agg [.bool s, natV (lim n)] := by subst h1 h2; rfl
theorem lenpos {n : Nat} : decide (((lim n).length : Int) > 0) = decide (n ≠ 0) := by
  rw [← lim_ne]; exact decide_eq_decide.2 (by omega)
theorem ref4_Plus (a b : Int) (ha : (lim a.natAbs).length ≤ 1000000) (hb : (lim b.natAbs).length ≤ 1000000) : Go.Ev.Fn CX 77 [intV a, intV b] (intV (a + b)) := by
  have s1 := ref1_AddL (N := a.natAbs) (D := b.natAbs) (by omega) (by omega)
  have c1 := ref1_CmpL (N := a.natAbs) (D := b.natAbs) (by omega) (by omega)
  have s2 := ref1_SubL (N := a.natAbs) (D := b.natAbs) (by omega) (by omega)
  have s3 := ref1_SubL (N := b.natAbs) (D := a.natAbs) (by omega) (by omega)
  have hbb := beq_bool (decide (a < 0)) (decide (b < 0))
  have l2 := lim_len_mono (Nat.sub_le a.natAbs b.natAbs)
  have l3 := lim_len_mono (Nat.sub_le b.natAbs a.natAbs)
  have hl := fun (n : Nat) => lenpos (n := n)
  have hbt : (true == false) = false := rfl
  have hbf : (false == true) = false := rfl
  by_cases hs : decide (a < 0) = decide (b < 0)
  · rw [decide_eq_true hs] at hbb
    have hs' := decide_eq_decide.1 hs
    rw [iv_eq (z := a + b) (s := decide (a < 0)) (n := a.natAbs + b.natAbs) (by omega) (decide_eq_decide.2 (by omega))]
    clear hs
    refine Go.Ev.Fn.intro (fn := Tryz.f77) (body := (Tryz.f77).body.get!) (by kernel_rfl) (by kernel_rfl) (by kernel_rfl) (fun _ => rfl) (Nat.le_of_ble_eq_true (by kernel_rfl)) ?_; unfold Tryz.f77; simp only [Option.get!_some]
    repeat (first | (simp only [go_sem, Nat.reduceEqDiff, Nat.reduceAdd, Nat.reduceSub, Nat.reduceMul, Nat.reduceLeDiff, Nat.reduceLT, reduceIte, reduceCtorEq, Nat.succ_ne_zero, elemsC, Int.reduceToNat, Nat.reducePow, hbb]) | (simp (disch := (first | omega | (simp only [AL, List.length_map]; omega))) only [AR, AL, ifT, ifF, take_all, List.length_cons, List.length_nil, Int.reduceToNat, Int.reducePow, Nat.reducePow, hbb]) | (refine wk_intro (by kernel_rfl) ?_) | (refine vp_draw (id := 2) (l := [17, 19]) (by kernel_rfl) ?_) | (refine vf_of (by first | exact s1) ?_))
  · rw [decide_eq_false hs] at hbb
    have hs' : ¬ ((a < 0) ↔ (b < 0)) := fun h => hs (decide_eq_decide.2 h)
    by_cases h2 : b.natAbs ≤ a.natAbs
    · have e : decide (cmpN a.natAbs b.natAbs ≥ 0) = true := decide_eq_true (by unfold cmpN; split <;> (try split) <;> omega)
      rw [iv_eq (z := a + b) (s := decide (a < 0) && decide (a.natAbs - b.natAbs ≠ 0)) (n := a.natAbs - b.natAbs) (by omega) (by rw [← Bool.decide_and]; exact decide_eq_decide.2 (by omega))]
      generalize cmpN a.natAbs b.natAbs = c at *
      generalize a.natAbs - b.natAbs = x at *
      clear hs s3 s1
      by_cases h3 : a < 0
      · rw [decide_eq_true h3]
        rw [decide_eq_true h3] at hbb
        refine Go.Ev.Fn.intro (fn := Tryz.f77) (body := (Tryz.f77).body.get!) (by kernel_rfl) (by kernel_rfl) (by kernel_rfl) (fun _ => rfl) (Nat.le_of_ble_eq_true (by kernel_rfl)) ?_; unfold Tryz.f77; simp only [Option.get!_some]
        repeat (first | (simp only [go_sem, Nat.reduceEqDiff, Nat.reduceAdd, Nat.reduceSub, Nat.reduceMul, Nat.reduceLeDiff, Nat.reduceLT, reduceIte, reduceCtorEq, Nat.succ_ne_zero, elemsC, Int.reduceToNat, Nat.reducePow, hbt, hbf, hbb, e, hl, Bool.true_and]) | (simp (disch := (first | omega | (simp only [AL, List.length_map]; omega))) only [AR, AL, ifT, ifF, take_all, List.length_cons, List.length_nil, Int.reduceToNat, Int.reducePow, Nat.reducePow, hbt, hbf, hbb, e, hl, Bool.true_and]) | (refine wk_intro (by kernel_rfl) ?_) | (refine vp_draw (id := 2) (l := [17, 19]) (by kernel_rfl) ?_) | (refine vf_of (by first | exact c1 | exact s2) ?_))
      · rw [decide_eq_false h3]
        rw [decide_eq_false h3] at hbb
        refine Go.Ev.Fn.intro (fn := Tryz.f77) (body := (Tryz.f77).body.get!) (by kernel_rfl) (by kernel_rfl) (by kernel_rfl) (fun _ => rfl) (Nat.le_of_ble_eq_true (by kernel_rfl)) ?_; unfold Tryz.f77; simp only [Option.get!_some]
        repeat (first | (simp only [go_sem, Nat.reduceEqDiff, Nat.reduceAdd, Nat.reduceSub, Nat.reduceMul, Nat.reduceLeDiff, Nat.reduceLT, reduceIte, reduceCtorEq, Nat.succ_ne_zero, elemsC, Int.reduceToNat, Nat.reducePow, hbt, hbf, hbb, e, hl, Bool.false_and]) | (simp (disch := (first | omega | (simp only [AL, List.length_map]; omega))) only [AR, AL, ifT, ifF, take_all, List.length_cons, List.length_nil, Int.reduceToNat, Int.reducePow, Nat.reducePow, hbt, hbf, hbb, e, hl, Bool.false_and]) | (refine wk_intro (by kernel_rfl) ?_) | (refine vp_draw (id := 2) (l := [17, 19]) (by kernel_rfl) ?_) | (refine vf_of (by first | exact c1 | exact s2) ?_))
    · have e : decide (cmpN a.natAbs b.natAbs ≥ 0) = false := decide_eq_false (by unfold cmpN; split <;> (try split) <;> omega)
      rw [iv_eq (z := a + b) (s := decide (b < 0) && decide (b.natAbs - a.natAbs ≠ 0)) (n := b.natAbs - a.natAbs) (by omega) (by rw [← Bool.decide_and]; exact decide_eq_decide.2 (by omega))]
      generalize cmpN a.natAbs b.natAbs = c at *
      generalize b.natAbs - a.natAbs = x at *
      clear hs s2 s1
      by_cases h3 : b < 0
      · rw [decide_eq_true h3]
        rw [decide_eq_true h3] at hbb
        refine Go.Ev.Fn.intro (fn := Tryz.f77) (body := (Tryz.f77).body.get!) (by kernel_rfl) (by kernel_rfl) (by kernel_rfl) (fun _ => rfl) (Nat.le_of_ble_eq_true (by kernel_rfl)) ?_; unfold Tryz.f77; simp only [Option.get!_some]
        repeat (first | (simp only [go_sem, Nat.reduceEqDiff, Nat.reduceAdd, Nat.reduceSub, Nat.reduceMul, Nat.reduceLeDiff, Nat.reduceLT, reduceIte, reduceCtorEq, Nat.succ_ne_zero, elemsC, Int.reduceToNat, Nat.reducePow, hbt, hbf, hbb, e, hl, Bool.true_and]) | (simp (disch := (first | omega | (simp only [AL, List.length_map]; omega))) only [AR, AL, ifT, ifF, take_all, List.length_cons, List.length_nil, Int.reduceToNat, Int.reducePow, Nat.reducePow, hbt, hbf, hbb, e, hl, Bool.true_and]) | (refine wk_intro (by kernel_rfl) ?_) | (refine vp_draw (id := 2) (l := [17, 19]) (by kernel_rfl) ?_) | (refine vf_of (by first | exact c1 | exact s3) ?_))
      · rw [decide_eq_false h3]
        rw [decide_eq_false h3] at hbb
        refine Go.Ev.Fn.intro (fn := Tryz.f77) (body := (Tryz.f77).body.get!) (by kernel_rfl) (by kernel_rfl) (by kernel_rfl) (fun _ => rfl) (Nat.le_of_ble_eq_true (by kernel_rfl)) ?_; unfold Tryz.f77; simp only [Option.get!_some]
        repeat (first | (simp only [go_sem, Nat.reduceEqDiff, Nat.reduceAdd, Nat.reduceSub, Nat.reduceMul, Nat.reduceLeDiff, Nat.reduceLT, reduceIte, reduceCtorEq, Nat.succ_ne_zero, elemsC, Int.reduceToNat, Nat.reducePow, hbt, hbf, hbb, e, hl, Bool.false_and]) | (simp (disch := (first | omega | (simp only [AL, List.length_map]; omega))) only [AR, AL, ifT, ifF, take_all, List.length_cons, List.length_nil, Int.reduceToNat, Int.reducePow, Nat.reducePow, hbt, hbf, hbb, e, hl, Bool.false_and]) | (refine wk_intro (by kernel_rfl) ?_) | (refine vp_draw (id := 2) (l := [17, 19]) (by kernel_rfl) ?_) | (refine vf_of (by first | exact c1 | exact s3) ?_))
theorem ref4_Times (a b : Int) (ha : (lim a.natAbs).length ≤ 100000) (hb : (lim b.natAbs).length ≤ 100000) : Go.Ev.Fn CX 105 [intV a, intV b] (intV (a * b)) := by
  have m := ref1_MulL (N := a.natAbs) (D := b.natAbs) (by omega) (by omega)
  have l := lim_len_mul (a := a.natAbs) (b := b.natAbs)
  have hl := fun (n : Nat) => lenpos (n := n)
  rw [iv_eq (z := a * b) (s := (!(decide (a < 0) == decide (b < 0))) && decide (a.natAbs * b.natAbs ≠ 0)) (n := a.natAbs * b.natAbs) (Int.natAbs_mul a b) ?_]
  · generalize a.natAbs * b.natAbs = x at *
    cases h1 : (!(decide (a < 0) == decide (b < 0)))
    · refine Go.Ev.Fn.intro (fn := Tryz.f105) (body := (Tryz.f105).body.get!) (by kernel_rfl) (by kernel_rfl) (by kernel_rfl) (fun _ => rfl) (Nat.le_of_ble_eq_true (by kernel_rfl)) ?_; unfold Tryz.f105; simp only [Option.get!_some]
      repeat (first | (simp only [go_sem, Nat.reduceEqDiff, Nat.reduceAdd, Nat.reduceSub, Nat.reduceMul, Nat.reduceLeDiff, Nat.reduceLT, reduceIte, reduceCtorEq, Nat.succ_ne_zero, elemsC, Int.reduceToNat, Nat.reducePow, h1, hl, Bool.false_and]) | (simp (disch := (first | omega | (simp only [AL, List.length_map]; omega))) only [AR, AL, ifT, ifF, take_all, List.length_cons, List.length_nil, Int.reduceToNat, Int.reducePow, Nat.reducePow, h1, hl, Bool.false_and]) | (refine wk_intro (by kernel_rfl) ?_) | (refine vf_of (by first | exact m) ?_))
    · refine Go.Ev.Fn.intro (fn := Tryz.f105) (body := (Tryz.f105).body.get!) (by kernel_rfl) (by kernel_rfl) (by kernel_rfl) (fun _ => rfl) (Nat.le_of_ble_eq_true (by kernel_rfl)) ?_; unfold Tryz.f105; simp only [Option.get!_some]
      repeat (first | (simp only [go_sem, Nat.reduceEqDiff, Nat.reduceAdd, Nat.reduceSub, Nat.reduceMul, Nat.reduceLeDiff, Nat.reduceLT, reduceIte, reduceCtorEq, Nat.succ_ne_zero, elemsC, Int.reduceToNat, Nat.reducePow, h1, hl, Bool.true_and]) | (simp (disch := (first | omega | (simp only [AL, List.length_map]; omega))) only [AR, AL, ifT, ifF, take_all, List.length_cons, List.length_nil, Int.reduceToNat, Int.reducePow, Nat.reducePow, h1, hl, Bool.true_and]) | (refine wk_intro (by kernel_rfl) ?_) | (refine vf_of (by first | exact m) ?_))
  · by_cases h0 : a.natAbs * b.natAbs = 0
    · have : a * b = 0 := by
        have := Int.natAbs_mul a b
        omega
      rw [this, h0]
      simp
    · rw [decide_eq_true h0, Bool.and_true]
      have h := sgn_mul a b
      rw [← h]
      exact sgn_neg _ h0
/-- -1, 0, 1. -/
def cmpZ (a b : Int) : Int := if a < b then -1 else if a = b then 0 else 1
theorem ref4_Cmp (a b : Int) (ha : (lim a.natAbs).length ≤ 100000) (hb : (lim b.natAbs).length ≤ 100000) : Go.Ev.Fn CX 106 [intV a, intV b] (.int .i64 (cmpZ a b)) := by
  have o := ref4_Opp b (by omega)
  have s := ref4_Plus a (-b) (by omega) (by rw [Int.natAbs_neg]; omega)
  have l : (lim (a + -b).natAbs).length ≤ 100001 := Nat.le_trans (lim_len_mono (show (a + -b).natAbs ≤ a.natAbs + b.natAbs by omega)) (lim_len_add (L := 100000) ha hb)
  by_cases h0 : a + -b = 0
  · rw [show cmpZ a b = 0 by unfold cmpZ; rw [if_neg (by omega), if_pos (by omega)]]
    have e : (lim (a + -b).natAbs).length = 0 := by rw [h0]; simp [lim_zero]
    refine Go.Ev.Fn.intro (fn := Tryz.f106) (body := (Tryz.f106).body.get!) (by kernel_rfl) (by kernel_rfl) (by kernel_rfl) (fun _ => rfl) (Nat.le_of_ble_eq_true (by kernel_rfl)) ?_; unfold Tryz.f106; simp only [Option.get!_some]
    repeat (first | (simp only [go_sem, Nat.reduceEqDiff, Nat.reduceAdd, Nat.reduceSub, Nat.reduceMul, Nat.reduceLeDiff, Nat.reduceLT, reduceIte, reduceCtorEq, Nat.succ_ne_zero, elemsC, Int.reduceToNat, Nat.reducePow, e]) | (simp (disch := (first | omega | (simp only [AL, List.length_map]; omega))) only [AR, AL, ifT, ifF, take_all, List.length_cons, List.length_nil, Int.reduceToNat, Int.reducePow, Nat.reducePow, e]) | (refine wk_intro (by kernel_rfl) ?_) | (refine vp_draw (id := 1) (l := []) (by kernel_rfl) ?_) | (refine vf_of (by first | exact o | exact s) ?_))
  · have e := lim_pos (N := (a + -b).natAbs) (by omega)
    by_cases h1 : a + -b < 0
    · rw [show cmpZ a b = -1 by unfold cmpZ; rw [if_pos (by omega)]]
      have e2 : decide (a + -b < 0) = true := decide_eq_true h1
      refine Go.Ev.Fn.intro (fn := Tryz.f106) (body := (Tryz.f106).body.get!) (by kernel_rfl) (by kernel_rfl) (by kernel_rfl) (fun _ => rfl) (Nat.le_of_ble_eq_true (by kernel_rfl)) ?_; unfold Tryz.f106; simp only [Option.get!_some]
      repeat (first | (simp only [go_sem, Nat.reduceEqDiff, Nat.reduceAdd, Nat.reduceSub, Nat.reduceMul, Nat.reduceLeDiff, Nat.reduceLT, reduceIte, reduceCtorEq, Nat.succ_ne_zero, elemsC, Int.reduceToNat, Nat.reducePow, e2]) | (simp (disch := (first | omega | (simp only [AL, List.length_map]; omega))) only [AR, AL, ifT, ifF, take_all, List.length_cons, List.length_nil, Int.reduceToNat, Int.reducePow, Nat.reducePow, e2]) | (refine wk_intro (by kernel_rfl) ?_) | (refine vp_draw (id := 1) (l := []) (by kernel_rfl) ?_) | (refine vf_of (by first | exact o | exact s) ?_))
    · rw [show cmpZ a b = 1 by unfold cmpZ; rw [if_neg (by omega), if_neg (by omega)]]
      have e2 : decide (a + -b < 0) = false := decide_eq_false h1
      refine Go.Ev.Fn.intro (fn := Tryz.f106) (body := (Tryz.f106).body.get!) (by kernel_rfl) (by kernel_rfl) (by kernel_rfl) (fun _ => rfl) (Nat.le_of_ble_eq_true (by kernel_rfl)) ?_; unfold Tryz.f106; simp only [Option.get!_some]
      repeat (first | (simp only [go_sem, Nat.reduceEqDiff, Nat.reduceAdd, Nat.reduceSub, Nat.reduceMul, Nat.reduceLeDiff, Nat.reduceLT, reduceIte, reduceCtorEq, Nat.succ_ne_zero, elemsC, Int.reduceToNat, Nat.reducePow, e2]) | (simp (disch := (first | omega | (simp only [AL, List.length_map]; omega))) only [AR, AL, ifT, ifF, take_all, List.length_cons, List.length_nil, Int.reduceToNat, Int.reducePow, Nat.reducePow, e2]) | (refine wk_intro (by kernel_rfl) ?_) | (refine vp_draw (id := 1) (l := []) (by kernel_rfl) ?_) | (refine vf_of (by first | exact o | exact s) ?_))
/-- Rounded up. -/
def cdZ (a : Int) (d : Nat) : Int := -(-a / (d : Int))
theorem fall_eq {a : Int} {d : Nat} (hd : d ≠ 0) : a / (d : Int) = if a < 0 ∧ a.natAbs % d ≠ 0 then -((a.natAbs / d + 1 : Nat) : Int) else sgn (decide (a < 0)) (a.natAbs / d) := by
  by_cases h : a < 0
  · obtain ⟨m, rfl⟩ : ∃ m : Nat, a = -(m : Int) := ⟨a.natAbs, by omega⟩
    rw [Int.natAbs_neg, Int.natAbs_natCast]
    have hm := Nat.div_add_mod m d
    have hlt := Nat.mod_lt m (Nat.pos_of_ne_zero hd)
    by_cases h2 : m % d = 0
    · rw [if_neg (fun g => g.2 h2), decide_eq_true h]
      unfold sgn
      rw [if_pos rfl]
      have : -(m : Int) = (d : Int) * -((m / d : Nat) : Int) := by
        rw [Int.mul_neg, ← Int.natCast_mul]
        omega
      rw [this, Int.mul_ediv_cancel_left _ (by omega)]
    · rw [if_pos ⟨h, h2⟩]
      have e : -(m : Int) = ((d - m % d : Nat) : Int) + (d : Int) * -((m / d + 1 : Nat) : Int) := by
        rw [Int.mul_neg, ← Int.natCast_mul, Nat.mul_add, Nat.mul_one]
        omega
      rw [e, Int.add_mul_ediv_left _ _ (by omega), Int.ediv_eq_zero_of_lt (by omega) (by omega)]
      omega
  · obtain ⟨m, rfl⟩ : ∃ m : Nat, a = (m : Int) := ⟨a.natAbs, by omega⟩
    rw [if_neg (fun g => h g.1), decide_eq_false h, Int.natAbs_natCast]
    unfold sgn
    rw [if_neg (by simp), Int.natCast_ediv]
theorem sgn_iv (s : Bool) (n : Nat) : intV (sgn s n) = .agg [.bool (s && decide (n ≠ 0)), natV (lim n)] := by
  refine iv_eq (sgn_abs s n) ?_
  by_cases h : n = 0
  · subst h; rw [sgn_zero]; simp
  · rw [sgn_neg s h, decide_eq_true h, Bool.and_true]
theorem ref4_Fall (a : Int) (d : Nat) (hd : d ≠ 0) (ha : (lim a.natAbs).length ≤ 1000000) (hb : (lim d).length ≤ 1000000) : Go.Ev.Fn CX 75 [intV a, natV (lim d)] (intV (a / (d : Int))) := by
  have s1 := ref1_DivL (N := a.natAbs) (D := d) hd (by omega) (by omega)
  have l := lim_len_mono (Nat.div_le_self a.natAbs d)
  have l1 := lim_len1
  have s2 := ref1_AddL (N := a.natAbs / d) (D := 1) (by omega) (by omega)
  rw [lim_one] at s2
  have hl := fun (n : Nat) => lenpos (n := n)
  have l4 := lim_len_mono (Nat.le_of_lt (Nat.mod_lt a.natAbs (Nat.pos_of_ne_zero hd)))
  have l5 := lim_len_add (a := a.natAbs / d) (b := 1) (L := 1000000) (by omega) (by omega)
  have e := fall_eq (a := a) hd
  by_cases h : a < 0
  · by_cases h2 : a.natAbs % d = 0
    · rw [if_neg (fun g => g.2 h2)] at e
      rw [e, sgn_iv, decide_eq_true h]
      rw [h2] at s1
      have h0 : decide ((0 : Nat) ≠ 0) = false := rfl
      generalize a.natAbs / d = x at *
      refine Go.Ev.Fn.intro (fn := Tryz.f75) (body := (Tryz.f75).body.get!) (by kernel_rfl) (by kernel_rfl) (by kernel_rfl) (fun _ => rfl) (Nat.le_of_ble_eq_true (by kernel_rfl)) ?_; unfold Tryz.f75; simp only [Option.get!_some]
      repeat (first | (simp only [go_sem, Nat.reduceEqDiff, Nat.reduceAdd, Nat.reduceSub, Nat.reduceMul, Nat.reduceLeDiff, Nat.reduceLT, reduceIte, reduceCtorEq, Nat.succ_ne_zero, elemsC, Int.reduceToNat, Nat.reducePow, hl, h0, Bool.true_and]) | (simp (disch := (first | omega | (simp only [AL, List.length_map]; omega))) only [AR, AL, ifT, ifF, take_all, List.length_cons, List.length_nil, Int.reduceToNat, Int.reducePow, Nat.reducePow, hl, h0, Bool.true_and]) | (refine wk_intro (by kernel_rfl) ?_) | (refine vf_of (by first | exact s1) ?_))
    · rw [if_pos ⟨h, h2⟩] at e
      rw [e, show -((a.natAbs / d + 1 : Nat) : Int) = sgn true (a.natAbs / d + 1) from rfl, sgn_iv]
      have h0 : decide (a.natAbs % d ≠ 0) = true := decide_eq_true h2
      generalize a.natAbs / d + 1 = y at *
      generalize a.natAbs / d = x at *
      generalize a.natAbs % d = r at *
      refine Go.Ev.Fn.intro (fn := Tryz.f75) (body := (Tryz.f75).body.get!) (by kernel_rfl) (by kernel_rfl) (by kernel_rfl) (fun _ => rfl) (Nat.le_of_ble_eq_true (by kernel_rfl)) ?_; unfold Tryz.f75; simp only [Option.get!_some]
      repeat (first | (simp only [go_sem, Nat.reduceEqDiff, Nat.reduceAdd, Nat.reduceSub, Nat.reduceMul, Nat.reduceLeDiff, Nat.reduceLT, reduceIte, reduceCtorEq, Nat.succ_ne_zero, elemsC, Int.reduceToNat, Nat.reducePow, hl, h0, Bool.true_and]) | (simp (disch := (first | omega | (simp only [AL, List.length_map]; omega))) only [AR, AL, ifT, ifF, take_all, List.length_cons, List.length_nil, Int.reduceToNat, Int.reducePow, Nat.reducePow, hl, h0, Bool.true_and]) | (refine wk_intro (by kernel_rfl) ?_) | (refine vf_of (by first | exact s1 | exact s2) ?_))
  · rw [if_neg (fun g => h g.1)] at e
    rw [e, sgn_iv, decide_eq_false h]
    generalize a.natAbs / d = x at *
    refine Go.Ev.Fn.intro (fn := Tryz.f75) (body := (Tryz.f75).body.get!) (by kernel_rfl) (by kernel_rfl) (by kernel_rfl) (fun _ => rfl) (Nat.le_of_ble_eq_true (by kernel_rfl)) ?_; unfold Tryz.f75; simp only [Option.get!_some]
    repeat (first | (simp only [go_sem, Nat.reduceEqDiff, Nat.reduceAdd, Nat.reduceSub, Nat.reduceMul, Nat.reduceLeDiff, Nat.reduceLT, reduceIte, reduceCtorEq, Nat.succ_ne_zero, elemsC, Int.reduceToNat, Nat.reducePow, hl, Bool.false_and]) | (simp (disch := (first | omega | (simp only [AL, List.length_map]; omega))) only [AR, AL, ifT, ifF, take_all, List.length_cons, List.length_nil, Int.reduceToNat, Int.reducePow, Nat.reducePow, hl, Bool.false_and]) | (refine wk_intro (by kernel_rfl) ?_) | (refine vf_of (by first | exact s1) ?_))
theorem abs_div_le (a : Int) {d : Nat} (hd : d ≠ 0) : (a / (d : Int)).natAbs ≤ a.natAbs := by
  rw [fall_eq hd]
  have h1 := Nat.div_le_self a.natAbs d
  split
  · rename_i h
    rw [Int.natAbs_neg, Int.natAbs_natCast]
    have hm := Nat.div_add_mod a.natAbs d
    have : a.natAbs / d ≤ d * (a.natAbs / d) := Nat.le_mul_of_pos_left _ (Nat.pos_of_ne_zero hd)
    omega
  · rw [sgn_abs]; exact h1
theorem cd_abs_le (a : Int) {d : Nat} (hd : d ≠ 0) : (cdZ a d).natAbs ≤ a.natAbs := by
  have := abs_div_le (-a) hd
  unfold cdZ
  omega
theorem ref4_Rise (a : Int) (d : Nat) (hd : d ≠ 0) (ha : (lim a.natAbs).length ≤ 1000000) (hb : (lim d).length ≤ 1000000) : Go.Ev.Fn CX 76 [intV a, natV (lim d)] (intV (cdZ a d)) := by
  have o := ref4_Opp a ha
  have f := ref4_Fall (-a) d hd (by rw [Int.natAbs_neg]; exact ha) hb
  have l := lim_len_mono (abs_div_le (-a) hd)
  rw [Int.natAbs_neg a] at l
  have o2 := ref4_Opp (-a / (d : Int)) (by omega)
  unfold cdZ
  generalize -a / (d : Int) = y at *
  refine Go.Ev.Fn.intro (fn := Tryz.f76) (body := (Tryz.f76).body.get!) (by kernel_rfl) (by kernel_rfl) (by kernel_rfl) (fun _ => rfl) (Nat.le_of_ble_eq_true (by kernel_rfl)) ?_; unfold Tryz.f76; simp only [Option.get!_some]
  repeat (first | (simp only [go_sem, Nat.reduceEqDiff, Nat.reduceAdd, Nat.reduceSub, Nat.reduceMul, Nat.reduceLeDiff, Nat.reduceLT, reduceIte, reduceCtorEq, Nat.succ_ne_zero, elemsC, Int.reduceToNat, Nat.reducePow]) | (simp (disch := (first | omega | (simp only [AL, List.length_map]; omega))) only [AR, AL, ifT, ifF, take_all, List.length_cons, List.length_nil, Int.reduceToNat, Int.reducePow, Nat.reducePow]) | (refine wk_intro (by kernel_rfl) ?_) | (refine vf_of (by first | exact o | exact f | exact o2) ?_))
theorem ref4_pow2 {n : Nat} (h : n ≤ 4096) : Go.Ev.Fn CX 103 [.int .i64 (n : Int)] (natV (lim (2 ^ n))) := by
  have s := ref1_shift_up (lim 1) n (okL_lim _) (by rw [lim_one]; simp) _ rfl h
  rw [wth_lim, Nat.one_mul, lim_one] at s
  refine Go.Ev.Fn.intro (fn := Tryz.f103) (body := (Tryz.f103).body.get!) (by kernel_rfl) (by kernel_rfl) (by kernel_rfl) (fun _ => rfl) (Nat.le_of_ble_eq_true (by kernel_rfl)) ?_; unfold Tryz.f103; simp only [Option.get!_some]
  repeat (first | (simp only [go_sem, Nat.reduceEqDiff, Nat.reduceAdd, Nat.reduceSub, Nat.reduceMul, Nat.reduceLeDiff, Nat.reduceLT, reduceIte, reduceCtorEq, Nat.succ_ne_zero, elemsC, Int.reduceToNat, Nat.reducePow]) | (simp (disch := (first | omega | (simp only [AL, List.length_map]; omega))) only [AR, AL, ifT, ifF, take_all, List.length_cons, List.length_nil, Int.reduceToNat, Int.reducePow, Nat.reducePow]) | (refine wk_intro (by kernel_rfl) ?_) | (refine vf_of (by first | exact s) ?_))
end Go.Proofs.YtigiblhmhmgagaaGreat

/- vernierref1: Shift downwards, Bits, in the evaluator. -/
namespace Go.Proofs.YtigiblhmhmgagaaGreat
set_option linter.unusedSimpArgs false
set_option linter.unusedVariables false
set_option maxRecDepth 8000
open Go.Ev
theorem wth_drop1 (b : List Nat) (i : Nat) : wth (b.drop i) = b.getD i 0 + 4294967296 * wth (b.drop (i + 1)) := by
  by_cases h : i < b.length
  · rw [List.drop_eq_getElem_cons h, List.getD_eq_getElem?_getD, List.getElem?_eq_getElem h]
    rfl
  · rw [List.drop_of_length_le (by omega), List.drop_of_length_le (by omega), getD_ge (by omega)]
    simp [wth]
theorem wth_shr_drop {a : List Nat} (ha : okL a) (m : Nat) : wth a / 2 ^ m = wth (a.drop (m / 32)) / 2 ^ (m % 32) := by
  have hpow : 2 ^ m = 4294967296 ^ (m / 32) * 2 ^ (m % 32) := pow_32 m
  rw [hpow, ← Nat.div_div_eq_div_mul]
  congr 1
  conv => lhs; rw [← List.take_append_drop (m / 32) a, wth_append]
  have h1 := wth_lt (okL_take ha (m / 32))
  rw [List.length_take] at h1 ⊢
  rcases Nat.lt_or_ge a.length (m / 32) with h2 | h2
  · rw [List.drop_of_length_le (by omega)]
    simp only [wth, Nat.mul_zero, Nat.add_zero]
    refine Nat.div_eq_of_lt (Nat.lt_of_lt_of_le h1 (Nat.pow_le_pow_right (by omega) (Nat.min_le_left _ _)))
  · rw [Nat.min_eq_left h2] at h1 ⊢
    rw [Nat.add_comm, Nat.mul_add_div (Nat.pow_pos (by omega)), Nat.div_eq_of_lt h1, Nat.add_zero]
theorem ref1_shift_down (xs : List Nat) (m : Nat) (hx : okL xs) (hl : xs.length ≤ 1073741824) (s : Int) (hs : s = -(m : Int)) (hm : m ≤ 4096) (hm0 : 0 < m) :
    Go.Ev.Fn CX 74 [natV xs, .int .i64 s] (natV (lim (wth xs / 2 ^ m))) := by
  refine Go.Ev.Fn.intro (fn := Tryz.f74) (body := (Tryz.f74).body.get!) (by kernel_rfl) (by kernel_rfl) (by kernel_rfl) (fun _ => rfl) (Nat.le_of_ble_eq_true (by kernel_rfl)) ?_; unfold Tryz.f74; simp only [Option.get!_some]
  have lx := lim_length_le hx
  have e1 : (if (-4096 : Int) > s then (-4096 : Int) else s) = s := if_neg (by omega)
  have e2 : (if (4096 : Int) < s then (4096 : Int) else s) = s := if_neg (by omega)
  have e3 : IntKind.i64.wrap (0 - s) = (m : Int) := by rw [wI64 (by omega)]; omega
  have hs0 : decide (s < 0) = true := by simp; omega
  repeat (first | (simp only [go_sem, Nat.reduceEqDiff, Nat.reduceAdd, Nat.reduceSub, Nat.reduceMul, Nat.reduceLeDiff, Nat.reduceLT, reduceIte, reduceCtorEq, Nat.succ_ne_zero, elemsC, Int.reduceToNat, Nat.reducePow, e1, e2, e3]) | (simp (disch := (first | omega | (simp only [AL, List.length_map]; omega))) only [AR, AL, ifT, ifF, take_all, List.length_cons, List.length_nil, Int.reduceToNat, Int.reducePow, Nat.reducePow, e1, e2, e3]) | (refine wk_intro (by kernel_rfl) ?_) | (refine vp_draw (l := []) (by kernel_rfl) ?_))
  have ha := okL_lim (wth xs)
  refine vf_of (ref1_Trim xs hx (by omega)) ?_; repeat (first | (simp only [go_sem, Nat.reduceEqDiff, Nat.reduceAdd, Nat.reduceSub, Nat.reduceMul, Nat.reduceLeDiff, Nat.reduceLT, reduceIte, reduceCtorEq, Nat.succ_ne_zero, elemsC, Int.reduceToNat, Nat.reducePow, e1, e2, e3, tdiv32, tmod32, hs0]) | (simp (disch := (first | omega | (simp only [AL, List.length_map]; omega))) only [AR, AL, ifT, ifF, take_all, List.length_cons, List.length_nil, Int.reduceToNat, Int.reducePow, Nat.reducePow, e1, e2, e3, tdiv32, tmod32, hs0]) | (refine wk_intro (by kernel_rfl) ?_))
  have va := wth_lim (wth xs)
  generalize lim (wth xs) = a at *
  have hk : m % 32 < 32 := Nat.mod_lt _ (by omega)
  rw [← va, wth_shr_drop ha]
  by_cases hlen : a.length ≤ m / 32
  · rw [List.drop_of_length_le hlen]
    have e0 : lim (wth [] / 2 ^ (m % 32)) = [] := by simp [wth, lim_zero]
    rw [e0]
    repeat (first | (simp only [go_sem, Nat.reduceEqDiff, Nat.reduceAdd, Nat.reduceSub, Nat.reduceMul, Nat.reduceLeDiff, Nat.reduceLT, reduceIte, reduceCtorEq, Nat.succ_ne_zero, elemsC, Int.reduceToNat, Nat.reducePow, e3, tdiv32, tmod32]) | (simp (disch := (first | omega | (simp only [AL, List.length_map]; omega))) only [AR, AL, ifT, ifF, take_all, List.length_cons, List.length_nil, Int.reduceToNat, Int.reducePow, Nat.reducePow, e3, tdiv32, tmod32]) | (refine wk_intro (by kernel_rfl) ?_))
    rfl
  · repeat (first | (simp only [go_sem, Nat.reduceEqDiff, Nat.reduceAdd, Nat.reduceSub, Nat.reduceMul, Nat.reduceLeDiff, Nat.reduceLT, reduceIte, reduceCtorEq, Nat.succ_ne_zero, elemsC, Int.reduceToNat, Nat.reducePow, e3, tdiv32, tmod32]) | (simp (disch := (first | omega | (simp only [AL, List.length_map]; omega))) only [AR, AL, ifT, ifF, take_all, List.length_cons, List.length_nil, Int.reduceToNat, Int.reducePow, Nat.reducePow, e3, tdiv32, tmod32]) | (refine wk_intro (by kernel_rfl) ?_))
    have hbl : (a.drop (m / 32)).length = a.length - m / 32 := List.length_drop ..
    have hb := okL_drop ha (m / 32)
    have hnl : a.length - m / 32 ≤ 1073741824 := by omega
    have hpos : 0 < a.length - m / 32 := by omega
    generalize a.drop (m / 32) = b at *
    generalize a.length - m / 32 = n at *
    subst hbl
    generalize m % 32 = k at *
    clear e1 e2 e3 hs0 va lx hx hl
    refine vp_loop_inv (fun s' => s'.tmp 5 = .sv (natV b) ∧ s'.tmp 7 = .sv (.int .u64 k) ∧
        ∃ c : List Nat, ∃ i : Nat, s'.tmp 9 = .sv (.int .i64 i) ∧ c.length = i ∧ okL c ∧ i ≤ b.length ∧ wth c + 4294967296 ^ i * (wth (b.drop i) / 2 ^ k) = wth b / 2 ^ k ∧
          ((i = 0 ∧ s'.tmp 8 = .nil ∧ s'.gen 56 = 0) ∨ (0 < i ∧ s'.tmp 8 = .ref 56 0 1 0 i ∧ s'.obj 56 0 = some (c.map limb))))
      (fun s => match s.tmp 9 with | .sv (.int _ i) => b.length - i.toNat | _ => 0) ⟨rfl, rfl, [], 0, rfl, rfl, okL_nil, by omega, by simp [wth], .inl ⟨rfl, rfl, rfl⟩⟩ ?_
    rintro s' ⟨i5, i7, c, i, i9, hcl, hc, hi, hv, hcase⟩
    by_cases hend : i = b.length
    · subst hend
      rw [List.drop_of_length_le (Nat.le_refl _), show wth [] / 2 ^ k = 0 by simp [wth], Nat.mul_zero, Nat.add_zero] at hv
      rcases hcase with ⟨h0, i8, -⟩ | ⟨h0, i8, iO⟩
      · omega
      · repeat (first | (simp only [go_sem, Nat.reduceEqDiff, Nat.reduceAdd, Nat.reduceSub, Nat.reduceMul, Nat.reduceLeDiff, Nat.reduceLT, reduceIte, reduceCtorEq, Nat.succ_ne_zero, elemsC, Int.reduceToNat, Nat.reducePow, i5, i7, i9, i8, iO]) | (simp (disch := (first | omega | (simp only [AL, List.length_map]; omega))) only [AR, AL, ifT, ifF, take_all, List.length_cons, List.length_nil, Int.reduceToNat, Int.reducePow, Nat.reducePow, i5, i7, i9, i8, iO]) | (refine wk_intro (by kernel_rfl) ?_) | (refine vp_draw (l := []) (by kernel_rfl) ?_))
        refine vf_of (fn_natV (ref1_Trim c hc (by omega)) hcl) ?_; repeat (first | (simp only [go_sem, Nat.reduceEqDiff, Nat.reduceAdd, Nat.reduceSub, Nat.reduceMul, Nat.reduceLeDiff, Nat.reduceLT, reduceIte, reduceCtorEq, Nat.succ_ne_zero, elemsC, Int.reduceToNat, Nat.reducePow, i5, i7, i9, i8, iO]) | (simp (disch := (first | omega | (simp only [AL, List.length_map]; omega))) only [AR, AL, ifT, ifF, take_all, List.length_cons, List.length_nil, Int.reduceToNat, Int.reducePow, Nat.reducePow, i5, i7, i9, i8, iO]) | (refine wk_intro (by kernel_rfl) ?_) | (refine vp_draw (l := []) (by kernel_rfl) ?_))
        rw [hv]
    · have h1 := getD_lt hb i
      have h2 := getD_lt hb (i + 1)
      have a1 := ref1_at b i hb (by omega) (by omega)
      have a2 := ref1_at b (i + 1) hb (by omega) (by omega)
      rw [show ((i + 1 : Nat) : Int) = (i : Int) + 1 from rfl] at a2
      have d1 := wth_drop1 b i
      have d2 := wth_drop1 b (i + 1)
      obtain ⟨g1, g2⟩ := (shr_limb hk (d1.trans (by rw [d2]))).resolve_right (not_not_intro h1)
      rw [← d2] at g2
      generalize hxx : b.getD i 0 = x at *
      generalize hyy : b.getD (i + 1) 0 = y at *
      have hsplit := Nat.mod_add_div (wth (b.drop i) / 2 ^ k) 4294967296
      rw [g1, g2] at hsplit
      have hv2 : ∀ v, v = (x + 4294967296 * y) / 2 ^ k % 4294967296 → wth (c ++ [v]) + 4294967296 ^ (i + 1) * (wth (b.drop (i + 1)) / 2 ^ k) = wth b / 2 ^ k := by
        rintro v rfl
        rw [wth_snoc, hcl, ← hv, ← hsplit, Nat.pow_succ, Nat.mul_add, Nat.mul_assoc, Nat.add_assoc]
      have hj : bitsSV .or .u64 ((x : Nat) : Int) ((y * 4294967296 : Nat) : Int) = some (.int .u64 ((x + 4294967296 * y : Nat) : Int)) := by
        rw [b_or64 (by omega) (by omega), or_high h1]
      have hw64 : y * 4294967296 % 18446744073709551616 = y * 4294967296 := Nat.mod_eq_of_lt (by omega)
      have hk64 : min k 64 = k := by omega
      have hz : (x + 4294967296 * y) / 2 ^ k % 4294967296 < 4294967296 := Nat.mod_lt _ (by omega)
      clear hsplit g1 g2 d1 d2 hv
      rcases hcase with ⟨h0, i8, ig⟩ | ⟨h0, i8, iO⟩
      · repeat (first | (simp only [go_sem, Nat.reduceEqDiff, Nat.reduceAdd, Nat.reduceSub, Nat.reduceMul, Nat.reduceLeDiff, Nat.reduceLT, reduceIte, reduceCtorEq, Nat.succ_ne_zero, elemsC, Int.reduceToNat, Nat.reducePow, i5, i7, i9, i8, ig]) | (simp (disch := (first | omega | (simp only [AL, List.length_map]; omega))) only [AR, AL, ifT, ifF, take_all, List.length_cons, List.length_nil, Int.reduceToNat, Int.reducePow, Nat.reducePow, i5, i7, i9, i8, ig]) | (refine wk_intro (by kernel_rfl) ?_) | (refine vp_draw (l := []) (by kernel_rfl) ?_))
        repeat (first | (simp only [go_sem, Nat.reduceEqDiff, Nat.reduceAdd, Nat.reduceSub, Nat.reduceMul, Nat.reduceLeDiff, Nat.reduceLT, reduceIte, reduceCtorEq, Nat.succ_ne_zero, elemsC, Int.reduceToNat, Nat.reducePow, i5, i7, i9, i8, ig, hj, hw64, hk64, N0]) | (simp (disch := (first | omega | (simp only [AL, List.length_map]; omega))) only [AR, AL, ifT, ifF, take_all, List.length_cons, List.length_nil, Int.reduceToNat, Int.reducePow, Nat.reducePow, i5, i7, i9, i8, ig, hj, hw64, hk64, N0]) | (refine wk_intro (by kernel_rfl) ?_) | (refine vp_draw (l := []) (by kernel_rfl) ?_) | (refine vf_of (by first | exact a1 | exact a2) ?_))
        subst h0
        obtain rfl := List.length_eq_zero_iff.1 hcl
        exact ⟨⟨[] ++ [(x + 4294967296 * y) / 2 ^ k % 4294967296], 1, rfl, rfl, okL_append.2 ⟨hc, okL_cons.2 ⟨hz, okL_nil⟩⟩, by omega, hv2 _ rfl, .inr ⟨by omega, rfl, rfl⟩⟩, by omega⟩
      · repeat (first | (simp only [go_sem, Nat.reduceEqDiff, Nat.reduceAdd, Nat.reduceSub, Nat.reduceMul, Nat.reduceLeDiff, Nat.reduceLT, reduceIte, reduceCtorEq, Nat.succ_ne_zero, elemsC, Int.reduceToNat, Nat.reducePow, i5, i7, i9, i8, iO]) | (simp (disch := (first | omega | (simp only [AL, List.length_map]; omega))) only [AR, AL, ifT, ifF, take_all, List.length_cons, List.length_nil, Int.reduceToNat, Int.reducePow, Nat.reducePow, i5, i7, i9, i8, iO]) | (refine wk_intro (by kernel_rfl) ?_) | (refine vp_draw (l := []) (by kernel_rfl) ?_))
        repeat (first | (simp only [go_sem, Nat.reduceEqDiff, Nat.reduceAdd, Nat.reduceSub, Nat.reduceMul, Nat.reduceLeDiff, Nat.reduceLT, reduceIte, reduceCtorEq, Nat.succ_ne_zero, elemsC, Int.reduceToNat, Nat.reducePow, i5, i7, i9, i8, iO, hj, hw64, hk64, N0]) | (simp (disch := (first | omega | (simp only [AL, List.length_map]; omega))) only [AR, AL, ifT, ifF, take_all, List.length_cons, List.length_nil, Int.reduceToNat, Int.reducePow, Nat.reducePow, i5, i7, i9, i8, iO, hj, hw64, hk64, N0]) | (refine wk_intro (by kernel_rfl) ?_) | (refine vp_draw (l := []) (by kernel_rfl) ?_) | (refine vf_of (by first | exact a1 | exact a2) ?_))
        exact ⟨⟨c ++ [(x + 4294967296 * y) / 2 ^ k % 4294967296], i + 1, rfl, by rw [List.length_append, hcl]; rfl, okL_append.2 ⟨hc, okL_cons.2 ⟨hz, okL_nil⟩⟩, by omega, hv2 _ rfl, .inr ⟨by omega, rfl, by rw [List.map_append]; rfl⟩⟩, by omega⟩
theorem ref1_shl {N m : Nat} (h : (lim N).length ≤ 1073741824) (hm : m ≤ 4096) : Go.Ev.Fn CX 74 [natV (lim N), .int .i64 (m : Int)] (natV (lim (N * 2 ^ m))) := by
  have := ref1_shift_up (lim N) m (okL_lim _) h _ rfl hm
  rwa [wth_lim] at this
theorem ref1_shr {N m : Nat} (h : (lim N).length ≤ 1073741824) (hm : m ≤ 4096) (h0 : 0 < m) : Go.Ev.Fn CX 74 [natV (lim N), .int .i64 (-(m : Int))] (natV (lim (N / 2 ^ m))) := by
  have := ref1_shift_down (lim N) m (okL_lim _) h _ rfl hm h0
  rwa [wth_lim] at this
end Go.Proofs.YtigiblhmhmgagaaGreat

/- Sums, means, variances of rows of numbers: plain mathematics; what a row of Rats reads as. No program. -/
namespace Go.Proofs.YtigiblhmhmgagaaGreat
open Go.Ev
def sumR (l : List Rat) : Rat := l.foldl (fun a b => a + b) 0
def meanR (l : List Rat) : Rat := sumR l / ((l.length : Int) : Rat)
def offR (l : List Rat) : List Rat := l.map fun x => x - meanR l
def sqR (l : List Rat) : Rat := sumR ((offR l).map fun x => x * x)
def varR (l : List Rat) : Rat := sqR l / (((l.length : Int) - 1 : Int) : Rat)
theorem foldl_add (l : List Rat) (a : Rat) : l.foldl (fun a b => a + b) a = a + sumR l := by
  unfold sumR
  induction l generalizing a with
  | nil => simp only [List.foldl_nil]; grind
  | cons x l ih => simp only [List.foldl_cons]; rw [ih (a + x), ih (0 + x)]; grind
theorem sumR_nil : sumR [] = 0 := rfl
theorem sumR_cons (x : Rat) (l : List Rat) : sumR (x :: l) = x + sumR l := by
  show List.foldl _ (0 + x) l = _
  rw [foldl_add]; grind
theorem sumR_append (l m : List Rat) : sumR (l ++ m) = sumR l + sumR m := by
  unfold sumR; rw [List.foldl_append, foldl_add]; rfl
theorem sumR_snoc (l : List Rat) (x : Rat) : sumR (l ++ [x]) = sumR l + x := by
  rw [sumR_append, sumR_cons, sumR_nil]; grind
theorem take_snoc (l : List Rat) {i : Nat} (h : i < l.length) : l.take (i + 1) = l.take i ++ [l.getD i 0] := by
  rw [List.take_add_one, List.getD_eq_getElem?_getD, List.getElem?_eq_getElem h]
  rfl
theorem sumR_take (l : List Rat) {i : Nat} (h : i < l.length) : sumR (l.take (i + 1)) = sumR (l.take i) + l.getD i 0 := by rw [take_snoc l h, sumR_snoc]
theorem map_take_snoc (l : List Rat) (f : Rat → Rat) {i : Nat} (h : i < l.length) : (l.take (i + 1)).map f = (l.take i).map f ++ [f (l.getD i 0)] := by
  rw [take_snoc l h, List.map_append]; rfl
theorem getD_mem {l : List Rat} {i : Nat} (h : i < l.length) : l.getD i 0 ∈ l := by
  rw [List.getD_eq_getElem?_getD, List.getElem?_eq_getElem h]; exact List.getElem_mem h
theorem getD_map (l : List Rat) (f : Rat → Rat) {i : Nat} (h : i < l.length) : (l.map f).getD i 0 = f (l.getD i 0) := by
  rw [List.getD_eq_getElem?_getD, List.getD_eq_getElem?_getD, List.getElem?_map, List.getElem?_eq_getElem h]; rfl
theorem sz_sum {L : Nat} (hL : 1 ≤ L) : ∀ l : List Rat, (∀ x ∈ l, szR x L) → szR (sumR l) ((L + 1) * l.length + 1) := by
  intro l
  induction l with
  | nil => intro _; exact szR_zero (by omega)
  | cons x l ih =>
    intro h
    rw [sumR_cons]
    have h1 := ih fun y hy => h y (List.mem_cons_of_mem _ hy)
    exact szR_mono (szR_add (h x List.mem_cons_self) h1 hL) (by rw [List.length_cons, Nat.mul_succ]; omega)
theorem sz_sum12 {L : Nat} {l : List Rat} (hL : 1 ≤ L) (h : ∀ x ∈ l, szR x L) (hl : l.length ≤ 12) : szR (sumR l) (12 * L + 13) :=
  szR_mono (sz_sum hL l h) (by have := Nat.mul_le_mul_left (L + 1) hl; omega)
theorem sz_take12 {L : Nat} {l : List Rat} (hL : 1 ≤ L) (h : ∀ x ∈ l, szR x L) (hl : l.length ≤ 12) (i : Nat) : szR (sumR (l.take i)) (12 * L + 13) :=
  sz_sum12 hL (fun x hx => h x (List.mem_of_mem_take hx)) (by rw [List.length_take]; omega)
theorem sz_mean {L : Nat} {l : List Rat} (hL : 1 ≤ L) (h : ∀ x ∈ l, szR x L) (hl : l.length ≤ 12) : szR (meanR l) (12 * L + 15) :=
  szR_div (M := 2) (sz_sum12 hL h hl) (int_szR (by omega)) (by omega) (by omega)
theorem sz_off {L : Nat} {l : List Rat} (hL : 1 ≤ L) (h : ∀ x ∈ l, szR x L) (hl : l.length ≤ 12) : ∀ x ∈ offR l, szR x (13 * L + 16) := by
  intro x hx
  obtain ⟨y, hy, rfl⟩ := List.mem_map.1 hx
  exact szR_mono (szR_sub (h y hy) (sz_mean hL h hl) hL) (by omega)
theorem sz_map {L M : Nat} {l : List Rat} {f : Rat → Rat} (h : ∀ x ∈ l, szR x L) (hf : ∀ x, szR x L → szR (f x) M) : ∀ x ∈ l.map f, szR x M := by
  intro x hx
  obtain ⟨y, hy, rfl⟩ := List.mem_map.1 hx
  exact hf y (h y hy)
theorem sz_sq {L : Nat} {l : List Rat} (hL : 1 ≤ L) (h : ∀ x ∈ l, szR x L) (hl : l.length ≤ 12) : szR (sqR l) (312 * L + 397) := by
  have h1 := sz_map (f := fun x => x * x) (sz_off hL h hl) (fun x hx => szR_mul hx hx (by omega))
  exact szR_mono (sz_sum12 (by omega) h1 (by rw [List.length_map]; unfold offR; rw [List.length_map]; exact hl)) (by omega)
theorem sz_var {L : Nat} {l : List Rat} (hL : 1 ≤ L) (h : ∀ x ∈ l, szR x L) (hl : l.length ≤ 12) : szR (varR l) (312 * L + 399) :=
  szR_div (M := 2) (sz_sq hL h hl) (int_szR (by omega)) (by omega) (by omega)
/-- A row of Rats, cell by cell. -/
def RowC : List SV → List Rat → Nat → Prop
  | cs, [], _ => cs = []
  | cs, q :: l, L => ∃ s n d rest, cs = .bool s :: natV n :: natV d :: rest ∧ RatA (ratV s n d) q L ∧ RowC rest l L
theorem row_len {L : Nat} : ∀ {l : List Rat} {cs : List SV}, RowC cs l L → cs.length = l.length * 3
  | [], _, h => by cases h; rfl
  | q :: l, cs, h => by
    obtain ⟨s, n, d, rest, rfl, -, h2⟩ := h
    have := row_len h2
    simp only [List.length_cons]
    omega
theorem row_one {L : Nat} : ∀ {l : List Rat} {cs : List SV}, RowC cs l L → cs.all SV.one = true
  | [], _, h => by cases h; rfl
  | q :: l, cs, h => by
    obtain ⟨s, n, d, rest, rfl, -, h2⟩ := h
    have := row_one h2
    simp only [List.all_cons, this]
    rfl
theorem row_at {L : Nat} : ∀ {l : List Rat} {cs : List SV} {i : Nat}, RowC cs l L → i < l.length → ∃ s n d rest, cs.drop (i * 3) = .bool s :: natV n :: natV d :: rest ∧ RatA (ratV s n d) (l.getD i 0) L
  | [], _, _, _, hi => by simp at hi
  | q :: l, cs, 0, h, _ => by
    obtain ⟨s, n, d, rest, rfl, h1, h2⟩ := h
    exact ⟨s, n, d, rest, rfl, h1⟩
  | q :: l, cs, i + 1, h, hi => by
    obtain ⟨s, n, d, rest, rfl, h1, h2⟩ := h
    obtain ⟨s', n', d', r', h3, h4⟩ := row_at (i := i) h2 (by simpa using hi)
    refine ⟨s', n', d', r', ?_, h4⟩
    have e : ∀ k, (SV.bool s :: natV n :: natV d :: rest).drop (k + 3) = rest.drop k := fun _ => rfl
    rw [show (i + 1) * 3 = i * 3 + 3 by omega, e, h3]
theorem row_append {L : Nat} : ∀ {l : List Rat} {m : List Rat} {cs ds : List SV}, RowC cs l L → RowC ds m L → RowC (cs ++ ds) (l ++ m) L
  | [], _, _, _, h, h2 => by cases h; exact h2
  | q :: l, _, cs, ds, h, h2 => by
    obtain ⟨s, n, d, rest, rfl, h1, h3⟩ := h
    exact ⟨s, n, d, rest ++ ds, rfl, h1, row_append h3 h2⟩
theorem row_snoc {L : Nat} {l : List Rat} {cs : List SV} {s : Bool} {n d : List Nat} {q : Rat} (h : RowC cs l L) (h1 : RatA (ratV s n d) q L) : RowC (cs ++ [.bool s, natV n, natV d]) (l ++ [q]) L :=
  row_append h ⟨s, n, d, [], rfl, h1, rfl⟩
theorem row_mono {L M : Nat} : ∀ {l : List Rat} {cs : List SV}, RowC cs l L → L ≤ M → RowC cs l M
  | [], _, h, _ => h
  | q :: l, cs, h, hL => by
    obtain ⟨s, n, d, rest, rfl, h1, h2⟩ := h
    exact ⟨s, n, d, rest, rfl, RatA_mono h1 hL, row_mono h2 hL⟩
theorem row_sz {L : Nat} (hL : 1 ≤ L) : ∀ {l : List Rat} {cs : List SV}, RowC cs l L → ∀ x ∈ l, szR x L
  | [], _, _, x, hx => by cases hx
  | q :: l, cs, h, x, hx => by
    obtain ⟨s, n, d, rest, rfl, h1, h2⟩ := h
    rcases List.mem_cons.1 hx with rfl | hx
    · exact szR_of h1 hL
    · exact row_sz hL h2 x hx
/-- A normal number's cells. -/
def rvC (q : Rat) : List SV := [.bool (decide (q.num < 0)), natV (lim q.num.natAbs), natV (lim q.den)]
theorem row_rv {L : Nat} {l : List Rat} {cs : List SV} {q : Rat} (h : RowC cs l L) (hq : szR q L) : RowC (cs ++ rvC q) (l ++ [q]) L := row_snoc h (RatA_rv hq)
/-- A row of normal numbers, cell by cell. -/
def rvsC (l : List Rat) : List SV := l.flatMap rvC
theorem rvsC_nil : rvsC [] = [] := rfl
theorem rvsC_snoc (l : List Rat) (q : Rat) : rvsC (l ++ [q]) = rvsC l ++ rvC q := by
  unfold rvsC; rw [List.flatMap_append]; simp
theorem rvsC_len (l : List Rat) : (rvsC l).length = l.length * 3 := by
  induction l with
  | nil => rfl
  | cons x l ih => show (rvC x ++ rvsC l).length = _; rw [List.length_append, ih, List.length_cons]; show 3 + _ = _; omega
theorem rvsC_row {L : Nat} : ∀ l : List Rat, (∀ x ∈ l, szR x L) → RowC (rvsC l) l L
  | [], _ => rfl
  | q :: l, h => ⟨_, _, _, _, rfl, RatA_rv (h q List.mem_cons_self), rvsC_row l fun x hx => h x (List.mem_cons_of_mem _ hx)⟩
theorem rvsC_at {l : List Rat} {i : Nat} (h : i < l.length) : ∃ rest, (rvsC l).drop (i * 3) = .bool (decide ((l.getD i 0).num < 0)) :: natV (lim (l.getD i 0).num.natAbs) :: natV (lim (l.getD i 0).den) :: rest := by
  induction l generalizing i with
  | nil => simp at h
  | cons x l ih =>
    cases i with
    | zero => exact ⟨_, rfl⟩
    | succ i =>
      obtain ⟨r, this⟩ := ih (i := i) (by simpa using h)
      have e : ∀ k, (rvC x ++ rvsC l).drop (k + 3) = (rvsC l).drop k := fun _ => rfl
      refine ⟨r, ?_⟩
      show (rvC x ++ rvsC l).drop _ = _
      rw [show (i + 1) * 3 = i * 3 + 3 by omega, e, this]
      rfl
end Go.Proofs.YtigiblhmhmgagaaGreat

/- stat: by, Sum, Mean, off, products, Variance, Central of 2, in the evaluator. -/
namespace Go.Proofs.YtigiblhmhmgagaaGreat
set_option linter.unusedSimpArgs false
set_option linter.unusedVariables false
set_option maxRecDepth 8000
open Go.Ev
/-- A number and an error. -/
abbrev numE (q : Rat) (e : Int) : SV := .tup [rv q, .int .i64 e]
theorem rvs_snoc {l : List Rat} {i : Nat} (h : i < l.length) : rvsC (l.take i) ++ rvC (l.getD i 0) = rvsC (l.take (i + 1)) := by rw [take_snoc l h, rvsC_snoc]
end Go.Proofs.YtigiblhmhmgagaaGreat

/- A statistic's laws: plain mathematics, no program. -/
namespace Go.Proofs.YtigiblhmhmgagaaGreat
open Go.Ev
abbrev lenR (l : List Rat) : Rat := ((l.length : Int) : Rat)
theorem lenR_cons (x : Rat) (l : List Rat) : lenR (x :: l) = lenR l + 1 := by
  show (((l.length + 1 : Nat) : Int) : Rat) = _
  rw [Int.natCast_add, Rat.intCast_add]; rfl
theorem lenR_ne {l : List Rat} (h : l ≠ []) : lenR l ≠ 0 := by
  intro h2
  have : (l.length : Int) = 0 := Rat.intCast_inj.1 h2
  exact h (List.length_eq_zero_iff.1 (by omega))
theorem sumR_lin (a b : Rat) (l : List Rat) : sumR (l.map fun x => x * a + b) = sumR l * a + lenR l * b := by
  induction l with
  | nil => rw [List.map_nil, sumR_nil, show lenR [] = 0 from rfl]; grind
  | cons x l ih => rw [List.map_cons, sumR_cons, sumR_cons, lenR_cons, ih]; grind
theorem sumR_scale (c : Rat) (l : List Rat) : sumR (l.map fun x => c * x) = c * sumR l := by
  induction l with
  | nil => rw [List.map_nil, sumR_nil]; grind
  | cons x l ih => rw [List.map_cons, sumR_cons, sumR_cons, ih]; grind
theorem div_cancel' {x n : Rat} (h : n ≠ 0) : x / n * n = x := Rat.div_mul_cancel h
theorem div_uniq {x y n : Rat} (h : n ≠ 0) (e : y * n = x) : x / n = y := by
  rw [← e]; exact Rat.mul_div_cancel h
theorem meanR_lin (a b : Rat) {l : List Rat} (h : l ≠ []) : meanR (l.map fun x => x * a + b) = meanR l * a + b := by
  unfold meanR
  rw [sumR_lin, List.length_map]
  have hn := lenR_ne h
  refine div_uniq hn ?_
  have e := div_cancel' (x := sumR l) hn
  show (sumR l / lenR l * a + b) * lenR l = _
  generalize sumR l / lenR l = m at *
  rw [← e]; grind
theorem offR_lin (a b : Rat) {l : List Rat} (h : l ≠ []) : offR (l.map fun x => x * a + b) = (offR l).map fun x => x * a := by
  unfold offR
  rw [meanR_lin a b h, List.map_map, List.map_map]
  refine List.map_congr_left fun x _ => ?_
  show x * a + b - (meanR l * a + b) = (x - meanR l) * a
  grind
theorem sqR_lin (a b : Rat) {l : List Rat} (h : l ≠ []) : sqR (l.map fun x => x * a + b) = (a * a) * sqR l := by
  unfold sqR
  rw [offR_lin a b h, List.map_map, ← sumR_scale, List.map_map]
  congr 1
  refine List.map_congr_left fun x _ => ?_
  show x * a * (x * a) = a * a * (x * x)
  grind
theorem varR_lin (a b : Rat) {l : List Rat} (h : l ≠ []) : varR (l.map fun x => x * a + b) = (a * a) * varR l := by
  unfold varR
  rw [sqR_lin a b h, List.length_map, Rat.div_def, Rat.div_def, Rat.mul_assoc]
/-- A statistic, its degrees, the error. -/
abbrev Res := Rat × List Int × Int
/-- A row's test. -/
def stuR (l : List Rat) (mu : Rat) : Res :=
  if l.length < 2 then (0, [], 5) else if varR l = 0 then (0, [], 5) else (lenR l * ((meanR l - mu) * (meanR l - mu)) / varR l, [(l.length : Int) - 1], 0)
theorem stuR_moves {a b mu : Rat} {l : List Rat} (ha : a ≠ 0) : stuR (l.map fun x => x * a + b) (mu * a + b) = stuR l mu := by
  unfold stuR lenR
  rw [List.length_map]
  by_cases h : l.length < 2
  · rw [if_pos h, if_pos h]
  · have hl : l ≠ [] := by rintro rfl; simp at h
    rw [if_neg h, if_neg h, varR_lin a b hl, meanR_lin a b hl]
    have haa : a * a ≠ 0 := fun e => by rcases Rat.mul_eq_zero.1 e with h | h <;> exact ha h
    by_cases hv : varR l = 0
    · rw [if_pos hv, if_pos (by rw [hv]; grind)]
    · have hv2 : a * a * varR l ≠ 0 := fun e => (Rat.mul_eq_zero.1 e).elim haa hv
      rw [if_neg hv, if_neg hv2]
      refine Prod.ext ?_ rfl
      refine div_uniq hv2 ?_
      show lenR l * ((meanR l - mu) * (meanR l - mu)) / varR l * (a * a * varR l) = _
      have e := div_cancel' (x := lenR l * ((meanR l - mu) * (meanR l - mu))) hv
      show _ = lenR l * _
      generalize lenR l * ((meanR l - mu) * (meanR l - mu)) / varR l = q at *
      grind
/-- Two rows pooled. -/
def poolR (a b : List Rat) : Res :=
  if a.length = 0 ∨ b.length = 0 ∨ a.length + b.length < 3 then (0, [], 5) else
  if (sqR a + sqR b) / (((a.length : Int) + (b.length : Int) - 2 : Int) : Rat) = 0 then (0, [], 5) else
  ((meanR a - meanR b) * (meanR a - meanR b) / ((sqR a + sqR b) / (((a.length : Int) + (b.length : Int) - 2 : Int) : Rat) * ((((a.length : Int) + (b.length : Int) : Int) : Rat) / (((a.length : Int) * (b.length : Int) : Int) : Rat))), [(a.length : Int) + (b.length : Int) - 2], 0)
theorem poolR_turn (a b : List Rat) : poolR a b = poolR b a := by
  unfold poolR
  rw [show (a.length : Int) + (b.length : Int) = (b.length : Int) + (a.length : Int) by omega, show (a.length : Int) * (b.length : Int) = (b.length : Int) * (a.length : Int) from Int.mul_comm _ _,
    show sqR a + sqR b = sqR b + sqR a by grind, show (meanR a - meanR b) * (meanR a - meanR b) = (meanR b - meanR a) * (meanR b - meanR a) by grind]
  by_cases h : a.length = 0 ∨ b.length = 0 ∨ a.length + b.length < 3
  · rw [if_pos h, if_pos (by omega)]
  · rw [if_neg h, if_neg (show ¬ (b.length = 0 ∨ a.length = 0 ∨ b.length + a.length < 3) by omega)]
/-- Two variances. -/
def fisR (a b : List Rat) : Res :=
  if a.length < 2 ∨ b.length < 2 then (0, [], 5) else if varR a = 0 ∨ varR b = 0 then (0, [], 5) else (varR a / varR b, [(a.length : Int) - 1, (b.length : Int) - 1], 0)
theorem fisR_turn (a b : List Rat) : ((fisR a b).2.2 = 5 ∧ (fisR b a).2.2 = 5) ∨ ((fisR a b).2 = ([(a.length : Int) - 1, (b.length : Int) - 1], 0) ∧ (fisR b a).2 = ([(b.length : Int) - 1, (a.length : Int) - 1], 0) ∧ (fisR a b).1 * (fisR b a).1 = 1) := by
  unfold fisR
  by_cases h : a.length < 2 ∨ b.length < 2
  · rw [if_pos h, if_pos (show b.length < 2 ∨ a.length < 2 by omega)]; exact .inl ⟨rfl, rfl⟩
  · rw [if_neg h, if_neg (show ¬ (b.length < 2 ∨ a.length < 2) by omega)]
    by_cases hv : varR a = 0 ∨ varR b = 0
    · rw [if_pos hv, if_pos (Or.symm hv)]; exact .inl ⟨rfl, rfl⟩
    · rw [if_neg hv, if_neg (fun h => hv (Or.symm h))]
      refine .inr ⟨rfl, rfl, ?_⟩
      show varR a / varR b * (varR b / varR a) = 1
      have ha : varR a ≠ 0 := fun h => hv (.inl h)
      have hb : varR b ≠ 0 := fun h => hv (.inr h)
      have e1 := div_cancel' (x := varR a) hb
      have e2 := div_cancel' (x := varR b) ha
      generalize varR a / varR b = p at *
      generalize varR b / varR a = q at *
      generalize varR a = x at *
      generalize varR b = y at *
      have : (p * q - 1) * x = 0 := by grind
      rcases Rat.mul_eq_zero.1 this with h | h
      · grind
      · exact absurd h ha
end Go.Proofs.YtigiblhmhmgagaaGreat

/- test: over, square, isBelow, student, paired, spread, pooled, fisher, in the evaluator. -/
namespace Go.Proofs.YtigiblhmhmgagaaGreat
set_option linter.unusedSimpArgs false
set_option linter.unusedVariables false
set_option maxRecDepth 8000
open Go.Ev
theorem rat_Zero {v : SV} {q : Rat} {L : Nat} (hv : RatA v q L) (hL : 1 ≤ L) (hL2 : L ≤ 16777216) : Go.Ev.Fn CX 24 [v] (.bool (decide (q = 0))) := by
  have hN := rat_Norm hv (by omega)
  obtain ⟨s, n, d, rfl, -⟩ := hv
  by_cases h : q = 0
  · subst h
    rw [decide_eq_true rfl]
    rw [rv_zero] at hN
    refine Go.Ev.Fn.intro (fn := Tryz.f24) (body := (Tryz.f24).body.get!) (by kernel_rfl) (by kernel_rfl) (by kernel_rfl) (fun _ => rfl) (Nat.le_of_ble_eq_true (by kernel_rfl)) ?_; unfold Tryz.f24; simp only [Option.get!_some]
    repeat (first | (simp only [go_sem, Nat.reduceEqDiff, Nat.reduceAdd, Nat.reduceSub, Nat.reduceMul, Nat.reduceLeDiff, Nat.reduceLT, reduceIte, reduceCtorEq, Nat.succ_ne_zero, elemsC, Int.reduceToNat, Nat.reducePow]) | (simp (disch := (first | omega | (simp only [AL, List.length_map]; omega))) only [AR, AL, ifT, ifF, take_all, List.length_cons, List.length_nil, Int.reduceToNat, Int.reducePow, Nat.reducePow]) | (refine wk_intro (by kernel_rfl) ?_) | (refine vf_of (by first | exact hN) ?_))
  · have hp := lim_pos (N := q.num.natAbs) (fun e => h (num_zero.1 (by omega)))
    rw [decide_eq_false h]
    refine Go.Ev.Fn.intro (fn := Tryz.f24) (body := (Tryz.f24).body.get!) (by kernel_rfl) (by kernel_rfl) (by kernel_rfl) (fun _ => rfl) (Nat.le_of_ble_eq_true (by kernel_rfl)) ?_; unfold Tryz.f24; simp only [Option.get!_some]
    repeat (first | (simp only [go_sem, Nat.reduceEqDiff, Nat.reduceAdd, Nat.reduceSub, Nat.reduceMul, Nat.reduceLeDiff, Nat.reduceLT, reduceIte, reduceCtorEq, Nat.succ_ne_zero, elemsC, Int.reduceToNat, Nat.reducePow]) | (simp (disch := (first | omega | (simp only [AL, List.length_map]; omega))) only [AR, AL, ifT, ifF, take_all, List.length_cons, List.length_nil, Int.reduceToNat, Int.reducePow, Nat.reducePow]) | (refine wk_intro (by kernel_rfl) ?_) | (refine vf_of (by first | exact hN) ?_))
theorem ref2_Zero {v : SV} {q : Rat} {L : Nat} (hv : RatA v q L) (hL : 1 ≤ L) (hL2 : L ≤ 16777216) : Go.Ev.Fn CX 31 [v] (.bool (decide (q = 0))) := by
  have hN := ref2_Norm hv (by omega)
  obtain ⟨s, n, d, rfl, -⟩ := hv
  by_cases h : q = 0
  · subst h
    rw [decide_eq_true rfl]
    rw [rv_zero] at hN
    refine Go.Ev.Fn.intro (fn := Tryz.f31) (body := (Tryz.f31).body.get!) (by kernel_rfl) (by kernel_rfl) (by kernel_rfl) (fun _ => rfl) (Nat.le_of_ble_eq_true (by kernel_rfl)) ?_; unfold Tryz.f31; simp only [Option.get!_some]
    repeat (first | (simp only [go_sem, Nat.reduceEqDiff, Nat.reduceAdd, Nat.reduceSub, Nat.reduceMul, Nat.reduceLeDiff, Nat.reduceLT, reduceIte, reduceCtorEq, Nat.succ_ne_zero, elemsC, Int.reduceToNat, Nat.reducePow]) | (simp (disch := (first | omega | (simp only [AL, List.length_map]; omega))) only [AR, AL, ifT, ifF, take_all, List.length_cons, List.length_nil, Int.reduceToNat, Int.reducePow, Nat.reducePow]) | (refine wk_intro (by kernel_rfl) ?_) | (refine vf_of (by first | exact hN) ?_))
  · have hp := lim_pos (N := q.num.natAbs) (fun e => h (num_zero.1 (by omega)))
    rw [decide_eq_false h]
    refine Go.Ev.Fn.intro (fn := Tryz.f31) (body := (Tryz.f31).body.get!) (by kernel_rfl) (by kernel_rfl) (by kernel_rfl) (fun _ => rfl) (Nat.le_of_ble_eq_true (by kernel_rfl)) ?_; unfold Tryz.f31; simp only [Option.get!_some]
    repeat (first | (simp only [go_sem, Nat.reduceEqDiff, Nat.reduceAdd, Nat.reduceSub, Nat.reduceMul, Nat.reduceLeDiff, Nat.reduceLT, reduceIte, reduceCtorEq, Nat.succ_ne_zero, elemsC, Int.reduceToNat, Nat.reducePow]) | (simp (disch := (first | omega | (simp only [AL, List.length_map]; omega))) only [AR, AL, ifT, ifF, take_all, List.length_cons, List.length_nil, Int.reduceToNat, Int.reducePow, Nat.reducePow]) | (refine wk_intro (by kernel_rfl) ?_) | (refine vf_of (by first | exact hN) ?_))
/-- A statistic's result. -/
abbrev resV (r : Res) : SV := .tup [rv r.1, .sl r.2.1.length (r.2.1.map fun i => .int .i64 i), .int .i64 r.2.2]
end Go.Proofs.YtigiblhmhmgagaaGreat

/- ball.Of, Sub; incg.P, Q at 0; vernierref4.Has, in the evaluator. -/
namespace Go.Proofs.YtigiblhmhmgagaaGreat
set_option linter.unusedSimpArgs false
set_option linter.unusedVariables false
set_option maxRecDepth 8000
open Go.Ev
/-- A ball's ends. -/
abbrev ballR (a b : Rat) : SV := .agg [.bool (decide (a.num < 0)), natV (lim a.num.natAbs), natV (lim a.den), .bool (decide (b.num < 0)), natV (lim b.num.natAbs), natV (lim b.den)]
theorem ball_Of {v : SV} {q : Rat} {L : Nat} (hv : RatA v q L) (hL : L ≤ 1000000) : Go.Ev.Fn CX 23 [v] (ballR q q) := by
  have n1 := rat_Norm hv (by omega)
  obtain ⟨s, n, d, rfl, -⟩ := hv
  refine Go.Ev.Fn.intro (fn := Tryz.f23) (body := (Tryz.f23).body.get!) (by kernel_rfl) (by kernel_rfl) (by kernel_rfl) (fun _ => rfl) (Nat.le_of_ble_eq_true (by kernel_rfl)) ?_; unfold Tryz.f23; simp only [Option.get!_some]
  repeat (first | (simp only [go_sem, Nat.reduceEqDiff, Nat.reduceAdd, Nat.reduceSub, Nat.reduceMul, Nat.reduceLeDiff, Nat.reduceLT, reduceIte, reduceCtorEq, Nat.succ_ne_zero, elemsC, Int.reduceToNat, Nat.reducePow]) | (simp (disch := (first | omega | (simp only [AL, List.length_map]; omega))) only [AR, AL, ifT, ifF, take_all, List.length_cons, List.length_nil, Int.reduceToNat, Int.reducePow, Nat.reducePow]) | (refine wk_intro (by kernel_rfl) ?_) | (refine vp_draw (id := 1) (l := []) (by kernel_rfl) ?_) | (refine vf_of (by first | exact n1) ?_))
theorem ball_Sub {a b c d : Rat} {L : Nat} (ha : szR a L) (hb : szR b L) (hc : szR c L) (hd : szR d L) (hL : 1 ≤ L) (hL2 : L ≤ 1000000) : Go.Ev.Fn CX 29 [ballR a b, ballR c d] (ballR (a - d) (b - c)) := by
  have s1 := rat_Sub (RatA_rv ha) (RatA_rv hd) hL hL (by omega)
  have s2 := rat_Sub (RatA_rv hb) (RatA_rv hc) hL hL (by omega)
  refine Go.Ev.Fn.intro (fn := Tryz.f29) (body := (Tryz.f29).body.get!) (by kernel_rfl) (by kernel_rfl) (by kernel_rfl) (fun _ => rfl) (Nat.le_of_ble_eq_true (by kernel_rfl)) ?_; unfold Tryz.f29; simp only [Option.get!_some]
  repeat (first | (simp only [go_sem, Nat.reduceEqDiff, Nat.reduceAdd, Nat.reduceSub, Nat.reduceMul, Nat.reduceLeDiff, Nat.reduceLT, reduceIte, reduceCtorEq, Nat.succ_ne_zero, elemsC, Int.reduceToNat, Nat.reducePow]) | (simp (disch := (first | omega | (simp only [AL, List.length_map]; omega))) only [AR, AL, ifT, ifF, take_all, List.length_cons, List.length_nil, Int.reduceToNat, Int.reducePow, Nat.reducePow]) | (refine wk_intro (by kernel_rfl) ?_) | (refine vp_draw (id := 1) (l := []) (by kernel_rfl) ?_) | (refine vf_of (by first | exact s1 | exact s2) ?_))
theorem ref4_Has {a b q : Rat} {v : SV} {L M : Nat} (ha : szR a L) (hb : szR b L) (hv : RatA v q M) (hL : 1 ≤ L) (hM : 1 ≤ M) (h : L + M ≤ 1000000) (h1 : a ≤ q) (h2 : q ≤ b) : Go.Ev.Fn CX 15 [ballR a b, v] (.bool true) := by
  have c1 := ref2_Cmp (RatA_rv ha) hv hL hM (by omega)
  have c2 := ref2_Cmp hv (RatA_rv hb) hM hL (by omega)
  have e1 : decide (cmpR a q ≤ 0) = true := by rw [cmpR_le]; exact decide_eq_true h1
  have e2 : decide (cmpR q b ≤ 0) = true := by rw [cmpR_le]; exact decide_eq_true h2
  obtain ⟨s, n, d, rfl, -⟩ := hv
  refine Go.Ev.Fn.intro (fn := Tryz.f15) (body := (Tryz.f15).body.get!) (by kernel_rfl) (by kernel_rfl) (by kernel_rfl) (fun _ => rfl) (Nat.le_of_ble_eq_true (by kernel_rfl)) ?_; unfold Tryz.f15; simp only [Option.get!_some]
  repeat (first | (simp only [go_sem, Nat.reduceEqDiff, Nat.reduceAdd, Nat.reduceSub, Nat.reduceMul, Nat.reduceLeDiff, Nat.reduceLT, reduceIte, reduceCtorEq, Nat.succ_ne_zero, elemsC, Int.reduceToNat, Nat.reducePow, e1, e2]) | (simp (disch := (first | omega | (simp only [AL, List.length_map]; omega))) only [AR, AL, ifT, ifF, take_all, List.length_cons, List.length_nil, Int.reduceToNat, Int.reducePow, Nat.reducePow, e1, e2]) | (refine wk_intro (by kernel_rfl) ?_) | (refine vf_of (by first | exact c1 | exact c2) ?_))
end Go.Proofs.YtigiblhmhmgagaaGreat

/- fix: One Next Shift Of Add Sub Mul Times Small Wider Floor; nat.Bits, in the evaluator. -/
namespace Go.Proofs.YtigiblhmhmgagaaGreat
set_option linter.unusedSimpArgs false
set_option linter.unusedVariables false
set_option maxRecDepth 8000
open Go.Ev
/-- Two naturals: a number that lies between them. -/
abbrev spanV (a b : Nat) : SV := .agg [natV (lim a), natV (lim b)]
/-- A natural times 2 to a power, or by it, rounded down. -/
def shfN (a : Nat) (n : Int) : Nat := if 0 ≤ n then a * 2 ^ n.toNat else a / 2 ^ (-n).toNat
theorem lim_len_shl {a n : Nat} : (lim (a * 2 ^ n)).length ≤ (lim a).length + n / 32 + 1 := by
  refine lim_len_lt ?_
  have h1 := lim_len_pow (a := a)
  have h2 : 2 ^ n ≤ 4294967296 ^ (n / 32 + 1) := by
    rw [show (4294967296 : Nat) = 2 ^ 32 from rfl, ← Nat.pow_mul]
    exact Nat.pow_le_pow_right (by omega) (by omega)
  calc a * 2 ^ n < 4294967296 ^ (lim a).length * 2 ^ n := Nat.mul_lt_mul_of_pos_right h1 (Nat.pow_pos (by omega))
    _ ≤ 4294967296 ^ (lim a).length * 4294967296 ^ (n / 32 + 1) := Nat.mul_le_mul_left _ h2
    _ = 4294967296 ^ ((lim a).length + n / 32 + 1) := by rw [← Nat.pow_add, Nat.add_assoc]
theorem fix_Over' {N D : Nat} (hD : D ≠ 0) (hl : (lim N).length ≤ 536870912) (hm : (lim D).length ≤ 536870912) : Go.Ev.Fn CX 101 [natV (lim N), natV (lim D)] (natV (lim (N / D))) := by
  have h := nat_DivL hD hl hm
  refine Go.Ev.Fn.intro (fn := Tryz.f101) (body := (Tryz.f101).body.get!) (by kernel_rfl) (by kernel_rfl) (by kernel_rfl) (fun _ => rfl) (Nat.le_of_ble_eq_true (by kernel_rfl)) ?_; unfold Tryz.f101; simp only [Option.get!_some]
  repeat (first | (simp only [go_sem, Nat.reduceEqDiff, Nat.reduceAdd, Nat.reduceSub, Nat.reduceMul, Nat.reduceLeDiff, Nat.reduceLT, reduceIte, reduceCtorEq, Nat.succ_ne_zero, elemsC, Int.reduceToNat, Nat.reducePow]) | (simp (disch := (first | omega | (simp only [AL, List.length_map]; omega))) only [AR, AL, ifT, ifF, take_all, List.length_cons, List.length_nil, Int.reduceToNat, Int.reducePow, Nat.reducePow]) | (refine wk_intro (by kernel_rfl) ?_) | (refine vf_of (by first | exact h) ?_))
theorem fix_One : Go.Ev.Fn CX 53 [] (natV (lim 1)) := by
  have o := nat_Of 1 (by omega)
  refine Go.Ev.Fn.intro (fn := Tryz.f53) (body := (Tryz.f53).body.get!) (by kernel_rfl) (by kernel_rfl) (by kernel_rfl) (fun _ => rfl) (Nat.le_of_ble_eq_true (by kernel_rfl)) ?_; unfold Tryz.f53; simp only [Option.get!_some]
  repeat (first | (simp only [go_sem, Nat.reduceEqDiff, Nat.reduceAdd, Nat.reduceSub, Nat.reduceMul, Nat.reduceLeDiff, Nat.reduceLT, reduceIte, reduceCtorEq, Nat.succ_ne_zero, elemsC, Int.reduceToNat, Nat.reducePow]) | (simp (disch := (first | omega | (simp only [AL, List.length_map]; omega))) only [AR, AL, ifT, ifF, take_all, List.length_cons, List.length_nil, Int.reduceToNat, Int.reducePow, Nat.reducePow]) | (refine wk_intro (by kernel_rfl) ?_) | (refine vf_of (by first | exact o) ?_))
theorem fix_Next {a : Nat} (h : (lim a).length ≤ 1000000) : Go.Ev.Fn CX 54 [natV (lim a)] (natV (lim (a + 1))) := by
  have o := fix_One
  have l := lim_len1
  have s := nat_AddL (N := a) (D := 1) (by omega) (by omega)
  refine Go.Ev.Fn.intro (fn := Tryz.f54) (body := (Tryz.f54).body.get!) (by kernel_rfl) (by kernel_rfl) (by kernel_rfl) (fun _ => rfl) (Nat.le_of_ble_eq_true (by kernel_rfl)) ?_; unfold Tryz.f54; simp only [Option.get!_some]
  repeat (first | (simp only [go_sem, Nat.reduceEqDiff, Nat.reduceAdd, Nat.reduceSub, Nat.reduceMul, Nat.reduceLeDiff, Nat.reduceLT, reduceIte, reduceCtorEq, Nat.succ_ne_zero, elemsC, Int.reduceToNat, Nat.reducePow]) | (simp (disch := (first | omega | (simp only [AL, List.length_map]; omega))) only [AR, AL, ifT, ifF, take_all, List.length_cons, List.length_nil, Int.reduceToNat, Int.reducePow, Nat.reducePow]) | (refine wk_intro (by kernel_rfl) ?_) | (refine vf_of (by first | exact o | exact s) ?_))
theorem fix_Add {a b c d : Nat} (h1 : (lim a).length ≤ 1000000) (h2 : (lim b).length ≤ 1000000) (h3 : (lim c).length ≤ 1000000) (h4 : (lim d).length ≤ 1000000) : Go.Ev.Fn CX 60 [spanV a b, spanV c d] (spanV (a + c) (b + d)) := by
  have s1 := nat_AddL (N := a) (D := c) (by omega) (by omega)
  have s2 := nat_AddL (N := b) (D := d) (by omega) (by omega)
  refine Go.Ev.Fn.intro (fn := Tryz.f60) (body := (Tryz.f60).body.get!) (by kernel_rfl) (by kernel_rfl) (by kernel_rfl) (fun _ => rfl) (Nat.le_of_ble_eq_true (by kernel_rfl)) ?_; unfold Tryz.f60; simp only [Option.get!_some]
  repeat (first | (simp only [go_sem, Nat.reduceEqDiff, Nat.reduceAdd, Nat.reduceSub, Nat.reduceMul, Nat.reduceLeDiff, Nat.reduceLT, reduceIte, reduceCtorEq, Nat.succ_ne_zero, elemsC, Int.reduceToNat, Nat.reducePow]) | (simp (disch := (first | omega | (simp only [AL, List.length_map]; omega))) only [AR, AL, ifT, ifF, take_all, List.length_cons, List.length_nil, Int.reduceToNat, Int.reducePow, Nat.reducePow]) | (refine wk_intro (by kernel_rfl) ?_) | (refine vp_draw (id := 1) (l := [6, 8, 11, 13]) (by kernel_rfl) ?_) | (refine vf_of (by first | exact s1 | exact s2) ?_))
theorem fix_Wider {a b n : Nat} (h1 : (lim a).length ≤ 1000000) (h2 : (lim b).length ≤ 1000000) (hn : n < 18446744073709551616) : Go.Ev.Fn CX 61 [spanV a b, .int .u64 (n : Int)] (spanV a (b + n)) := by
  have o := nat_Of n hn
  have l : (lim n).length ≤ 1000000 := Nat.le_trans (lim_len_lt (L := 2) (by omega)) (by omega)
  have s := nat_AddL (N := b) (D := n) (by omega) (by omega)
  refine Go.Ev.Fn.intro (fn := Tryz.f61) (body := (Tryz.f61).body.get!) (by kernel_rfl) (by kernel_rfl) (by kernel_rfl) (fun _ => rfl) (Nat.le_of_ble_eq_true (by kernel_rfl)) ?_; unfold Tryz.f61; simp only [Option.get!_some]
  repeat (first | (simp only [go_sem, Nat.reduceEqDiff, Nat.reduceAdd, Nat.reduceSub, Nat.reduceMul, Nat.reduceLeDiff, Nat.reduceLT, reduceIte, reduceCtorEq, Nat.succ_ne_zero, elemsC, Int.reduceToNat, Nat.reducePow]) | (simp (disch := (first | omega | (simp only [AL, List.length_map]; omega))) only [AR, AL, ifT, ifF, take_all, List.length_cons, List.length_nil, Int.reduceToNat, Int.reducePow, Nat.reducePow]) | (refine wk_intro (by kernel_rfl) ?_) | (refine vp_draw (id := 1) (l := [8, 10]) (by kernel_rfl) ?_) | (refine vf_of (by first | exact o | exact s) ?_))
theorem fix_Times {a b n d : Nat} (h1 : (lim a).length ≤ 100000) (h2 : (lim b).length ≤ 100000) (h3 : (lim n).length ≤ 100000) (h4 : (lim d).length ≤ 100000) (hd : d ≠ 0) : Go.Ev.Fn CX 58 [spanV a b, natV (lim n), natV (lim d)] (spanV (a * n / d) (b * n / d + 1)) := by
  have m1 := nat_MulL (N := a) (D := n) (by omega) (by omega)
  have m2 := nat_MulL (N := b) (D := n) (by omega) (by omega)
  have l1 := lim_len_mul (a := a) (b := n)
  have l2 := lim_len_mul (a := b) (b := n)
  have o1 := fix_Over' (N := a * n) (D := d) hd (by omega) (by omega)
  have o2 := fix_Over' (N := b * n) (D := d) hd (by omega) (by omega)
  have l3 := lim_len_mono (Nat.div_le_self (b * n) d)
  have n1 := fix_Next (a := b * n / d) (by omega)
  generalize a * n / d = x at *
  generalize b * n / d = y at *
  generalize a * n = u at *
  generalize b * n = v at *
  refine Go.Ev.Fn.intro (fn := Tryz.f58) (body := (Tryz.f58).body.get!) (by kernel_rfl) (by kernel_rfl) (by kernel_rfl) (fun _ => rfl) (Nat.le_of_ble_eq_true (by kernel_rfl)) ?_; unfold Tryz.f58; simp only [Option.get!_some]
  repeat (first | (simp only [go_sem, Nat.reduceEqDiff, Nat.reduceAdd, Nat.reduceSub, Nat.reduceMul, Nat.reduceLeDiff, Nat.reduceLT, reduceIte, reduceCtorEq, Nat.succ_ne_zero, elemsC, Int.reduceToNat, Nat.reducePow]) | (simp (disch := (first | omega | (simp only [AL, List.length_map]; omega))) only [AR, AL, ifT, ifF, take_all, List.length_cons, List.length_nil, Int.reduceToNat, Int.reducePow, Nat.reducePow]) | (refine wk_intro (by kernel_rfl) ?_) | (refine vp_draw (id := 1) (l := [8, 1, 10, 2, 14, 1, 16, 2, 18]) (by kernel_rfl) ?_) | (refine vf_of (by first | exact m1 | exact o1 | exact m2 | exact o2 | exact n1) ?_))
theorem fix_Less' {N D : Nat} (hl : (lim N).length ≤ 536870912) (hm : (lim D).length ≤ 536870912) : Go.Ev.Fn CX 153 [natV (lim N), natV (lim D)] (natV (lim (N - D))) := by
  have h := nat_SubL hl hm
  refine Go.Ev.Fn.intro (fn := Tryz.f153) (body := (Tryz.f153).body.get!) (by kernel_rfl) (by kernel_rfl) (by kernel_rfl) (fun _ => rfl) (Nat.le_of_ble_eq_true (by kernel_rfl)) ?_; unfold Tryz.f153; simp only [Option.get!_some]
  repeat (first | (simp only [go_sem, Nat.reduceEqDiff, Nat.reduceAdd, Nat.reduceSub, Nat.reduceMul, Nat.reduceLeDiff, Nat.reduceLT, reduceIte, reduceCtorEq, Nat.succ_ne_zero, elemsC, Int.reduceToNat, Nat.reducePow]) | (simp (disch := (first | omega | (simp only [AL, List.length_map]; omega))) only [AR, AL, ifT, ifF, take_all, List.length_cons, List.length_nil, Int.reduceToNat, Int.reducePow, Nat.reducePow]) | (refine wk_intro (by kernel_rfl) ?_) | (refine vf_of (by first | exact h) ?_))
theorem fix_Sub {a b c d : Nat} (h1 : (lim a).length ≤ 100000) (h2 : (lim b).length ≤ 100000) (h3 : (lim c).length ≤ 100000) (h4 : (lim d).length ≤ 100000) : Go.Ev.Fn CX 149 [spanV a b, spanV c d] (spanV (a - d) (b - c + 1)) := by
  have m1 := fix_Less' (N := a) (D := d) (by omega) (by omega)
  have m2 := fix_Less' (N := b) (D := c) (by omega) (by omega)
  have l := lim_len_mono (Nat.sub_le b c)
  have n1 := fix_Next (a := b - c) (by omega)
  generalize a - d = x at *
  generalize b - c = y at *
  refine Go.Ev.Fn.intro (fn := Tryz.f149) (body := (Tryz.f149).body.get!) (by kernel_rfl) (by kernel_rfl) (by kernel_rfl) (fun _ => rfl) (Nat.le_of_ble_eq_true (by kernel_rfl)) ?_; unfold Tryz.f149; simp only [Option.get!_some]
  repeat (first | (simp only [go_sem, Nat.reduceEqDiff, Nat.reduceAdd, Nat.reduceSub, Nat.reduceMul, Nat.reduceLeDiff, Nat.reduceLT, reduceIte, reduceCtorEq, Nat.succ_ne_zero, elemsC, Int.reduceToNat, Nat.reducePow]) | (simp (disch := (first | omega | (simp only [AL, List.length_map]; omega))) only [AR, AL, ifT, ifF, take_all, List.length_cons, List.length_nil, Int.reduceToNat, Int.reducePow, Nat.reducePow]) | (refine wk_intro (by kernel_rfl) ?_) | (refine vp_draw (id := 1) (l := [6, 8, 11, 13, 14]) (by kernel_rfl) ?_) | (refine vf_of (by first | exact m1 | exact m2 | exact n1) ?_))
end Go.Proofs.YtigiblhmhmgagaaGreat
