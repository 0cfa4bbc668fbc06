/- Part 7 of the proof: the evaluator, contracts of functions and their plain laws (joined by program). No condition. -/
import Derived.Test.YtdnmhnjblgkjaaaPart6
/- rat.Mul, Add, Neg, Sub, Div, Cmp, in the evaluator. -/
namespace Go.Proofs.Ytdnmhnjblgkjaaa
set_option linter.unusedSimpArgs false
set_option linter.unusedVariables false
set_option maxRecDepth 8000
open Go.Ev
theorem rat_OfL {s : Bool} {n d : Nat} (hl : (lim n).length ≤ 536870912) (hm : (lim d).length ≤ 536870912) :
    Go.Ev.Fn CX 72 [.bool s, natV (lim n), natV (lim d)] (rv (mkRat (sgn s n) d)) := by
  have h := rat_Of s (lim n) (lim d) (okL_lim _) (okL_lim _) hl hm
  rwa [wth_lim, wth_lim] at h
theorem mul_parts (q r : Rat) : mkRat (sgn (!(decide (q.num < 0) == decide (r.num < 0))) (q.num.natAbs * r.num.natAbs)) (q.den * r.den) = q * r := by
  have h := sgn_mul q.num r.num
  rw [show (!(decide (q.num < 0) == decide (r.num < 0))) = (decide (q.num < 0) != decide (r.num < 0)) from rfl, h, ← Rat.mkRat_mul_mkRat, Rat.mkRat_self, Rat.mkRat_self]
theorem rat_Mul {v w : SV} {q r : Rat} {L M : Nat} (hv : RatA v q L) (hw : RatA w r M) (hL : 1 ≤ L) (hM : 1 ≤ M) (h : L + M ≤ 268435456) : Go.Ev.Fn CX 84 [v, w] (rv (q * r)) := by
  have hnv := rat_Norm hv (by omega)
  have hnw := rat_Norm hw (by omega)
  obtain ⟨z1, z2⟩ := szR_of hv hL
  obtain ⟨y1, y2⟩ := szR_of hw hM
  have g1 := lim_len_mul (a := q.num.natAbs) (b := r.num.natAbs)
  have g2 := lim_len_mul (a := q.den) (b := r.den)
  have hOf := rat_OfL (s := !(decide (q.num < 0) == decide (r.num < 0))) (n := q.num.natAbs * r.num.natAbs) (d := q.den * r.den) (by omega) (by omega)
  rw [mul_parts] at hOf
  obtain ⟨s, n, d, rfl, -⟩ := hv
  obtain ⟨s', n', d', rfl, -⟩ := hw
  refine Go.Ev.Fn.intro (fn := Try.f84) (body := (Try.f84).body.get!) (by kernel_rfl) (by kernel_rfl) (by kernel_rfl) (fun _ => rfl) (Nat.le_of_ble_eq_true (by kernel_rfl)) ?_; unfold Try.f84; simp only [Option.get!_some]
  (try (simp only [go_sem, Nat.reduceEqDiff, Nat.reduceAdd, Nat.reduceSub, Nat.reduceMul, Nat.reduceLeDiff, Nat.reduceLT, reduceIte, reduceCtorEq, Nat.succ_ne_zero, elemsC, Int.reduceToNat, Nat.reducePow])); repeat ((first | (simp (disch := (first | omega | (simp only [AL, List.length_map]; omega))) only [AR, AL, ifT, ifF, take_all, List.length_cons, List.length_nil, Int.reduceToNat, Int.reducePow, Nat.reducePow]) | (refine wk_intro (by kernel_rfl) ?_) | (refine vp_draw (id := 1) (l := []) (by kernel_rfl) ?_) | (refine vp_draw (id := 2) (l := [15, 17, 20, 22, 18, 23]) (by kernel_rfl) ?_)); try (simp only [go_sem, Nat.reduceEqDiff, Nat.reduceAdd, Nat.reduceSub, Nat.reduceMul, Nat.reduceLeDiff, Nat.reduceLT, reduceIte, reduceCtorEq, Nat.succ_ne_zero, elemsC, Int.reduceToNat, Nat.reducePow]))
  refine vf_of (hnv) ?_; (try (simp only [go_sem, Nat.reduceEqDiff, Nat.reduceAdd, Nat.reduceSub, Nat.reduceMul, Nat.reduceLeDiff, Nat.reduceLT, reduceIte, reduceCtorEq, Nat.succ_ne_zero, elemsC, Int.reduceToNat, Nat.reducePow])); repeat ((first | (simp (disch := (first | omega | (simp only [AL, List.length_map]; omega))) only [AR, AL, ifT, ifF, take_all, List.length_cons, List.length_nil, Int.reduceToNat, Int.reducePow, Nat.reducePow]) | (refine wk_intro (by kernel_rfl) ?_) | (refine vp_draw (id := 1) (l := []) (by kernel_rfl) ?_) | (refine vp_draw (id := 2) (l := [15, 17, 20, 22, 18, 23]) (by kernel_rfl) ?_)); try (simp only [go_sem, Nat.reduceEqDiff, Nat.reduceAdd, Nat.reduceSub, Nat.reduceMul, Nat.reduceLeDiff, Nat.reduceLT, reduceIte, reduceCtorEq, Nat.succ_ne_zero, elemsC, Int.reduceToNat, Nat.reducePow]))
  refine vf_of (hnw) ?_; (try (simp only [go_sem, Nat.reduceEqDiff, Nat.reduceAdd, Nat.reduceSub, Nat.reduceMul, Nat.reduceLeDiff, Nat.reduceLT, reduceIte, reduceCtorEq, Nat.succ_ne_zero, elemsC, Int.reduceToNat, Nat.reducePow])); repeat ((first | (simp (disch := (first | omega | (simp only [AL, List.length_map]; omega))) only [AR, AL, ifT, ifF, take_all, List.length_cons, List.length_nil, Int.reduceToNat, Int.reducePow, Nat.reducePow]) | (refine wk_intro (by kernel_rfl) ?_) | (refine vp_draw (id := 1) (l := []) (by kernel_rfl) ?_) | (refine vp_draw (id := 2) (l := [15, 17, 20, 22, 18, 23]) (by kernel_rfl) ?_)); try (simp only [go_sem, Nat.reduceEqDiff, Nat.reduceAdd, Nat.reduceSub, Nat.reduceMul, Nat.reduceLeDiff, Nat.reduceLT, reduceIte, reduceCtorEq, Nat.succ_ne_zero, elemsC, Int.reduceToNat, Nat.reducePow]))
  refine vf_of (nat_MulL (by omega) (by omega)) ?_; (try (simp only [go_sem, Nat.reduceEqDiff, Nat.reduceAdd, Nat.reduceSub, Nat.reduceMul, Nat.reduceLeDiff, Nat.reduceLT, reduceIte, reduceCtorEq, Nat.succ_ne_zero, elemsC, Int.reduceToNat, Nat.reducePow])); repeat ((first | (simp (disch := (first | omega | (simp only [AL, List.length_map]; omega))) only [AR, AL, ifT, ifF, take_all, List.length_cons, List.length_nil, Int.reduceToNat, Int.reducePow, Nat.reducePow]) | (refine wk_intro (by kernel_rfl) ?_) | (refine vp_draw (id := 1) (l := []) (by kernel_rfl) ?_) | (refine vp_draw (id := 2) (l := [15, 17, 20, 22, 18, 23]) (by kernel_rfl) ?_)); try (simp only [go_sem, Nat.reduceEqDiff, Nat.reduceAdd, Nat.reduceSub, Nat.reduceMul, Nat.reduceLeDiff, Nat.reduceLT, reduceIte, reduceCtorEq, Nat.succ_ne_zero, elemsC, Int.reduceToNat, Nat.reducePow]))
  refine vf_of (nat_MulL (by omega) (by omega)) ?_; (try (simp only [go_sem, Nat.reduceEqDiff, Nat.reduceAdd, Nat.reduceSub, Nat.reduceMul, Nat.reduceLeDiff, Nat.reduceLT, reduceIte, reduceCtorEq, Nat.succ_ne_zero, elemsC, Int.reduceToNat, Nat.reducePow])); repeat ((first | (simp (disch := (first | omega | (simp only [AL, List.length_map]; omega))) only [AR, AL, ifT, ifF, take_all, List.length_cons, List.length_nil, Int.reduceToNat, Int.reducePow, Nat.reducePow]) | (refine wk_intro (by kernel_rfl) ?_) | (refine vp_draw (id := 1) (l := []) (by kernel_rfl) ?_) | (refine vp_draw (id := 2) (l := [15, 17, 20, 22, 18, 23]) (by kernel_rfl) ?_)); try (simp only [go_sem, Nat.reduceEqDiff, Nat.reduceAdd, Nat.reduceSub, Nat.reduceMul, Nat.reduceLeDiff, Nat.reduceLT, reduceIte, reduceCtorEq, Nat.succ_ne_zero, elemsC, Int.reduceToNat, Nat.reducePow]))
  refine vf_of (hOf) ?_; (try (simp only [go_sem, Nat.reduceEqDiff, Nat.reduceAdd, Nat.reduceSub, Nat.reduceMul, Nat.reduceLeDiff, Nat.reduceLT, reduceIte, reduceCtorEq, Nat.succ_ne_zero, elemsC, Int.reduceToNat, Nat.reducePow])); repeat ((first | (simp (disch := (first | omega | (simp only [AL, List.length_map]; omega))) only [AR, AL, ifT, ifF, take_all, List.length_cons, List.length_nil, Int.reduceToNat, Int.reducePow, Nat.reducePow]) | (refine wk_intro (by kernel_rfl) ?_) | (refine vp_draw (id := 1) (l := []) (by kernel_rfl) ?_) | (refine vp_draw (id := 2) (l := [15, 17, 20, 22, 18, 23]) (by kernel_rfl) ?_)); try (simp only [go_sem, Nat.reduceEqDiff, Nat.reduceAdd, Nat.reduceSub, Nat.reduceMul, Nat.reduceLeDiff, Nat.reduceLT, reduceIte, reduceCtorEq, Nat.succ_ne_zero, elemsC, Int.reduceToNat, Nat.reducePow]))
theorem sgn_mul_nat (s : Bool) (a b : Nat) : sgn s a * (b : Int) = sgn s (a * b) := by
  unfold sgn
  split
  · rw [Int.neg_mul, Int.natCast_mul]
  · rw [Int.natCast_mul]
theorem add_parts (q r : Rat) : q + r = mkRat (sgn (decide (q.num < 0)) (q.num.natAbs * r.den) + sgn (decide (r.num < 0)) (r.num.natAbs * q.den)) (q.den * r.den) := by
  conv => lhs; rw [← Rat.mkRat_self q, ← Rat.mkRat_self r, Rat.mkRat_add_mkRat _ _ q.den_nz r.den_nz]
  congr 1
  rw [← sgn_mul_nat, ← sgn_mul_nat, sgn_self, sgn_self]
theorem add_same (q r : Rat) (h : decide (q.num < 0) = decide (r.num < 0)) : mkRat (sgn (decide (q.num < 0)) (q.num.natAbs * r.den + r.num.natAbs * q.den)) (q.den * r.den) = q + r := by
  rw [add_parts, ← h]
  congr 1
  unfold sgn
  split <;> omega
theorem add_ge (q r : Rat) (h : ¬ decide (q.num < 0) = decide (r.num < 0)) (h2 : r.num.natAbs * q.den ≤ q.num.natAbs * r.den) : mkRat (sgn (decide (q.num < 0)) (q.num.natAbs * r.den - r.num.natAbs * q.den)) (q.den * r.den) = q + r := by
  rw [add_parts]
  congr 1
  have e : decide (r.num < 0) = !decide (q.num < 0) := by
    revert h
    cases decide (q.num < 0) <;> cases decide (r.num < 0) <;> simp
  rw [e]
  generalize q.num.natAbs * r.den = X at *
  generalize r.num.natAbs * q.den = Y at *
  unfold sgn
  cases decide (q.num < 0)
  · simp; omega
  · simp; omega
theorem add_lt (q r : Rat) (h : ¬ decide (q.num < 0) = decide (r.num < 0)) (h2 : q.num.natAbs * r.den < r.num.natAbs * q.den) : mkRat (sgn (decide (r.num < 0)) (r.num.natAbs * q.den - q.num.natAbs * r.den)) (q.den * r.den) = q + r := by
  have h3 := add_ge r q (fun e => h e.symm) (Nat.le_of_lt h2)
  rw [Nat.mul_comm r.den, Rat.add_comm r q] at h3
  exact h3
theorem beq_bool (a b : Bool) : (a == b) = decide (a = b) := by cases a <;> cases b <;> rfl
theorem lim_len_add2 {a b L : Nat} (ha : (lim a).length ≤ L) (hb : (lim b).length ≤ L) : (lim (a + b)).length ≤ L + 1 := lim_len_add ha hb
theorem rat_Add {v w : SV} {q r : Rat} {L M : Nat} (hv : RatA v q L) (hw : RatA w r M) (hL : 1 ≤ L) (hM : 1 ≤ M) (h : L + M ≤ 268435456) : Go.Ev.Fn CX 68 [v, w] (rv (q + r)) := by
  have hnv := rat_Norm hv (by omega)
  have hnw := rat_Norm hw (by omega)
  obtain ⟨z1, z2⟩ := szR_of hv hL
  obtain ⟨y1, y2⟩ := szR_of hw hM
  have g1 := lim_len_mul (a := q.num.natAbs) (b := r.den)
  have g2 := lim_len_mul (a := r.num.natAbs) (b := q.den)
  have g3 := lim_len_mul (a := q.den) (b := r.den)
  have g4 := lim_len_add2 (a := q.num.natAbs * r.den) (b := r.num.natAbs * q.den) (L := L + M) (by omega) (by omega)
  have g5 := lim_len_mono (Nat.sub_le (q.num.natAbs * r.den) (r.num.natAbs * q.den))
  have g6 := lim_len_mono (Nat.sub_le (r.num.natAbs * q.den) (q.num.natAbs * r.den))
  obtain ⟨s, n, d, rfl, -⟩ := hv
  obtain ⟨s', n', d', rfl, -⟩ := hw
  have hbb := beq_bool (decide (q.num < 0)) (decide (r.num < 0))
  refine Go.Ev.Fn.intro (fn := Try.f68) (body := (Try.f68).body.get!) (by kernel_rfl) (by kernel_rfl) (by kernel_rfl) (fun _ => rfl) (Nat.le_of_ble_eq_true (by kernel_rfl)) ?_; unfold Try.f68; simp only [Option.get!_some]
  (try (simp only [go_sem, Nat.reduceEqDiff, Nat.reduceAdd, Nat.reduceSub, Nat.reduceMul, Nat.reduceLeDiff, Nat.reduceLT, reduceIte, reduceCtorEq, Nat.succ_ne_zero, elemsC, Int.reduceToNat, Nat.reducePow])); repeat ((first | (simp (disch := (first | omega | (simp only [AL, List.length_map]; omega))) only [AR, AL, ifT, ifF, take_all, List.length_cons, List.length_nil, Int.reduceToNat, Int.reducePow, Nat.reducePow]) | (refine wk_intro (by kernel_rfl) ?_) | (refine vp_draw (id := 1) (l := []) (by kernel_rfl) ?_) | (refine vp_draw (id := 2) (l := [17, 19, 22, 24, 27, 29]) (by kernel_rfl) ?_) | (refine vp_draw (id := 4) (l := [5, 6, 40, 7]) (by kernel_rfl) ?_)); try (simp only [go_sem, Nat.reduceEqDiff, Nat.reduceAdd, Nat.reduceSub, Nat.reduceMul, Nat.reduceLeDiff, Nat.reduceLT, reduceIte, reduceCtorEq, Nat.succ_ne_zero, elemsC, Int.reduceToNat, Nat.reducePow]))
  refine vf_of (hnv) ?_; (try (simp only [go_sem, Nat.reduceEqDiff, Nat.reduceAdd, Nat.reduceSub, Nat.reduceMul, Nat.reduceLeDiff, Nat.reduceLT, reduceIte, reduceCtorEq, Nat.succ_ne_zero, elemsC, Int.reduceToNat, Nat.reducePow])); repeat ((first | (simp (disch := (first | omega | (simp only [AL, List.length_map]; omega))) only [AR, AL, ifT, ifF, take_all, List.length_cons, List.length_nil, Int.reduceToNat, Int.reducePow, Nat.reducePow]) | (refine wk_intro (by kernel_rfl) ?_) | (refine vp_draw (id := 1) (l := []) (by kernel_rfl) ?_) | (refine vp_draw (id := 2) (l := [17, 19, 22, 24, 27, 29]) (by kernel_rfl) ?_) | (refine vp_draw (id := 4) (l := [5, 6, 40, 7]) (by kernel_rfl) ?_)); try (simp only [go_sem, Nat.reduceEqDiff, Nat.reduceAdd, Nat.reduceSub, Nat.reduceMul, Nat.reduceLeDiff, Nat.reduceLT, reduceIte, reduceCtorEq, Nat.succ_ne_zero, elemsC, Int.reduceToNat, Nat.reducePow]))
  refine vf_of (hnw) ?_; (try (simp only [go_sem, Nat.reduceEqDiff, Nat.reduceAdd, Nat.reduceSub, Nat.reduceMul, Nat.reduceLeDiff, Nat.reduceLT, reduceIte, reduceCtorEq, Nat.succ_ne_zero, elemsC, Int.reduceToNat, Nat.reducePow])); repeat ((first | (simp (disch := (first | omega | (simp only [AL, List.length_map]; omega))) only [AR, AL, ifT, ifF, take_all, List.length_cons, List.length_nil, Int.reduceToNat, Int.reducePow, Nat.reducePow]) | (refine wk_intro (by kernel_rfl) ?_) | (refine vp_draw (id := 1) (l := []) (by kernel_rfl) ?_) | (refine vp_draw (id := 2) (l := [17, 19, 22, 24, 27, 29]) (by kernel_rfl) ?_) | (refine vp_draw (id := 4) (l := [5, 6, 40, 7]) (by kernel_rfl) ?_)); try (simp only [go_sem, Nat.reduceEqDiff, Nat.reduceAdd, Nat.reduceSub, Nat.reduceMul, Nat.reduceLeDiff, Nat.reduceLT, reduceIte, reduceCtorEq, Nat.succ_ne_zero, elemsC, Int.reduceToNat, Nat.reducePow]))
  refine vf_of (nat_MulL (by omega) (by omega)) ?_; (try (simp only [go_sem, Nat.reduceEqDiff, Nat.reduceAdd, Nat.reduceSub, Nat.reduceMul, Nat.reduceLeDiff, Nat.reduceLT, reduceIte, reduceCtorEq, Nat.succ_ne_zero, elemsC, Int.reduceToNat, Nat.reducePow])); repeat ((first | (simp (disch := (first | omega | (simp only [AL, List.length_map]; omega))) only [AR, AL, ifT, ifF, take_all, List.length_cons, List.length_nil, Int.reduceToNat, Int.reducePow, Nat.reducePow]) | (refine wk_intro (by kernel_rfl) ?_) | (refine vp_draw (id := 1) (l := []) (by kernel_rfl) ?_) | (refine vp_draw (id := 2) (l := [17, 19, 22, 24, 27, 29]) (by kernel_rfl) ?_) | (refine vp_draw (id := 4) (l := [5, 6, 40, 7]) (by kernel_rfl) ?_)); try (simp only [go_sem, Nat.reduceEqDiff, Nat.reduceAdd, Nat.reduceSub, Nat.reduceMul, Nat.reduceLeDiff, Nat.reduceLT, reduceIte, reduceCtorEq, Nat.succ_ne_zero, elemsC, Int.reduceToNat, Nat.reducePow]))
  refine vf_of (nat_MulL (by omega) (by omega)) ?_; (try (simp only [go_sem, Nat.reduceEqDiff, Nat.reduceAdd, Nat.reduceSub, Nat.reduceMul, Nat.reduceLeDiff, Nat.reduceLT, reduceIte, reduceCtorEq, Nat.succ_ne_zero, elemsC, Int.reduceToNat, Nat.reducePow])); repeat ((first | (simp (disch := (first | omega | (simp only [AL, List.length_map]; omega))) only [AR, AL, ifT, ifF, take_all, List.length_cons, List.length_nil, Int.reduceToNat, Int.reducePow, Nat.reducePow]) | (refine wk_intro (by kernel_rfl) ?_) | (refine vp_draw (id := 1) (l := []) (by kernel_rfl) ?_) | (refine vp_draw (id := 2) (l := [17, 19, 22, 24, 27, 29]) (by kernel_rfl) ?_) | (refine vp_draw (id := 4) (l := [5, 6, 40, 7]) (by kernel_rfl) ?_)); try (simp only [go_sem, Nat.reduceEqDiff, Nat.reduceAdd, Nat.reduceSub, Nat.reduceMul, Nat.reduceLeDiff, Nat.reduceLT, reduceIte, reduceCtorEq, Nat.succ_ne_zero, elemsC, Int.reduceToNat, Nat.reducePow]))
  refine vf_of (nat_MulL (by omega) (by omega)) ?_; (try (simp only [go_sem, Nat.reduceEqDiff, Nat.reduceAdd, Nat.reduceSub, Nat.reduceMul, Nat.reduceLeDiff, Nat.reduceLT, reduceIte, reduceCtorEq, Nat.succ_ne_zero, elemsC, Int.reduceToNat, Nat.reducePow, hbb])); repeat ((first | (simp (disch := (first | omega | (simp only [AL, List.length_map]; omega))) only [AR, AL, ifT, ifF, take_all, List.length_cons, List.length_nil, Int.reduceToNat, Int.reducePow, Nat.reducePow, hbb]) | (refine wk_intro (by kernel_rfl) ?_) | (refine vp_draw (id := 1) (l := []) (by kernel_rfl) ?_) | (refine vp_draw (id := 2) (l := [17, 19, 22, 24, 27, 29]) (by kernel_rfl) ?_) | (refine vp_draw (id := 4) (l := [5, 6, 40, 7]) (by kernel_rfl) ?_)); try (simp only [go_sem, Nat.reduceEqDiff, Nat.reduceAdd, Nat.reduceSub, Nat.reduceMul, Nat.reduceLeDiff, Nat.reduceLT, reduceIte, reduceCtorEq, Nat.succ_ne_zero, elemsC, Int.reduceToNat, Nat.reducePow, hbb]))
  by_cases hs : decide (q.num < 0) = decide (r.num < 0)
  · have hOf := rat_OfL (s := decide (q.num < 0)) (n := q.num.natAbs * r.den + r.num.natAbs * q.den) (d := q.den * r.den) (by omega) (by omega)
    rw [add_same q r hs] at hOf
    rw [decide_eq_true hs]
    (try (simp only [go_sem, Nat.reduceEqDiff, Nat.reduceAdd, Nat.reduceSub, Nat.reduceMul, Nat.reduceLeDiff, Nat.reduceLT, reduceIte, reduceCtorEq, Nat.succ_ne_zero, elemsC, Int.reduceToNat, Nat.reducePow])); repeat ((first | (simp (disch := (first | omega | (simp only [AL, List.length_map]; omega))) only [AR, AL, ifT, ifF, take_all, List.length_cons, List.length_nil, Int.reduceToNat, Int.reducePow, Nat.reducePow]) | (refine wk_intro (by kernel_rfl) ?_) | (refine vp_draw (id := 1) (l := []) (by kernel_rfl) ?_) | (refine vp_draw (id := 2) (l := [17, 19, 22, 24, 27, 29]) (by kernel_rfl) ?_) | (refine vp_draw (id := 4) (l := [5, 6, 40, 7]) (by kernel_rfl) ?_)); try (simp only [go_sem, Nat.reduceEqDiff, Nat.reduceAdd, Nat.reduceSub, Nat.reduceMul, Nat.reduceLeDiff, Nat.reduceLT, reduceIte, reduceCtorEq, Nat.succ_ne_zero, elemsC, Int.reduceToNat, Nat.reducePow]))
    refine vf_of (nat_AddL (by omega) (by omega)) ?_; (try (simp only [go_sem, Nat.reduceEqDiff, Nat.reduceAdd, Nat.reduceSub, Nat.reduceMul, Nat.reduceLeDiff, Nat.reduceLT, reduceIte, reduceCtorEq, Nat.succ_ne_zero, elemsC, Int.reduceToNat, Nat.reducePow])); repeat ((first | (simp (disch := (first | omega | (simp only [AL, List.length_map]; omega))) only [AR, AL, ifT, ifF, take_all, List.length_cons, List.length_nil, Int.reduceToNat, Int.reducePow, Nat.reducePow]) | (refine wk_intro (by kernel_rfl) ?_) | (refine vp_draw (id := 1) (l := []) (by kernel_rfl) ?_) | (refine vp_draw (id := 2) (l := [17, 19, 22, 24, 27, 29]) (by kernel_rfl) ?_) | (refine vp_draw (id := 4) (l := [5, 6, 40, 7]) (by kernel_rfl) ?_)); try (simp only [go_sem, Nat.reduceEqDiff, Nat.reduceAdd, Nat.reduceSub, Nat.reduceMul, Nat.reduceLeDiff, Nat.reduceLT, reduceIte, reduceCtorEq, Nat.succ_ne_zero, elemsC, Int.reduceToNat, Nat.reducePow]))
    refine vf_of (hOf) ?_; (try (simp only [go_sem, Nat.reduceEqDiff, Nat.reduceAdd, Nat.reduceSub, Nat.reduceMul, Nat.reduceLeDiff, Nat.reduceLT, reduceIte, reduceCtorEq, Nat.succ_ne_zero, elemsC, Int.reduceToNat, Nat.reducePow])); repeat ((first | (simp (disch := (first | omega | (simp only [AL, List.length_map]; omega))) only [AR, AL, ifT, ifF, take_all, List.length_cons, List.length_nil, Int.reduceToNat, Int.reducePow, Nat.reducePow]) | (refine wk_intro (by kernel_rfl) ?_) | (refine vp_draw (id := 1) (l := []) (by kernel_rfl) ?_) | (refine vp_draw (id := 2) (l := [17, 19, 22, 24, 27, 29]) (by kernel_rfl) ?_) | (refine vp_draw (id := 4) (l := [5, 6, 40, 7]) (by kernel_rfl) ?_)); try (simp only [go_sem, Nat.reduceEqDiff, Nat.reduceAdd, Nat.reduceSub, Nat.reduceMul, Nat.reduceLeDiff, Nat.reduceLT, reduceIte, reduceCtorEq, Nat.succ_ne_zero, elemsC, Int.reduceToNat, Nat.reducePow]))
  · rw [decide_eq_false hs]
    (try (simp only [go_sem, Nat.reduceEqDiff, Nat.reduceAdd, Nat.reduceSub, Nat.reduceMul, Nat.reduceLeDiff, Nat.reduceLT, reduceIte, reduceCtorEq, Nat.succ_ne_zero, elemsC, Int.reduceToNat, Nat.reducePow])); repeat ((first | (simp (disch := (first | omega | (simp only [AL, List.length_map]; omega))) only [AR, AL, ifT, ifF, take_all, List.length_cons, List.length_nil, Int.reduceToNat, Int.reducePow, Nat.reducePow]) | (refine wk_intro (by kernel_rfl) ?_) | (refine vp_draw (id := 1) (l := []) (by kernel_rfl) ?_) | (refine vp_draw (id := 2) (l := [17, 19, 22, 24, 27, 29]) (by kernel_rfl) ?_) | (refine vp_draw (id := 4) (l := [5, 6, 40, 7]) (by kernel_rfl) ?_)); try (simp only [go_sem, Nat.reduceEqDiff, Nat.reduceAdd, Nat.reduceSub, Nat.reduceMul, Nat.reduceLeDiff, Nat.reduceLT, reduceIte, reduceCtorEq, Nat.succ_ne_zero, elemsC, Int.reduceToNat, Nat.reducePow]))
    refine vf_of (nat_SubL (by omega) (by omega)) ?_; (try (simp only [go_sem, Nat.reduceEqDiff, Nat.reduceAdd, Nat.reduceSub, Nat.reduceMul, Nat.reduceLeDiff, Nat.reduceLT, reduceIte, reduceCtorEq, Nat.succ_ne_zero, elemsC, Int.reduceToNat, Nat.reducePow])); repeat ((first | (simp (disch := (first | omega | (simp only [AL, List.length_map]; omega))) only [AR, AL, ifT, ifF, take_all, List.length_cons, List.length_nil, Int.reduceToNat, Int.reducePow, Nat.reducePow]) | (refine wk_intro (by kernel_rfl) ?_) | (refine vp_draw (id := 1) (l := []) (by kernel_rfl) ?_) | (refine vp_draw (id := 2) (l := [17, 19, 22, 24, 27, 29]) (by kernel_rfl) ?_) | (refine vp_draw (id := 4) (l := [5, 6, 40, 7]) (by kernel_rfl) ?_)); try (simp only [go_sem, Nat.reduceEqDiff, Nat.reduceAdd, Nat.reduceSub, Nat.reduceMul, Nat.reduceLeDiff, Nat.reduceLT, reduceIte, reduceCtorEq, Nat.succ_ne_zero, elemsC, Int.reduceToNat, Nat.reducePow]))
    by_cases h2 : r.num.natAbs * q.den ≤ q.num.natAbs * r.den
    · have hOf := rat_OfL (s := decide (q.num < 0)) (n := q.num.natAbs * r.den - r.num.natAbs * q.den) (d := q.den * r.den) (by omega) (by omega)
      rw [add_ge q r hs h2] at hOf
      rw [decide_eq_true h2]
      (try (simp only [go_sem, Nat.reduceEqDiff, Nat.reduceAdd, Nat.reduceSub, Nat.reduceMul, Nat.reduceLeDiff, Nat.reduceLT, reduceIte, reduceCtorEq, Nat.succ_ne_zero, elemsC, Int.reduceToNat, Nat.reducePow])); repeat ((first | (simp (disch := (first | omega | (simp only [AL, List.length_map]; omega))) only [AR, AL, ifT, ifF, take_all, List.length_cons, List.length_nil, Int.reduceToNat, Int.reducePow, Nat.reducePow]) | (refine wk_intro (by kernel_rfl) ?_) | (refine vp_draw (id := 1) (l := []) (by kernel_rfl) ?_) | (refine vp_draw (id := 2) (l := [17, 19, 22, 24, 27, 29]) (by kernel_rfl) ?_) | (refine vp_draw (id := 4) (l := [5, 6, 40, 7]) (by kernel_rfl) ?_)); try (simp only [go_sem, Nat.reduceEqDiff, Nat.reduceAdd, Nat.reduceSub, Nat.reduceMul, Nat.reduceLeDiff, Nat.reduceLT, reduceIte, reduceCtorEq, Nat.succ_ne_zero, elemsC, Int.reduceToNat, Nat.reducePow]))
      refine vf_of (hOf) ?_; (try (simp only [go_sem, Nat.reduceEqDiff, Nat.reduceAdd, Nat.reduceSub, Nat.reduceMul, Nat.reduceLeDiff, Nat.reduceLT, reduceIte, reduceCtorEq, Nat.succ_ne_zero, elemsC, Int.reduceToNat, Nat.reducePow])); repeat ((first | (simp (disch := (first | omega | (simp only [AL, List.length_map]; omega))) only [AR, AL, ifT, ifF, take_all, List.length_cons, List.length_nil, Int.reduceToNat, Int.reducePow, Nat.reducePow]) | (refine wk_intro (by kernel_rfl) ?_) | (refine vp_draw (id := 1) (l := []) (by kernel_rfl) ?_) | (refine vp_draw (id := 2) (l := [17, 19, 22, 24, 27, 29]) (by kernel_rfl) ?_) | (refine vp_draw (id := 4) (l := [5, 6, 40, 7]) (by kernel_rfl) ?_)); try (simp only [go_sem, Nat.reduceEqDiff, Nat.reduceAdd, Nat.reduceSub, Nat.reduceMul, Nat.reduceLeDiff, Nat.reduceLT, reduceIte, reduceCtorEq, Nat.succ_ne_zero, elemsC, Int.reduceToNat, Nat.reducePow]))
    · have hOf := rat_OfL (s := decide (r.num < 0)) (n := r.num.natAbs * q.den - q.num.natAbs * r.den) (d := q.den * r.den) (by omega) (by omega)
      rw [add_lt q r hs (by omega)] at hOf
      rw [decide_eq_false h2]
      (try (simp only [go_sem, Nat.reduceEqDiff, Nat.reduceAdd, Nat.reduceSub, Nat.reduceMul, Nat.reduceLeDiff, Nat.reduceLT, reduceIte, reduceCtorEq, Nat.succ_ne_zero, elemsC, Int.reduceToNat, Nat.reducePow])); repeat ((first | (simp (disch := (first | omega | (simp only [AL, List.length_map]; omega))) only [AR, AL, ifT, ifF, take_all, List.length_cons, List.length_nil, Int.reduceToNat, Int.reducePow, Nat.reducePow]) | (refine wk_intro (by kernel_rfl) ?_) | (refine vp_draw (id := 1) (l := []) (by kernel_rfl) ?_) | (refine vp_draw (id := 2) (l := [17, 19, 22, 24, 27, 29]) (by kernel_rfl) ?_) | (refine vp_draw (id := 4) (l := [5, 6, 40, 7]) (by kernel_rfl) ?_)); try (simp only [go_sem, Nat.reduceEqDiff, Nat.reduceAdd, Nat.reduceSub, Nat.reduceMul, Nat.reduceLeDiff, Nat.reduceLT, reduceIte, reduceCtorEq, Nat.succ_ne_zero, elemsC, Int.reduceToNat, Nat.reducePow]))
      refine vf_of (nat_SubL (by omega) (by omega)) ?_; (try (simp only [go_sem, Nat.reduceEqDiff, Nat.reduceAdd, Nat.reduceSub, Nat.reduceMul, Nat.reduceLeDiff, Nat.reduceLT, reduceIte, reduceCtorEq, Nat.succ_ne_zero, elemsC, Int.reduceToNat, Nat.reducePow])); repeat ((first | (simp (disch := (first | omega | (simp only [AL, List.length_map]; omega))) only [AR, AL, ifT, ifF, take_all, List.length_cons, List.length_nil, Int.reduceToNat, Int.reducePow, Nat.reducePow]) | (refine wk_intro (by kernel_rfl) ?_) | (refine vp_draw (id := 1) (l := []) (by kernel_rfl) ?_) | (refine vp_draw (id := 2) (l := [17, 19, 22, 24, 27, 29]) (by kernel_rfl) ?_) | (refine vp_draw (id := 4) (l := [5, 6, 40, 7]) (by kernel_rfl) ?_)); try (simp only [go_sem, Nat.reduceEqDiff, Nat.reduceAdd, Nat.reduceSub, Nat.reduceMul, Nat.reduceLeDiff, Nat.reduceLT, reduceIte, reduceCtorEq, Nat.succ_ne_zero, elemsC, Int.reduceToNat, Nat.reducePow]))
      refine vf_of (hOf) ?_; (try (simp only [go_sem, Nat.reduceEqDiff, Nat.reduceAdd, Nat.reduceSub, Nat.reduceMul, Nat.reduceLeDiff, Nat.reduceLT, reduceIte, reduceCtorEq, Nat.succ_ne_zero, elemsC, Int.reduceToNat, Nat.reducePow])); repeat ((first | (simp (disch := (first | omega | (simp only [AL, List.length_map]; omega))) only [AR, AL, ifT, ifF, take_all, List.length_cons, List.length_nil, Int.reduceToNat, Int.reducePow, Nat.reducePow]) | (refine wk_intro (by kernel_rfl) ?_) | (refine vp_draw (id := 1) (l := []) (by kernel_rfl) ?_) | (refine vp_draw (id := 2) (l := [17, 19, 22, 24, 27, 29]) (by kernel_rfl) ?_) | (refine vp_draw (id := 4) (l := [5, 6, 40, 7]) (by kernel_rfl) ?_)); try (simp only [go_sem, Nat.reduceEqDiff, Nat.reduceAdd, Nat.reduceSub, Nat.reduceMul, Nat.reduceLeDiff, Nat.reduceLT, reduceIte, reduceCtorEq, Nat.succ_ne_zero, elemsC, Int.reduceToNat, Nat.reducePow]))
theorem neg_parts (q : Rat) : rv (-q) = ratV (!decide (q.num < 0) && decide (0 < (lim q.num.natAbs).length)) (lim q.num.natAbs) (lim q.den) := by
  show ratV (decide ((-q).num < 0)) (lim (-q).num.natAbs) (lim (-q).den) = _
  rw [Rat.neg_num, Rat.neg_den, Int.natAbs_neg]
  congr 3
  by_cases h : q.num = 0
  · rw [h]; rfl
  · have h1 := lim_pos (N := q.num.natAbs) (by omega)
    rw [decide_eq_true h1, Bool.and_true]
    by_cases h2 : q.num < 0
    · rw [decide_eq_true h2, decide_eq_false (by omega)]; rfl
    · rw [decide_eq_false h2, decide_eq_true (by omega)]; rfl
theorem rat_signed (s t : Bool) (n d : List Nat) (hn : n.length ≤ 1099511627776) : Go.Ev.Fn CX 94 [.bool s, ratV t n d] (ratV (s && decide (0 < n.length)) n d) := by
  refine Go.Ev.Fn.intro (fn := Try.f94) (body := (Try.f94).body.get!) (by kernel_rfl) (by kernel_rfl) (by kernel_rfl) (fun _ => rfl) (Nat.le_of_ble_eq_true (by kernel_rfl)) ?_; unfold Try.f94; simp only [Option.get!_some]
  cases s
  · (try (simp only [go_sem, Nat.reduceEqDiff, Nat.reduceAdd, Nat.reduceSub, Nat.reduceMul, Nat.reduceLeDiff, Nat.reduceLT, reduceIte, reduceCtorEq, Nat.succ_ne_zero, elemsC, Int.reduceToNat, Nat.reducePow])); repeat ((first | (simp (disch := (first | omega | (simp only [AL, List.length_map]; omega))) only [AR, AL, ifT, ifF, take_all, List.length_cons, List.length_nil, Int.reduceToNat, Int.reducePow, Nat.reducePow]) | (refine wk_intro (by kernel_rfl) ?_)); try (simp only [go_sem, Nat.reduceEqDiff, Nat.reduceAdd, Nat.reduceSub, Nat.reduceMul, Nat.reduceLeDiff, Nat.reduceLT, reduceIte, reduceCtorEq, Nat.succ_ne_zero, elemsC, Int.reduceToNat, Nat.reducePow]))
    rfl
  · by_cases h : 0 < n.length
    · rw [decide_eq_true h]
      (try (simp only [go_sem, Nat.reduceEqDiff, Nat.reduceAdd, Nat.reduceSub, Nat.reduceMul, Nat.reduceLeDiff, Nat.reduceLT, reduceIte, reduceCtorEq, Nat.succ_ne_zero, elemsC, Int.reduceToNat, Nat.reducePow])); repeat ((first | (simp (disch := (first | omega | (simp only [AL, List.length_map]; omega))) only [AR, AL, ifT, ifF, take_all, List.length_cons, List.length_nil, Int.reduceToNat, Int.reducePow, Nat.reducePow]) | (refine wk_intro (by kernel_rfl) ?_)); try (simp only [go_sem, Nat.reduceEqDiff, Nat.reduceAdd, Nat.reduceSub, Nat.reduceMul, Nat.reduceLeDiff, Nat.reduceLT, reduceIte, reduceCtorEq, Nat.succ_ne_zero, elemsC, Int.reduceToNat, Nat.reducePow]))
    · rw [decide_eq_false h]
      (try (simp only [go_sem, Nat.reduceEqDiff, Nat.reduceAdd, Nat.reduceSub, Nat.reduceMul, Nat.reduceLeDiff, Nat.reduceLT, reduceIte, reduceCtorEq, Nat.succ_ne_zero, elemsC, Int.reduceToNat, Nat.reducePow])); repeat ((first | (simp (disch := (first | omega | (simp only [AL, List.length_map]; omega))) only [AR, AL, ifT, ifF, take_all, List.length_cons, List.length_nil, Int.reduceToNat, Int.reducePow, Nat.reducePow]) | (refine wk_intro (by kernel_rfl) ?_)); try (simp only [go_sem, Nat.reduceEqDiff, Nat.reduceAdd, Nat.reduceSub, Nat.reduceMul, Nat.reduceLeDiff, Nat.reduceLT, reduceIte, reduceCtorEq, Nat.succ_ne_zero, elemsC, Int.reduceToNat, Nat.reducePow]))
theorem rat_Neg {v : SV} {q : Rat} {L : Nat} (hv : RatA v q L) (hL : 1 ≤ L) (h : L ≤ 268435456) : Go.Ev.Fn CX 69 [v] (rv (-q)) := by
  have hnv := rat_Norm hv (by omega)
  obtain ⟨z1, z2⟩ := szR_of hv hL
  have hs := rat_signed (!decide (q.num < 0)) (decide (q.num < 0)) (lim q.num.natAbs) (lim q.den) (by omega)
  rw [← neg_parts] at hs
  obtain ⟨s, n, d, rfl, -⟩ := hv
  refine Go.Ev.Fn.intro (fn := Try.f69) (body := (Try.f69).body.get!) (by kernel_rfl) (by kernel_rfl) (by kernel_rfl) (fun _ => rfl) (Nat.le_of_ble_eq_true (by kernel_rfl)) ?_; unfold Try.f69; simp only [Option.get!_some]
  (try (simp only [go_sem, Nat.reduceEqDiff, Nat.reduceAdd, Nat.reduceSub, Nat.reduceMul, Nat.reduceLeDiff, Nat.reduceLT, reduceIte, reduceCtorEq, Nat.succ_ne_zero, elemsC, Int.reduceToNat, Nat.reducePow])); repeat ((first | (simp (disch := (first | omega | (simp only [AL, List.length_map]; omega))) only [AR, AL, ifT, ifF, take_all, List.length_cons, List.length_nil, Int.reduceToNat, Int.reducePow, Nat.reducePow]) | (refine wk_intro (by kernel_rfl) ?_)); try (simp only [go_sem, Nat.reduceEqDiff, Nat.reduceAdd, Nat.reduceSub, Nat.reduceMul, Nat.reduceLeDiff, Nat.reduceLT, reduceIte, reduceCtorEq, Nat.succ_ne_zero, elemsC, Int.reduceToNat, Nat.reducePow]))
  refine vf_of (hnv) ?_; (try (simp only [go_sem, Nat.reduceEqDiff, Nat.reduceAdd, Nat.reduceSub, Nat.reduceMul, Nat.reduceLeDiff, Nat.reduceLT, reduceIte, reduceCtorEq, Nat.succ_ne_zero, elemsC, Int.reduceToNat, Nat.reducePow])); repeat ((first | (simp (disch := (first | omega | (simp only [AL, List.length_map]; omega))) only [AR, AL, ifT, ifF, take_all, List.length_cons, List.length_nil, Int.reduceToNat, Int.reducePow, Nat.reducePow]) | (refine wk_intro (by kernel_rfl) ?_)); try (simp only [go_sem, Nat.reduceEqDiff, Nat.reduceAdd, Nat.reduceSub, Nat.reduceMul, Nat.reduceLeDiff, Nat.reduceLT, reduceIte, reduceCtorEq, Nat.succ_ne_zero, elemsC, Int.reduceToNat, Nat.reducePow]))
  refine vf_of (hs) ?_; (try (simp only [go_sem, Nat.reduceEqDiff, Nat.reduceAdd, Nat.reduceSub, Nat.reduceMul, Nat.reduceLeDiff, Nat.reduceLT, reduceIte, reduceCtorEq, Nat.succ_ne_zero, elemsC, Int.reduceToNat, Nat.reducePow])); repeat ((first | (simp (disch := (first | omega | (simp only [AL, List.length_map]; omega))) only [AR, AL, ifT, ifF, take_all, List.length_cons, List.length_nil, Int.reduceToNat, Int.reducePow, Nat.reducePow]) | (refine wk_intro (by kernel_rfl) ?_)); try (simp only [go_sem, Nat.reduceEqDiff, Nat.reduceAdd, Nat.reduceSub, Nat.reduceMul, Nat.reduceLeDiff, Nat.reduceLT, reduceIte, reduceCtorEq, Nat.succ_ne_zero, elemsC, Int.reduceToNat, Nat.reducePow]))
theorem szR_neg {q : Rat} {L : Nat} (h : szR q L) : szR (-q) L := by
  unfold szR
  rw [Rat.neg_num, Rat.neg_den, Int.natAbs_neg]
  exact h
theorem rat_Sub {v w : SV} {q r : Rat} {L M : Nat} (hv : RatA v q L) (hw : RatA w r M) (hL : 1 ≤ L) (hM : 1 ≤ M) (h : L + M ≤ 268435456) : Go.Ev.Fn CX 45 [v, w] (rv (q - r)) := by
  have hN := rat_Neg hw hM (by omega)
  have hA := rat_Add hv (RatA_rv (szR_neg (szR_of hw hM))) hL hM h
  rw [← Rat.sub_eq_add_neg] at hA
  obtain ⟨s, n, d, rfl, -⟩ := hv
  obtain ⟨s', n', d', rfl, -⟩ := hw
  refine Go.Ev.Fn.intro (fn := Try.f45) (body := (Try.f45).body.get!) (by kernel_rfl) (by kernel_rfl) (by kernel_rfl) (fun _ => rfl) (Nat.le_of_ble_eq_true (by kernel_rfl)) ?_; unfold Try.f45; simp only [Option.get!_some]
  (try (simp only [go_sem, Nat.reduceEqDiff, Nat.reduceAdd, Nat.reduceSub, Nat.reduceMul, Nat.reduceLeDiff, Nat.reduceLT, reduceIte, reduceCtorEq, Nat.succ_ne_zero, elemsC, Int.reduceToNat, Nat.reducePow])); repeat ((first | (simp (disch := (first | omega | (simp only [AL, List.length_map]; omega))) only [AR, AL, ifT, ifF, take_all, List.length_cons, List.length_nil, Int.reduceToNat, Int.reducePow, Nat.reducePow]) | (refine wk_intro (by kernel_rfl) ?_) | (refine vp_draw (id := 1) (l := []) (by kernel_rfl) ?_)); try (simp only [go_sem, Nat.reduceEqDiff, Nat.reduceAdd, Nat.reduceSub, Nat.reduceMul, Nat.reduceLeDiff, Nat.reduceLT, reduceIte, reduceCtorEq, Nat.succ_ne_zero, elemsC, Int.reduceToNat, Nat.reducePow]))
  refine vf_of (hN) ?_; (try (simp only [go_sem, Nat.reduceEqDiff, Nat.reduceAdd, Nat.reduceSub, Nat.reduceMul, Nat.reduceLeDiff, Nat.reduceLT, reduceIte, reduceCtorEq, Nat.succ_ne_zero, elemsC, Int.reduceToNat, Nat.reducePow])); repeat ((first | (simp (disch := (first | omega | (simp only [AL, List.length_map]; omega))) only [AR, AL, ifT, ifF, take_all, List.length_cons, List.length_nil, Int.reduceToNat, Int.reducePow, Nat.reducePow]) | (refine wk_intro (by kernel_rfl) ?_) | (refine vp_draw (id := 1) (l := []) (by kernel_rfl) ?_)); try (simp only [go_sem, Nat.reduceEqDiff, Nat.reduceAdd, Nat.reduceSub, Nat.reduceMul, Nat.reduceLeDiff, Nat.reduceLT, reduceIte, reduceCtorEq, Nat.succ_ne_zero, elemsC, Int.reduceToNat, Nat.reducePow]))
  refine vf_of (hA) ?_; (try (simp only [go_sem, Nat.reduceEqDiff, Nat.reduceAdd, Nat.reduceSub, Nat.reduceMul, Nat.reduceLeDiff, Nat.reduceLT, reduceIte, reduceCtorEq, Nat.succ_ne_zero, elemsC, Int.reduceToNat, Nat.reducePow])); repeat ((first | (simp (disch := (first | omega | (simp only [AL, List.length_map]; omega))) only [AR, AL, ifT, ifF, take_all, List.length_cons, List.length_nil, Int.reduceToNat, Int.reducePow, Nat.reducePow]) | (refine wk_intro (by kernel_rfl) ?_) | (refine vp_draw (id := 1) (l := []) (by kernel_rfl) ?_)); try (simp only [go_sem, Nat.reduceEqDiff, Nat.reduceAdd, Nat.reduceSub, Nat.reduceMul, Nat.reduceLeDiff, Nat.reduceLT, reduceIte, reduceCtorEq, Nat.succ_ne_zero, elemsC, Int.reduceToNat, Nat.reducePow]))
theorem num_zero {q : Rat} : q.num = 0 ↔ q = 0 := Rat.num_eq_zero
theorem div_parts {q r : Rat} (hr : r ≠ 0) : q / r = q * mkRat (sgn (decide (r.num < 0)) r.den) r.num.natAbs := by
  rw [Rat.div_def]
  congr 1
  rw [Rat.inv_def]
  have h0 : r.num ≠ 0 := fun e => hr (num_zero.1 e)
  by_cases h : r.num < 0
  · rw [decide_eq_true h]
    obtain ⟨k, hk⟩ : ∃ k : Nat, r.num = Int.negSucc k := ⟨r.num.natAbs - 1, by omega⟩
    rw [hk, show (Int.negSucc k).natAbs = k + 1 from rfl]
    show Rat.normalize (-(r.den : Int)) (k + 1) (Nat.succ_ne_zero k) = mkRat (-(r.den : Int)) (k + 1)
    rw [Rat.normalize_eq_mkRat]
  · rw [decide_eq_false h]
    obtain ⟨m, hm⟩ : ∃ m : Nat, r.num = (m : Int) := ⟨r.num.natAbs, by omega⟩
    rw [hm, Int.natAbs_natCast, Rat.divInt_ofNat]
    rfl
theorem rat_Div {v w : SV} {q r : Rat} {L M : Nat} (hv : RatA v q L) (hw : RatA w r M) (hL : 1 ≤ L) (hM : 1 ≤ M) (h : L + M ≤ 268435456) : Go.Ev.Fn CX 100 [v, w] (.tup [rv (q / r), .bool (decide (r ≠ 0))]) := by
  have hnw := rat_Norm hw (by omega)
  obtain ⟨y1, y2⟩ := szR_of hw hM
  have h0 := rat_Int 0 (by omega)
  have hMul : r ≠ 0 → _ := fun hr => rat_Mul (w := ratV (decide (r.num < 0)) (lim r.den) (lim r.num.natAbs)) hv ⟨_, _, _, rfl, okL_lim _, okL_lim _, y2, y1, by rw [wth_lim, wth_lim]⟩ hL hM h
  obtain ⟨s, n, d, rfl, -⟩ := hv
  obtain ⟨s', n', d', rfl, -⟩ := hw
  refine Go.Ev.Fn.intro (fn := Try.f100) (body := (Try.f100).body.get!) (by kernel_rfl) (by kernel_rfl) (by kernel_rfl) (fun _ => rfl) (Nat.le_of_ble_eq_true (by kernel_rfl)) ?_; unfold Try.f100; simp only [Option.get!_some]
  by_cases hr : r = 0
  · have hl : (lim r.num.natAbs).length = 0 := by rw [num_zero.2 hr]; simp [lim_zero]
    rw [decide_eq_false (fun e => e hr), hr, Rat.div_def, Rat.inv_zero, Rat.mul_zero]
    subst hr
    (try (simp only [go_sem, Nat.reduceEqDiff, Nat.reduceAdd, Nat.reduceSub, Nat.reduceMul, Nat.reduceLeDiff, Nat.reduceLT, reduceIte, reduceCtorEq, Nat.succ_ne_zero, elemsC, Int.reduceToNat, Nat.reducePow])); repeat ((first | (simp (disch := (first | omega | (simp only [AL, List.length_map]; omega))) only [AR, AL, ifT, ifF, take_all, List.length_cons, List.length_nil, Int.reduceToNat, Int.reducePow, Nat.reducePow]) | (refine wk_intro (by kernel_rfl) ?_)); try (simp only [go_sem, Nat.reduceEqDiff, Nat.reduceAdd, Nat.reduceSub, Nat.reduceMul, Nat.reduceLeDiff, Nat.reduceLT, reduceIte, reduceCtorEq, Nat.succ_ne_zero, elemsC, Int.reduceToNat, Nat.reducePow]))
    refine vf_of (hnw) ?_; (try (simp only [go_sem, Nat.reduceEqDiff, Nat.reduceAdd, Nat.reduceSub, Nat.reduceMul, Nat.reduceLeDiff, Nat.reduceLT, reduceIte, reduceCtorEq, Nat.succ_ne_zero, elemsC, Int.reduceToNat, Nat.reducePow])); repeat ((first | (simp (disch := (first | omega | (simp only [AL, List.length_map]; omega))) only [AR, AL, ifT, ifF, take_all, List.length_cons, List.length_nil, Int.reduceToNat, Int.reducePow, Nat.reducePow]) | (refine wk_intro (by kernel_rfl) ?_)); try (simp only [go_sem, Nat.reduceEqDiff, Nat.reduceAdd, Nat.reduceSub, Nat.reduceMul, Nat.reduceLeDiff, Nat.reduceLT, reduceIte, reduceCtorEq, Nat.succ_ne_zero, elemsC, Int.reduceToNat, Nat.reducePow]))
    refine vf_of (h0) ?_; (try (simp only [go_sem, Nat.reduceEqDiff, Nat.reduceAdd, Nat.reduceSub, Nat.reduceMul, Nat.reduceLeDiff, Nat.reduceLT, reduceIte, reduceCtorEq, Nat.succ_ne_zero, elemsC, Int.reduceToNat, Nat.reducePow])); repeat ((first | (simp (disch := (first | omega | (simp only [AL, List.length_map]; omega))) only [AR, AL, ifT, ifF, take_all, List.length_cons, List.length_nil, Int.reduceToNat, Int.reducePow, Nat.reducePow]) | (refine wk_intro (by kernel_rfl) ?_)); try (simp only [go_sem, Nat.reduceEqDiff, Nat.reduceAdd, Nat.reduceSub, Nat.reduceMul, Nat.reduceLeDiff, Nat.reduceLT, reduceIte, reduceCtorEq, Nat.succ_ne_zero, elemsC, Int.reduceToNat, Nat.reducePow]))
    rfl
  · have hl := lim_pos (N := r.num.natAbs) (fun e => hr (num_zero.1 (by omega)))
    have hMul := hMul hr
    rw [← div_parts hr] at hMul
    rw [decide_eq_true hr]
    (try (simp only [go_sem, Nat.reduceEqDiff, Nat.reduceAdd, Nat.reduceSub, Nat.reduceMul, Nat.reduceLeDiff, Nat.reduceLT, reduceIte, reduceCtorEq, Nat.succ_ne_zero, elemsC, Int.reduceToNat, Nat.reducePow])); repeat ((first | (simp (disch := (first | omega | (simp only [AL, List.length_map]; omega))) only [AR, AL, ifT, ifF, take_all, List.length_cons, List.length_nil, Int.reduceToNat, Int.reducePow, Nat.reducePow]) | (refine wk_intro (by kernel_rfl) ?_)); try (simp only [go_sem, Nat.reduceEqDiff, Nat.reduceAdd, Nat.reduceSub, Nat.reduceMul, Nat.reduceLeDiff, Nat.reduceLT, reduceIte, reduceCtorEq, Nat.succ_ne_zero, elemsC, Int.reduceToNat, Nat.reducePow]))
    refine vf_of (hnw) ?_; (try (simp only [go_sem, Nat.reduceEqDiff, Nat.reduceAdd, Nat.reduceSub, Nat.reduceMul, Nat.reduceLeDiff, Nat.reduceLT, reduceIte, reduceCtorEq, Nat.succ_ne_zero, elemsC, Int.reduceToNat, Nat.reducePow])); repeat ((first | (simp (disch := (first | omega | (simp only [AL, List.length_map]; omega))) only [AR, AL, ifT, ifF, take_all, List.length_cons, List.length_nil, Int.reduceToNat, Int.reducePow, Nat.reducePow]) | (refine wk_intro (by kernel_rfl) ?_)); try (simp only [go_sem, Nat.reduceEqDiff, Nat.reduceAdd, Nat.reduceSub, Nat.reduceMul, Nat.reduceLeDiff, Nat.reduceLT, reduceIte, reduceCtorEq, Nat.succ_ne_zero, elemsC, Int.reduceToNat, Nat.reducePow]))
    refine vf_of (hMul) ?_; (try (simp only [go_sem, Nat.reduceEqDiff, Nat.reduceAdd, Nat.reduceSub, Nat.reduceMul, Nat.reduceLeDiff, Nat.reduceLT, reduceIte, reduceCtorEq, Nat.succ_ne_zero, elemsC, Int.reduceToNat, Nat.reducePow])); repeat ((first | (simp (disch := (first | omega | (simp only [AL, List.length_map]; omega))) only [AR, AL, ifT, ifF, take_all, List.length_cons, List.length_nil, Int.reduceToNat, Int.reducePow, Nat.reducePow]) | (refine wk_intro (by kernel_rfl) ?_)); try (simp only [go_sem, Nat.reduceEqDiff, Nat.reduceAdd, Nat.reduceSub, Nat.reduceMul, Nat.reduceLeDiff, Nat.reduceLT, reduceIte, reduceCtorEq, Nat.succ_ne_zero, elemsC, Int.reduceToNat, Nat.reducePow]))
end Go.Proofs.Ytdnmhnjblgkjaaa

/- The document's rationals (vernierref2): Norm, Of, Int, limbs, Same, Mul, Add, in the evaluator. -/
namespace Go.Proofs.Ytdnmhnjblgkjaaa
set_option linter.unusedSimpArgs false
set_option linter.unusedVariables false
set_option maxRecDepth 8000
open Go.Ev
theorem ref2_Norm {v : SV} {q : Rat} {L : Nat} (h : RatA v q L) (hL : L ≤ 16777216) : Go.Ev.Fn CX 34 [v] (rv q) := by
  obtain ⟨s, n, d, rfl, hn, hd, hl, hm, rfl⟩ := h
  have lx := lim_length_le hn
  have ly := lim_length_le hd
  have tn := ref1_Trim n hn (by omega)
  have td := ref1_Trim d hd (by omega)
  refine Go.Ev.Fn.intro (fn := Try.f34) (body := (Try.f34).body.get!) (by kernel_rfl) (by kernel_rfl) (by kernel_rfl) (fun _ => rfl) (Nat.le_of_ble_eq_true (by kernel_rfl)) ?_; unfold Try.f34; simp only [Option.get!_some]
  generalize wth n = N at *
  generalize wth d = D at *
  (try (simp only [go_sem, Nat.reduceEqDiff, Nat.reduceAdd, Nat.reduceSub, Nat.reduceMul, Nat.reduceLeDiff, Nat.reduceLT, reduceIte, reduceCtorEq, Nat.succ_ne_zero, elemsC, Int.reduceToNat, Nat.reducePow])); repeat ((first | (simp (disch := (first | omega | (simp only [AL, List.length_map]; omega))) only [AR, AL, ifT, ifF, take_all, List.length_cons, List.length_nil, Int.reduceToNat, Int.reducePow, Nat.reducePow]) | (refine wk_intro (by kernel_rfl) ?_) | (refine vp_draw (id := 1) (l := [7, 10]) (by kernel_rfl) ?_)); try (simp only [go_sem, Nat.reduceEqDiff, Nat.reduceAdd, Nat.reduceSub, Nat.reduceMul, Nat.reduceLeDiff, Nat.reduceLT, reduceIte, reduceCtorEq, Nat.succ_ne_zero, elemsC, Int.reduceToNat, Nat.reducePow]))
  refine vf_of (tn) ?_; (try (simp only [go_sem, Nat.reduceEqDiff, Nat.reduceAdd, Nat.reduceSub, Nat.reduceMul, Nat.reduceLeDiff, Nat.reduceLT, reduceIte, reduceCtorEq, Nat.succ_ne_zero, elemsC, Int.reduceToNat, Nat.reducePow])); repeat ((first | (simp (disch := (first | omega | (simp only [AL, List.length_map]; omega))) only [AR, AL, ifT, ifF, take_all, List.length_cons, List.length_nil, Int.reduceToNat, Int.reducePow, Nat.reducePow]) | (refine wk_intro (by kernel_rfl) ?_) | (refine vp_draw (id := 1) (l := [7, 10]) (by kernel_rfl) ?_)); try (simp only [go_sem, Nat.reduceEqDiff, Nat.reduceAdd, Nat.reduceSub, Nat.reduceMul, Nat.reduceLeDiff, Nat.reduceLT, reduceIte, reduceCtorEq, Nat.succ_ne_zero, elemsC, Int.reduceToNat, Nat.reducePow]))
  refine vf_of (td) ?_; (try (simp only [go_sem, Nat.reduceEqDiff, Nat.reduceAdd, Nat.reduceSub, Nat.reduceMul, Nat.reduceLeDiff, Nat.reduceLT, reduceIte, reduceCtorEq, Nat.succ_ne_zero, elemsC, Int.reduceToNat, Nat.reducePow])); repeat ((first | (simp (disch := (first | omega | (simp only [AL, List.length_map]; omega))) only [AR, AL, ifT, ifF, take_all, List.length_cons, List.length_nil, Int.reduceToNat, Int.reducePow, Nat.reducePow]) | (refine wk_intro (by kernel_rfl) ?_) | (refine vp_draw (id := 1) (l := [7, 10]) (by kernel_rfl) ?_)); try (simp only [go_sem, Nat.reduceEqDiff, Nat.reduceAdd, Nat.reduceSub, Nat.reduceMul, Nat.reduceLeDiff, Nat.reduceLT, reduceIte, reduceCtorEq, Nat.succ_ne_zero, elemsC, Int.reduceToNat, Nat.reducePow]))
  by_cases h : N = 0 ∨ D = 0
  · rw [mk_zero s h, rv_zero]
    by_cases hD : D = 0
    · have h0 : (lim D).length = 0 := by rw [hD, lim_zero]; rfl
      (try (simp only [go_sem, Nat.reduceEqDiff, Nat.reduceAdd, Nat.reduceSub, Nat.reduceMul, Nat.reduceLeDiff, Nat.reduceLT, reduceIte, reduceCtorEq, Nat.succ_ne_zero, elemsC, Int.reduceToNat, Nat.reducePow])); repeat ((first | (simp (disch := (first | omega | (simp only [AL, List.length_map]; omega))) only [AR, AL, ifT, ifF, take_all, List.length_cons, List.length_nil, Int.reduceToNat, Int.reducePow, Nat.reducePow]) | (refine wk_intro (by kernel_rfl) ?_) | (refine vp_draw (id := 1) (l := [7, 10]) (by kernel_rfl) ?_)); try (simp only [go_sem, Nat.reduceEqDiff, Nat.reduceAdd, Nat.reduceSub, Nat.reduceMul, Nat.reduceLeDiff, Nat.reduceLT, reduceIte, reduceCtorEq, Nat.succ_ne_zero, elemsC, Int.reduceToNat, Nat.reducePow]))
      rfl
    · have h0 : (lim N).length = 0 := by rw [h.resolve_right hD, lim_zero]; rfl
      have h1 := lim_pos hD
      (try (simp only [go_sem, Nat.reduceEqDiff, Nat.reduceAdd, Nat.reduceSub, Nat.reduceMul, Nat.reduceLeDiff, Nat.reduceLT, reduceIte, reduceCtorEq, Nat.succ_ne_zero, elemsC, Int.reduceToNat, Nat.reducePow])); repeat ((first | (simp (disch := (first | omega | (simp only [AL, List.length_map]; omega))) only [AR, AL, ifT, ifF, take_all, List.length_cons, List.length_nil, Int.reduceToNat, Int.reducePow, Nat.reducePow]) | (refine wk_intro (by kernel_rfl) ?_) | (refine vp_draw (id := 1) (l := [7, 10]) (by kernel_rfl) ?_)); try (simp only [go_sem, Nat.reduceEqDiff, Nat.reduceAdd, Nat.reduceSub, Nat.reduceMul, Nat.reduceLeDiff, Nat.reduceLT, reduceIte, reduceCtorEq, Nat.succ_ne_zero, elemsC, Int.reduceToNat, Nat.reducePow]))
      rfl
  · have hN : N ≠ 0 := fun e => h (.inl e)
    have hD : D ≠ 0 := fun e => h (.inr e)
    rw [mk_parts s hN hD]
    have h1 := lim_pos hN
    have h2 := lim_pos hD
    have hg : N.gcd D ≠ 0 := Nat.ne_of_gt (Nat.gcd_pos_of_pos_left _ (by omega))
    have h3 := lim_len_mono (Nat.gcd_le_left D (by omega : 0 < N))
    (try (simp only [go_sem, Nat.reduceEqDiff, Nat.reduceAdd, Nat.reduceSub, Nat.reduceMul, Nat.reduceLeDiff, Nat.reduceLT, reduceIte, reduceCtorEq, Nat.succ_ne_zero, elemsC, Int.reduceToNat, Nat.reducePow])); repeat ((first | (simp (disch := (first | omega | (simp only [AL, List.length_map]; omega))) only [AR, AL, ifT, ifF, take_all, List.length_cons, List.length_nil, Int.reduceToNat, Int.reducePow, Nat.reducePow]) | (refine wk_intro (by kernel_rfl) ?_) | (refine vp_draw (id := 1) (l := [7, 10]) (by kernel_rfl) ?_)); try (simp only [go_sem, Nat.reduceEqDiff, Nat.reduceAdd, Nat.reduceSub, Nat.reduceMul, Nat.reduceLeDiff, Nat.reduceLT, reduceIte, reduceCtorEq, Nat.succ_ne_zero, elemsC, Int.reduceToNat, Nat.reducePow]))
    refine vf_of (ref1_GcdL (by omega) (by omega)) ?_; (try (simp only [go_sem, Nat.reduceEqDiff, Nat.reduceAdd, Nat.reduceSub, Nat.reduceMul, Nat.reduceLeDiff, Nat.reduceLT, reduceIte, reduceCtorEq, Nat.succ_ne_zero, elemsC, Int.reduceToNat, Nat.reducePow])); repeat ((first | (simp (disch := (first | omega | (simp only [AL, List.length_map]; omega))) only [AR, AL, ifT, ifF, take_all, List.length_cons, List.length_nil, Int.reduceToNat, Int.reducePow, Nat.reducePow]) | (refine wk_intro (by kernel_rfl) ?_) | (refine vp_draw (id := 1) (l := [7, 10]) (by kernel_rfl) ?_)); try (simp only [go_sem, Nat.reduceEqDiff, Nat.reduceAdd, Nat.reduceSub, Nat.reduceMul, Nat.reduceLeDiff, Nat.reduceLT, reduceIte, reduceCtorEq, Nat.succ_ne_zero, elemsC, Int.reduceToNat, Nat.reducePow]))
    refine vf_of (ref1_DivL hg (by omega) (by omega)) ?_; (try (simp only [go_sem, Nat.reduceEqDiff, Nat.reduceAdd, Nat.reduceSub, Nat.reduceMul, Nat.reduceLeDiff, Nat.reduceLT, reduceIte, reduceCtorEq, Nat.succ_ne_zero, elemsC, Int.reduceToNat, Nat.reducePow])); repeat ((first | (simp (disch := (first | omega | (simp only [AL, List.length_map]; omega))) only [AR, AL, ifT, ifF, take_all, List.length_cons, List.length_nil, Int.reduceToNat, Int.reducePow, Nat.reducePow]) | (refine wk_intro (by kernel_rfl) ?_) | (refine vp_draw (id := 1) (l := [7, 10]) (by kernel_rfl) ?_)); try (simp only [go_sem, Nat.reduceEqDiff, Nat.reduceAdd, Nat.reduceSub, Nat.reduceMul, Nat.reduceLeDiff, Nat.reduceLT, reduceIte, reduceCtorEq, Nat.succ_ne_zero, elemsC, Int.reduceToNat, Nat.reducePow]))
    refine vf_of (ref1_DivL hg (by omega) (by omega)) ?_; (try (simp only [go_sem, Nat.reduceEqDiff, Nat.reduceAdd, Nat.reduceSub, Nat.reduceMul, Nat.reduceLeDiff, Nat.reduceLT, reduceIte, reduceCtorEq, Nat.succ_ne_zero, elemsC, Int.reduceToNat, Nat.reducePow])); repeat ((first | (simp (disch := (first | omega | (simp only [AL, List.length_map]; omega))) only [AR, AL, ifT, ifF, take_all, List.length_cons, List.length_nil, Int.reduceToNat, Int.reducePow, Nat.reducePow]) | (refine wk_intro (by kernel_rfl) ?_) | (refine vp_draw (id := 1) (l := [7, 10]) (by kernel_rfl) ?_)); try (simp only [go_sem, Nat.reduceEqDiff, Nat.reduceAdd, Nat.reduceSub, Nat.reduceMul, Nat.reduceLeDiff, Nat.reduceLT, reduceIte, reduceCtorEq, Nat.succ_ne_zero, elemsC, Int.reduceToNat, Nat.reducePow]))
theorem ref2_Of (s : Bool) (n d : List Nat) (hn : okL n) (hd : okL d) (hl : n.length ≤ 16777216) (hm : d.length ≤ 16777216) :
    Go.Ev.Fn CX 30 [.bool s, natV n, natV d] (rv (mkRat (sgn s (wth n)) (wth d))) := by
  have hN := ref2_Norm (v := ratV s n d) (L := 16777216) ⟨s, n, d, rfl, hn, hd, hl, hm, rfl⟩ (by omega)
  refine Go.Ev.Fn.intro (fn := Try.f30) (body := (Try.f30).body.get!) (by kernel_rfl) (by kernel_rfl) (by kernel_rfl) (fun _ => rfl) (Nat.le_of_ble_eq_true (by kernel_rfl)) ?_; unfold Try.f30; simp only [Option.get!_some]
  (try (simp only [go_sem, Nat.reduceEqDiff, Nat.reduceAdd, Nat.reduceSub, Nat.reduceMul, Nat.reduceLeDiff, Nat.reduceLT, reduceIte, reduceCtorEq, Nat.succ_ne_zero, elemsC, Int.reduceToNat, Nat.reducePow])); repeat ((first | (simp (disch := (first | omega | (simp only [AL, List.length_map]; omega))) only [AR, AL, ifT, ifF, take_all, List.length_cons, List.length_nil, Int.reduceToNat, Int.reducePow, Nat.reducePow]) | (refine wk_intro (by kernel_rfl) ?_)); try (simp only [go_sem, Nat.reduceEqDiff, Nat.reduceAdd, Nat.reduceSub, Nat.reduceMul, Nat.reduceLeDiff, Nat.reduceLT, reduceIte, reduceCtorEq, Nat.succ_ne_zero, elemsC, Int.reduceToNat, Nat.reducePow]))
  refine vf_of (hN) ?_; (try (simp only [go_sem, Nat.reduceEqDiff, Nat.reduceAdd, Nat.reduceSub, Nat.reduceMul, Nat.reduceLeDiff, Nat.reduceLT, reduceIte, reduceCtorEq, Nat.succ_ne_zero, elemsC, Int.reduceToNat, Nat.reducePow])); repeat ((first | (simp (disch := (first | omega | (simp only [AL, List.length_map]; omega))) only [AR, AL, ifT, ifF, take_all, List.length_cons, List.length_nil, Int.reduceToNat, Int.reducePow, Nat.reducePow]) | (refine wk_intro (by kernel_rfl) ?_)); try (simp only [go_sem, Nat.reduceEqDiff, Nat.reduceAdd, Nat.reduceSub, Nat.reduceMul, Nat.reduceLeDiff, Nat.reduceLT, reduceIte, reduceCtorEq, Nat.succ_ne_zero, elemsC, Int.reduceToNat, Nat.reducePow]))
theorem ref2_OfL {s : Bool} {n d : Nat} (hl : (lim n).length ≤ 16777216) (hm : (lim d).length ≤ 16777216) :
    Go.Ev.Fn CX 30 [.bool s, natV (lim n), natV (lim d)] (rv (mkRat (sgn s n) d)) := by
  have h := ref2_Of s (lim n) (lim d) (okL_lim _) (okL_lim _) hl hm
  rwa [wth_lim, wth_lim] at h
theorem ref2_Mul {v w : SV} {q r : Rat} {L M : Nat} (hv : RatA v q L) (hw : RatA w r M) (hL : 1 ≤ L) (hM : 1 ≤ M) (h : L + M ≤ 8388608) : Go.Ev.Fn CX 17 [v, w] (rv (q * r)) := by
  have hnv := ref2_Norm hv (by omega)
  have hnw := ref2_Norm hw (by omega)
  obtain ⟨z1, z2⟩ := szR_of hv hL
  obtain ⟨y1, y2⟩ := szR_of hw hM
  have g1 := lim_len_mul (a := q.num.natAbs) (b := r.num.natAbs)
  have g2 := lim_len_mul (a := q.den) (b := r.den)
  have hOf := ref2_OfL (s := !(decide (q.num < 0) == decide (r.num < 0))) (n := q.num.natAbs * r.num.natAbs) (d := q.den * r.den) (by omega) (by omega)
  rw [mul_parts] at hOf
  obtain ⟨s, n, d, rfl, -⟩ := hv
  obtain ⟨s', n', d', rfl, -⟩ := hw
  refine Go.Ev.Fn.intro (fn := Try.f17) (body := (Try.f17).body.get!) (by kernel_rfl) (by kernel_rfl) (by kernel_rfl) (fun _ => rfl) (Nat.le_of_ble_eq_true (by kernel_rfl)) ?_; unfold Try.f17; simp only [Option.get!_some]
  (try (simp only [go_sem, Nat.reduceEqDiff, Nat.reduceAdd, Nat.reduceSub, Nat.reduceMul, Nat.reduceLeDiff, Nat.reduceLT, reduceIte, reduceCtorEq, Nat.succ_ne_zero, elemsC, Int.reduceToNat, Nat.reducePow])); repeat ((first | (simp (disch := (first | omega | (simp only [AL, List.length_map]; omega))) only [AR, AL, ifT, ifF, take_all, List.length_cons, List.length_nil, Int.reduceToNat, Int.reducePow, Nat.reducePow]) | (refine wk_intro (by kernel_rfl) ?_) | (refine vp_draw (id := 1) (l := []) (by kernel_rfl) ?_) | (refine vp_draw (id := 2) (l := [17, 19, 22, 24, 20, 25]) (by kernel_rfl) ?_)); try (simp only [go_sem, Nat.reduceEqDiff, Nat.reduceAdd, Nat.reduceSub, Nat.reduceMul, Nat.reduceLeDiff, Nat.reduceLT, reduceIte, reduceCtorEq, Nat.succ_ne_zero, elemsC, Int.reduceToNat, Nat.reducePow]))
  refine vf_of (hnv) ?_; (try (simp only [go_sem, Nat.reduceEqDiff, Nat.reduceAdd, Nat.reduceSub, Nat.reduceMul, Nat.reduceLeDiff, Nat.reduceLT, reduceIte, reduceCtorEq, Nat.succ_ne_zero, elemsC, Int.reduceToNat, Nat.reducePow])); repeat ((first | (simp (disch := (first | omega | (simp only [AL, List.length_map]; omega))) only [AR, AL, ifT, ifF, take_all, List.length_cons, List.length_nil, Int.reduceToNat, Int.reducePow, Nat.reducePow]) | (refine wk_intro (by kernel_rfl) ?_) | (refine vp_draw (id := 1) (l := []) (by kernel_rfl) ?_) | (refine vp_draw (id := 2) (l := [17, 19, 22, 24, 20, 25]) (by kernel_rfl) ?_)); try (simp only [go_sem, Nat.reduceEqDiff, Nat.reduceAdd, Nat.reduceSub, Nat.reduceMul, Nat.reduceLeDiff, Nat.reduceLT, reduceIte, reduceCtorEq, Nat.succ_ne_zero, elemsC, Int.reduceToNat, Nat.reducePow]))
  refine vf_of (hnw) ?_; (try (simp only [go_sem, Nat.reduceEqDiff, Nat.reduceAdd, Nat.reduceSub, Nat.reduceMul, Nat.reduceLeDiff, Nat.reduceLT, reduceIte, reduceCtorEq, Nat.succ_ne_zero, elemsC, Int.reduceToNat, Nat.reducePow])); repeat ((first | (simp (disch := (first | omega | (simp only [AL, List.length_map]; omega))) only [AR, AL, ifT, ifF, take_all, List.length_cons, List.length_nil, Int.reduceToNat, Int.reducePow, Nat.reducePow]) | (refine wk_intro (by kernel_rfl) ?_) | (refine vp_draw (id := 1) (l := []) (by kernel_rfl) ?_) | (refine vp_draw (id := 2) (l := [17, 19, 22, 24, 20, 25]) (by kernel_rfl) ?_)); try (simp only [go_sem, Nat.reduceEqDiff, Nat.reduceAdd, Nat.reduceSub, Nat.reduceMul, Nat.reduceLeDiff, Nat.reduceLT, reduceIte, reduceCtorEq, Nat.succ_ne_zero, elemsC, Int.reduceToNat, Nat.reducePow]))
  refine vf_of (ref1_MulL (by omega) (by omega)) ?_; (try (simp only [go_sem, Nat.reduceEqDiff, Nat.reduceAdd, Nat.reduceSub, Nat.reduceMul, Nat.reduceLeDiff, Nat.reduceLT, reduceIte, reduceCtorEq, Nat.succ_ne_zero, elemsC, Int.reduceToNat, Nat.reducePow])); repeat ((first | (simp (disch := (first | omega | (simp only [AL, List.length_map]; omega))) only [AR, AL, ifT, ifF, take_all, List.length_cons, List.length_nil, Int.reduceToNat, Int.reducePow, Nat.reducePow]) | (refine wk_intro (by kernel_rfl) ?_) | (refine vp_draw (id := 1) (l := []) (by kernel_rfl) ?_) | (refine vp_draw (id := 2) (l := [17, 19, 22, 24, 20, 25]) (by kernel_rfl) ?_)); try (simp only [go_sem, Nat.reduceEqDiff, Nat.reduceAdd, Nat.reduceSub, Nat.reduceMul, Nat.reduceLeDiff, Nat.reduceLT, reduceIte, reduceCtorEq, Nat.succ_ne_zero, elemsC, Int.reduceToNat, Nat.reducePow]))
  refine vf_of (ref1_MulL (by omega) (by omega)) ?_; (try (simp only [go_sem, Nat.reduceEqDiff, Nat.reduceAdd, Nat.reduceSub, Nat.reduceMul, Nat.reduceLeDiff, Nat.reduceLT, reduceIte, reduceCtorEq, Nat.succ_ne_zero, elemsC, Int.reduceToNat, Nat.reducePow])); repeat ((first | (simp (disch := (first | omega | (simp only [AL, List.length_map]; omega))) only [AR, AL, ifT, ifF, take_all, List.length_cons, List.length_nil, Int.reduceToNat, Int.reducePow, Nat.reducePow]) | (refine wk_intro (by kernel_rfl) ?_) | (refine vp_draw (id := 1) (l := []) (by kernel_rfl) ?_) | (refine vp_draw (id := 2) (l := [17, 19, 22, 24, 20, 25]) (by kernel_rfl) ?_)); try (simp only [go_sem, Nat.reduceEqDiff, Nat.reduceAdd, Nat.reduceSub, Nat.reduceMul, Nat.reduceLeDiff, Nat.reduceLT, reduceIte, reduceCtorEq, Nat.succ_ne_zero, elemsC, Int.reduceToNat, Nat.reducePow]))
  refine vf_of (hOf) ?_; (try (simp only [go_sem, Nat.reduceEqDiff, Nat.reduceAdd, Nat.reduceSub, Nat.reduceMul, Nat.reduceLeDiff, Nat.reduceLT, reduceIte, reduceCtorEq, Nat.succ_ne_zero, elemsC, Int.reduceToNat, Nat.reducePow])); repeat ((first | (simp (disch := (first | omega | (simp only [AL, List.length_map]; omega))) only [AR, AL, ifT, ifF, take_all, List.length_cons, List.length_nil, Int.reduceToNat, Int.reducePow, Nat.reducePow]) | (refine wk_intro (by kernel_rfl) ?_) | (refine vp_draw (id := 1) (l := []) (by kernel_rfl) ?_) | (refine vp_draw (id := 2) (l := [17, 19, 22, 24, 20, 25]) (by kernel_rfl) ?_)); try (simp only [go_sem, Nat.reduceEqDiff, Nat.reduceAdd, Nat.reduceSub, Nat.reduceMul, Nat.reduceLeDiff, Nat.reduceLT, reduceIte, reduceCtorEq, Nat.succ_ne_zero, elemsC, Int.reduceToNat, Nat.reducePow]))
theorem ref2_limbs (a b : List Nat) (ha : a.length ≤ 274877906944) (hb : b.length ≤ 274877906944) : Go.Ev.Fn CX 40 [natV a, natV b] (.bool (decide (a = b))) := by
  refine Go.Ev.Fn.intro (fn := Try.f40) (body := (Try.f40).body.get!) (by kernel_rfl) (by kernel_rfl) (by kernel_rfl) (fun _ => rfl) (Nat.le_of_ble_eq_true (by kernel_rfl)) ?_; unfold Try.f40; simp only [Option.get!_some]
  by_cases hl : a.length = b.length
  · (try (simp only [go_sem, Nat.reduceEqDiff, Nat.reduceAdd, Nat.reduceSub, Nat.reduceMul, Nat.reduceLeDiff, Nat.reduceLT, reduceIte, reduceCtorEq, Nat.succ_ne_zero, elemsC, Int.reduceToNat, Nat.reducePow])); repeat ((first | (simp (disch := (first | omega | (simp only [AL, List.length_map]; omega))) only [AR, AL, ifT, ifF, take_all, List.length_cons, List.length_nil, Int.reduceToNat, Int.reducePow, Nat.reducePow]) | (refine wk_intro (by kernel_rfl) ?_) | (refine vp_draw (id := 6) (l := []) (by kernel_rfl) ?_)); try (simp only [go_sem, Nat.reduceEqDiff, Nat.reduceAdd, Nat.reduceSub, Nat.reduceMul, Nat.reduceLeDiff, Nat.reduceLT, reduceIte, reduceCtorEq, Nat.succ_ne_zero, elemsC, Int.reduceToNat, Nat.reducePow]))
    refine vp_loop_inv (fun s => s.tmp 0 = .sv (natV a) ∧ s.tmp 1 = .sv (natV b) ∧ ∃ i : Nat, s.tmp 5 = .sv (.int .i64 i) ∧ i ≤ a.length ∧ a.take i = b.take i) (fun s => match s.tmp 5 with | .sv (.int _ i) => a.length - i.toNat | _ => 0) ⟨rfl, rfl, 0, rfl, by omega, rfl⟩ ?_
    rintro s ⟨i0, i1, i, i5, hi, ht⟩
    by_cases hend : i = a.length
    · subst hend
      rw [List.take_length, hl, List.take_length] at ht
      rw [decide_eq_true ht]
      (try (simp only [go_sem, Nat.reduceEqDiff, Nat.reduceAdd, Nat.reduceSub, Nat.reduceMul, Nat.reduceLeDiff, Nat.reduceLT, reduceIte, reduceCtorEq, Nat.succ_ne_zero, elemsC, Int.reduceToNat, Nat.reducePow, i0, i1, i5])); repeat ((first | (simp (disch := (first | omega | (simp only [AL, List.length_map]; omega))) only [AR, AL, ifT, ifF, take_all, List.length_cons, List.length_nil, Int.reduceToNat, Int.reducePow, Nat.reducePow, i0, i1, i5]) | (refine wk_intro (by kernel_rfl) ?_) | (refine vp_draw (id := 6) (l := []) (by kernel_rfl) ?_)); try (simp only [go_sem, Nat.reduceEqDiff, Nat.reduceAdd, Nat.reduceSub, Nat.reduceMul, Nat.reduceLeDiff, Nat.reduceLT, reduceIte, reduceCtorEq, Nat.succ_ne_zero, elemsC, Int.reduceToNat, Nat.reducePow, i0, i1, i5]))
    · have e : ∀ c : List Nat, i < c.length → c.take (i + 1) = c.take i ++ [c.getD i 0] := by
        intro c hc
        rw [List.take_add_one, List.getD_eq_getElem?_getD, List.getElem?_eq_getElem hc]
        rfl
      by_cases hx : a.getD i 0 = b.getD i 0
      · (try (simp only [go_sem, Nat.reduceEqDiff, Nat.reduceAdd, Nat.reduceSub, Nat.reduceMul, Nat.reduceLeDiff, Nat.reduceLT, reduceIte, reduceCtorEq, Nat.succ_ne_zero, elemsC, Int.reduceToNat, Nat.reducePow, i0, i1, i5])); repeat ((first | (simp (disch := (first | omega | (simp only [AL, List.length_map]; omega))) only [AR, AL, ifT, ifF, take_all, List.length_cons, List.length_nil, Int.reduceToNat, Int.reducePow, Nat.reducePow, i0, i1, i5]) | (refine wk_intro (by kernel_rfl) ?_) | (refine vp_draw (id := 6) (l := []) (by kernel_rfl) ?_)); try (simp only [go_sem, Nat.reduceEqDiff, Nat.reduceAdd, Nat.reduceSub, Nat.reduceMul, Nat.reduceLeDiff, Nat.reduceLT, reduceIte, reduceCtorEq, Nat.succ_ne_zero, elemsC, Int.reduceToNat, Nat.reducePow, i0, i1, i5]))
        exact ⟨⟨i + 1, rfl, by omega, by rw [e a (by omega), e b (by omega), ht, hx]⟩, by omega⟩
      · rw [decide_eq_false (fun h => hx (by rw [h]))]
        (try (simp only [go_sem, Nat.reduceEqDiff, Nat.reduceAdd, Nat.reduceSub, Nat.reduceMul, Nat.reduceLeDiff, Nat.reduceLT, reduceIte, reduceCtorEq, Nat.succ_ne_zero, elemsC, Int.reduceToNat, Nat.reducePow, i0, i1, i5])); repeat ((first | (simp (disch := (first | omega | (simp only [AL, List.length_map]; omega))) only [AR, AL, ifT, ifF, take_all, List.length_cons, List.length_nil, Int.reduceToNat, Int.reducePow, Nat.reducePow, i0, i1, i5]) | (refine wk_intro (by kernel_rfl) ?_) | (refine vp_draw (id := 6) (l := []) (by kernel_rfl) ?_)); try (simp only [go_sem, Nat.reduceEqDiff, Nat.reduceAdd, Nat.reduceSub, Nat.reduceMul, Nat.reduceLeDiff, Nat.reduceLT, reduceIte, reduceCtorEq, Nat.succ_ne_zero, elemsC, Int.reduceToNat, Nat.reducePow, i0, i1, i5]))
  · rw [decide_eq_false (fun h => hl (by rw [h]))]
    (try (simp only [go_sem, Nat.reduceEqDiff, Nat.reduceAdd, Nat.reduceSub, Nat.reduceMul, Nat.reduceLeDiff, Nat.reduceLT, reduceIte, reduceCtorEq, Nat.succ_ne_zero, elemsC, Int.reduceToNat, Nat.reducePow])); repeat ((first | (simp (disch := (first | omega | (simp only [AL, List.length_map]; omega))) only [AR, AL, ifT, ifF, take_all, List.length_cons, List.length_nil, Int.reduceToNat, Int.reducePow, Nat.reducePow]) | (refine wk_intro (by kernel_rfl) ?_) | (refine vp_draw (id := 6) (l := []) (by kernel_rfl) ?_)); try (simp only [go_sem, Nat.reduceEqDiff, Nat.reduceAdd, Nat.reduceSub, Nat.reduceMul, Nat.reduceLeDiff, Nat.reduceLT, reduceIte, reduceCtorEq, Nat.succ_ne_zero, elemsC, Int.reduceToNat, Nat.reducePow]))
theorem rv_eq {q r : Rat} (h1 : decide (q.num < 0) = decide (r.num < 0)) (h2 : lim q.num.natAbs = lim r.num.natAbs) (h3 : lim q.den = lim r.den) : q = r := by
  have h4 := lim_inj h2
  have h5 := lim_inj h3
  refine Rat.ext ?_ h5
  by_cases h : q.num < 0
  · rw [decide_eq_true h] at h1
    have := of_decide_eq_true h1.symm
    omega
  · rw [decide_eq_false h] at h1
    have := of_decide_eq_false h1.symm
    omega
theorem ref2_Same {v w : SV} {q r : Rat} {L M : Nat} (hv : RatA v q L) (hw : RatA w r M) (hL : 1 ≤ L) (hM : 1 ≤ M) (h : L + M ≤ 8388608) : Go.Ev.Fn CX 20 [v, w] (.bool (decide (q = r))) := by
  have hnv := ref2_Norm hv (by omega)
  have hnw := ref2_Norm hw (by omega)
  obtain ⟨z1, z2⟩ := szR_of hv hL
  obtain ⟨y1, y2⟩ := szR_of hw hM
  have l1 := ref2_limbs (lim q.num.natAbs) (lim r.num.natAbs) (by omega) (by omega)
  have l2 := ref2_limbs (lim q.den) (lim r.den) (by omega) (by omega)
  have hbb := beq_bool (decide (q.num < 0)) (decide (r.num < 0))
  obtain ⟨s, n, d, rfl, -⟩ := hv
  obtain ⟨s', n', d', rfl, -⟩ := hw
  refine Go.Ev.Fn.intro (fn := Try.f20) (body := (Try.f20).body.get!) (by kernel_rfl) (by kernel_rfl) (by kernel_rfl) (fun _ => rfl) (Nat.le_of_ble_eq_true (by kernel_rfl)) ?_; unfold Try.f20; simp only [Option.get!_some]
  (try (simp only [go_sem, Nat.reduceEqDiff, Nat.reduceAdd, Nat.reduceSub, Nat.reduceMul, Nat.reduceLeDiff, Nat.reduceLT, reduceIte, reduceCtorEq, Nat.succ_ne_zero, elemsC, Int.reduceToNat, Nat.reducePow])); repeat ((first | (simp (disch := (first | omega | (simp only [AL, List.length_map]; omega))) only [AR, AL, ifT, ifF, take_all, List.length_cons, List.length_nil, Int.reduceToNat, Int.reducePow, Nat.reducePow]) | (refine wk_intro (by kernel_rfl) ?_) | (refine vp_draw (id := 1) (l := []) (by kernel_rfl) ?_)); try (simp only [go_sem, Nat.reduceEqDiff, Nat.reduceAdd, Nat.reduceSub, Nat.reduceMul, Nat.reduceLeDiff, Nat.reduceLT, reduceIte, reduceCtorEq, Nat.succ_ne_zero, elemsC, Int.reduceToNat, Nat.reducePow]))
  refine vf_of (hnv) ?_; (try (simp only [go_sem, Nat.reduceEqDiff, Nat.reduceAdd, Nat.reduceSub, Nat.reduceMul, Nat.reduceLeDiff, Nat.reduceLT, reduceIte, reduceCtorEq, Nat.succ_ne_zero, elemsC, Int.reduceToNat, Nat.reducePow])); repeat ((first | (simp (disch := (first | omega | (simp only [AL, List.length_map]; omega))) only [AR, AL, ifT, ifF, take_all, List.length_cons, List.length_nil, Int.reduceToNat, Int.reducePow, Nat.reducePow]) | (refine wk_intro (by kernel_rfl) ?_) | (refine vp_draw (id := 1) (l := []) (by kernel_rfl) ?_)); try (simp only [go_sem, Nat.reduceEqDiff, Nat.reduceAdd, Nat.reduceSub, Nat.reduceMul, Nat.reduceLeDiff, Nat.reduceLT, reduceIte, reduceCtorEq, Nat.succ_ne_zero, elemsC, Int.reduceToNat, Nat.reducePow]))
  refine vf_of (hnw) ?_; (try (simp only [go_sem, Nat.reduceEqDiff, Nat.reduceAdd, Nat.reduceSub, Nat.reduceMul, Nat.reduceLeDiff, Nat.reduceLT, reduceIte, reduceCtorEq, Nat.succ_ne_zero, elemsC, Int.reduceToNat, Nat.reducePow, hbb])); repeat ((first | (simp (disch := (first | omega | (simp only [AL, List.length_map]; omega))) only [AR, AL, ifT, ifF, take_all, List.length_cons, List.length_nil, Int.reduceToNat, Int.reducePow, Nat.reducePow, hbb]) | (refine wk_intro (by kernel_rfl) ?_) | (refine vp_draw (id := 1) (l := []) (by kernel_rfl) ?_)); try (simp only [go_sem, Nat.reduceEqDiff, Nat.reduceAdd, Nat.reduceSub, Nat.reduceMul, Nat.reduceLeDiff, Nat.reduceLT, reduceIte, reduceCtorEq, Nat.succ_ne_zero, elemsC, Int.reduceToNat, Nat.reducePow, hbb]))
  by_cases h1 : decide (q.num < 0) = decide (r.num < 0)
  · rw [decide_eq_true h1]
    by_cases h2 : lim q.num.natAbs = lim r.num.natAbs
    · rw [decide_eq_true h2] at l1
      (try (simp only [go_sem, Nat.reduceEqDiff, Nat.reduceAdd, Nat.reduceSub, Nat.reduceMul, Nat.reduceLeDiff, Nat.reduceLT, reduceIte, reduceCtorEq, Nat.succ_ne_zero, elemsC, Int.reduceToNat, Nat.reducePow])); repeat ((first | (simp (disch := (first | omega | (simp only [AL, List.length_map]; omega))) only [AR, AL, ifT, ifF, take_all, List.length_cons, List.length_nil, Int.reduceToNat, Int.reducePow, Nat.reducePow]) | (refine wk_intro (by kernel_rfl) ?_) | (refine vp_draw (id := 1) (l := []) (by kernel_rfl) ?_)); try (simp only [go_sem, Nat.reduceEqDiff, Nat.reduceAdd, Nat.reduceSub, Nat.reduceMul, Nat.reduceLeDiff, Nat.reduceLT, reduceIte, reduceCtorEq, Nat.succ_ne_zero, elemsC, Int.reduceToNat, Nat.reducePow]))
      have e : decide (lim q.den = lim r.den) = decide (q = r) := by
        by_cases h3 : lim q.den = lim r.den
        · rw [decide_eq_true h3, decide_eq_true (rv_eq h1 h2 h3)]
        · rw [decide_eq_false h3, decide_eq_false (fun e => h3 (by rw [e]))]
      rw [e] at l2
      (try (simp only [go_sem, Nat.reduceEqDiff, Nat.reduceAdd, Nat.reduceSub, Nat.reduceMul, Nat.reduceLeDiff, Nat.reduceLT, reduceIte, reduceCtorEq, Nat.succ_ne_zero, elemsC, Int.reduceToNat, Nat.reducePow])); repeat ((first | (simp (disch := (first | omega | (simp only [AL, List.length_map]; omega))) only [AR, AL, ifT, ifF, take_all, List.length_cons, List.length_nil, Int.reduceToNat, Int.reducePow, Nat.reducePow]) | (refine wk_intro (by kernel_rfl) ?_) | (refine vp_draw (id := 1) (l := []) (by kernel_rfl) ?_)); try (simp only [go_sem, Nat.reduceEqDiff, Nat.reduceAdd, Nat.reduceSub, Nat.reduceMul, Nat.reduceLeDiff, Nat.reduceLT, reduceIte, reduceCtorEq, Nat.succ_ne_zero, elemsC, Int.reduceToNat, Nat.reducePow]))
      refine vf_of (l1) ?_; (try (simp only [go_sem, Nat.reduceEqDiff, Nat.reduceAdd, Nat.reduceSub, Nat.reduceMul, Nat.reduceLeDiff, Nat.reduceLT, reduceIte, reduceCtorEq, Nat.succ_ne_zero, elemsC, Int.reduceToNat, Nat.reducePow])); repeat ((first | (simp (disch := (first | omega | (simp only [AL, List.length_map]; omega))) only [AR, AL, ifT, ifF, take_all, List.length_cons, List.length_nil, Int.reduceToNat, Int.reducePow, Nat.reducePow]) | (refine wk_intro (by kernel_rfl) ?_) | (refine vp_draw (id := 1) (l := []) (by kernel_rfl) ?_)); try (simp only [go_sem, Nat.reduceEqDiff, Nat.reduceAdd, Nat.reduceSub, Nat.reduceMul, Nat.reduceLeDiff, Nat.reduceLT, reduceIte, reduceCtorEq, Nat.succ_ne_zero, elemsC, Int.reduceToNat, Nat.reducePow]))
      refine vf_of (l2) ?_; (try (simp only [go_sem, Nat.reduceEqDiff, Nat.reduceAdd, Nat.reduceSub, Nat.reduceMul, Nat.reduceLeDiff, Nat.reduceLT, reduceIte, reduceCtorEq, Nat.succ_ne_zero, elemsC, Int.reduceToNat, Nat.reducePow])); repeat ((first | (simp (disch := (first | omega | (simp only [AL, List.length_map]; omega))) only [AR, AL, ifT, ifF, take_all, List.length_cons, List.length_nil, Int.reduceToNat, Int.reducePow, Nat.reducePow]) | (refine wk_intro (by kernel_rfl) ?_) | (refine vp_draw (id := 1) (l := []) (by kernel_rfl) ?_)); try (simp only [go_sem, Nat.reduceEqDiff, Nat.reduceAdd, Nat.reduceSub, Nat.reduceMul, Nat.reduceLeDiff, Nat.reduceLT, reduceIte, reduceCtorEq, Nat.succ_ne_zero, elemsC, Int.reduceToNat, Nat.reducePow]))
    · rw [decide_eq_false h2] at l1
      have hne : q ≠ r := fun e => h2 (by rw [e])
      rw [decide_eq_false hne]
      (try (simp only [go_sem, Nat.reduceEqDiff, Nat.reduceAdd, Nat.reduceSub, Nat.reduceMul, Nat.reduceLeDiff, Nat.reduceLT, reduceIte, reduceCtorEq, Nat.succ_ne_zero, elemsC, Int.reduceToNat, Nat.reducePow])); repeat ((first | (simp (disch := (first | omega | (simp only [AL, List.length_map]; omega))) only [AR, AL, ifT, ifF, take_all, List.length_cons, List.length_nil, Int.reduceToNat, Int.reducePow, Nat.reducePow]) | (refine wk_intro (by kernel_rfl) ?_) | (refine vp_draw (id := 1) (l := []) (by kernel_rfl) ?_)); try (simp only [go_sem, Nat.reduceEqDiff, Nat.reduceAdd, Nat.reduceSub, Nat.reduceMul, Nat.reduceLeDiff, Nat.reduceLT, reduceIte, reduceCtorEq, Nat.succ_ne_zero, elemsC, Int.reduceToNat, Nat.reducePow]))
      refine vf_of (l1) ?_; (try (simp only [go_sem, Nat.reduceEqDiff, Nat.reduceAdd, Nat.reduceSub, Nat.reduceMul, Nat.reduceLeDiff, Nat.reduceLT, reduceIte, reduceCtorEq, Nat.succ_ne_zero, elemsC, Int.reduceToNat, Nat.reducePow])); repeat ((first | (simp (disch := (first | omega | (simp only [AL, List.length_map]; omega))) only [AR, AL, ifT, ifF, take_all, List.length_cons, List.length_nil, Int.reduceToNat, Int.reducePow, Nat.reducePow]) | (refine wk_intro (by kernel_rfl) ?_) | (refine vp_draw (id := 1) (l := []) (by kernel_rfl) ?_)); try (simp only [go_sem, Nat.reduceEqDiff, Nat.reduceAdd, Nat.reduceSub, Nat.reduceMul, Nat.reduceLeDiff, Nat.reduceLT, reduceIte, reduceCtorEq, Nat.succ_ne_zero, elemsC, Int.reduceToNat, Nat.reducePow]))
  · have hne : q ≠ r := fun e => h1 (by rw [e])
    rw [decide_eq_false h1, decide_eq_false hne]
    (try (simp only [go_sem, Nat.reduceEqDiff, Nat.reduceAdd, Nat.reduceSub, Nat.reduceMul, Nat.reduceLeDiff, Nat.reduceLT, reduceIte, reduceCtorEq, Nat.succ_ne_zero, elemsC, Int.reduceToNat, Nat.reducePow])); repeat ((first | (simp (disch := (first | omega | (simp only [AL, List.length_map]; omega))) only [AR, AL, ifT, ifF, take_all, List.length_cons, List.length_nil, Int.reduceToNat, Int.reducePow, Nat.reducePow]) | (refine wk_intro (by kernel_rfl) ?_) | (refine vp_draw (id := 1) (l := []) (by kernel_rfl) ?_)); try (simp only [go_sem, Nat.reduceEqDiff, Nat.reduceAdd, Nat.reduceSub, Nat.reduceMul, Nat.reduceLeDiff, Nat.reduceLT, reduceIte, reduceCtorEq, Nat.succ_ne_zero, elemsC, Int.reduceToNat, Nat.reducePow]))
theorem ref2_Int (n : Int) (h : -9223372036854775808 ≤ n ∧ n < 9223372036854775808) : Go.Ev.Fn CX 22 [.int .i64 n] (rv (n : Rat)) := by
  have oN := ref1_Of n.natAbs (by omega)
  have e1 := int_u64 h
  have hl := lim_two (v := n.natAbs) |>.2 (by omega)
  have hOf := ref2_OfL (s := decide (n < 0)) (n := n.natAbs) (d := 1) (by omega) (by rw [lim_one]; simp)
  rw [lim_one, sgn_self, show mkRat n 1 = (n : Rat) from Rat.mkRat_one n] at hOf
  refine Go.Ev.Fn.intro (fn := Try.f22) (body := (Try.f22).body.get!) (by kernel_rfl) (by kernel_rfl) (by kernel_rfl) (fun _ => rfl) (Nat.le_of_ble_eq_true (by kernel_rfl)) ?_; unfold Try.f22; simp only [Option.get!_some]
  by_cases h0 : n < 0
  · rw [if_pos h0] at e1
    rw [decide_eq_true h0] at hOf
    have e2 : IntKind.u64.wrap (0 - ((18446744073709551616 - n.natAbs : Nat) : Int)) = (n.natAbs : Int) := by rw [IntKind.wrap_u64]; omega
    (try (simp only [go_sem, Nat.reduceEqDiff, Nat.reduceAdd, Nat.reduceSub, Nat.reduceMul, Nat.reduceLeDiff, Nat.reduceLT, reduceIte, reduceCtorEq, Nat.succ_ne_zero, elemsC, Int.reduceToNat, Nat.reducePow, e1, e2])); repeat ((first | (simp (disch := (first | omega | (simp only [AL, List.length_map]; omega))) only [AR, AL, ifT, ifF, take_all, List.length_cons, List.length_nil, Int.reduceToNat, Int.reducePow, Nat.reducePow, e1, e2]) | (refine wk_intro (by kernel_rfl) ?_)); try (simp only [go_sem, Nat.reduceEqDiff, Nat.reduceAdd, Nat.reduceSub, Nat.reduceMul, Nat.reduceLeDiff, Nat.reduceLT, reduceIte, reduceCtorEq, Nat.succ_ne_zero, elemsC, Int.reduceToNat, Nat.reducePow, e1, e2]))
    refine vf_of (oN) ?_; (try (simp only [go_sem, Nat.reduceEqDiff, Nat.reduceAdd, Nat.reduceSub, Nat.reduceMul, Nat.reduceLeDiff, Nat.reduceLT, reduceIte, reduceCtorEq, Nat.succ_ne_zero, elemsC, Int.reduceToNat, Nat.reducePow])); repeat ((first | (simp (disch := (first | omega | (simp only [AL, List.length_map]; omega))) only [AR, AL, ifT, ifF, take_all, List.length_cons, List.length_nil, Int.reduceToNat, Int.reducePow, Nat.reducePow]) | (refine wk_intro (by kernel_rfl) ?_)); try (simp only [go_sem, Nat.reduceEqDiff, Nat.reduceAdd, Nat.reduceSub, Nat.reduceMul, Nat.reduceLeDiff, Nat.reduceLT, reduceIte, reduceCtorEq, Nat.succ_ne_zero, elemsC, Int.reduceToNat, Nat.reducePow]))
    refine vf_of (hOf) ?_; (try (simp only [go_sem, Nat.reduceEqDiff, Nat.reduceAdd, Nat.reduceSub, Nat.reduceMul, Nat.reduceLeDiff, Nat.reduceLT, reduceIte, reduceCtorEq, Nat.succ_ne_zero, elemsC, Int.reduceToNat, Nat.reducePow])); repeat ((first | (simp (disch := (first | omega | (simp only [AL, List.length_map]; omega))) only [AR, AL, ifT, ifF, take_all, List.length_cons, List.length_nil, Int.reduceToNat, Int.reducePow, Nat.reducePow]) | (refine wk_intro (by kernel_rfl) ?_)); try (simp only [go_sem, Nat.reduceEqDiff, Nat.reduceAdd, Nat.reduceSub, Nat.reduceMul, Nat.reduceLeDiff, Nat.reduceLT, reduceIte, reduceCtorEq, Nat.succ_ne_zero, elemsC, Int.reduceToNat, Nat.reducePow]))
  · rw [if_neg h0] at e1
    rw [decide_eq_false h0] at hOf
    (try (simp only [go_sem, Nat.reduceEqDiff, Nat.reduceAdd, Nat.reduceSub, Nat.reduceMul, Nat.reduceLeDiff, Nat.reduceLT, reduceIte, reduceCtorEq, Nat.succ_ne_zero, elemsC, Int.reduceToNat, Nat.reducePow, e1])); repeat ((first | (simp (disch := (first | omega | (simp only [AL, List.length_map]; omega))) only [AR, AL, ifT, ifF, take_all, List.length_cons, List.length_nil, Int.reduceToNat, Int.reducePow, Nat.reducePow, e1]) | (refine wk_intro (by kernel_rfl) ?_)); try (simp only [go_sem, Nat.reduceEqDiff, Nat.reduceAdd, Nat.reduceSub, Nat.reduceMul, Nat.reduceLeDiff, Nat.reduceLT, reduceIte, reduceCtorEq, Nat.succ_ne_zero, elemsC, Int.reduceToNat, Nat.reducePow, e1]))
    refine vf_of (oN) ?_; (try (simp only [go_sem, Nat.reduceEqDiff, Nat.reduceAdd, Nat.reduceSub, Nat.reduceMul, Nat.reduceLeDiff, Nat.reduceLT, reduceIte, reduceCtorEq, Nat.succ_ne_zero, elemsC, Int.reduceToNat, Nat.reducePow])); repeat ((first | (simp (disch := (first | omega | (simp only [AL, List.length_map]; omega))) only [AR, AL, ifT, ifF, take_all, List.length_cons, List.length_nil, Int.reduceToNat, Int.reducePow, Nat.reducePow]) | (refine wk_intro (by kernel_rfl) ?_)); try (simp only [go_sem, Nat.reduceEqDiff, Nat.reduceAdd, Nat.reduceSub, Nat.reduceMul, Nat.reduceLeDiff, Nat.reduceLT, reduceIte, reduceCtorEq, Nat.succ_ne_zero, elemsC, Int.reduceToNat, Nat.reducePow]))
    refine vf_of (hOf) ?_; (try (simp only [go_sem, Nat.reduceEqDiff, Nat.reduceAdd, Nat.reduceSub, Nat.reduceMul, Nat.reduceLeDiff, Nat.reduceLT, reduceIte, reduceCtorEq, Nat.succ_ne_zero, elemsC, Int.reduceToNat, Nat.reducePow])); repeat ((first | (simp (disch := (first | omega | (simp only [AL, List.length_map]; omega))) only [AR, AL, ifT, ifF, take_all, List.length_cons, List.length_nil, Int.reduceToNat, Int.reducePow, Nat.reducePow]) | (refine wk_intro (by kernel_rfl) ?_)); try (simp only [go_sem, Nat.reduceEqDiff, Nat.reduceAdd, Nat.reduceSub, Nat.reduceMul, Nat.reduceLeDiff, Nat.reduceLT, reduceIte, reduceCtorEq, Nat.succ_ne_zero, elemsC, Int.reduceToNat, Nat.reducePow]))
theorem ref2_Add {v w : SV} {q r : Rat} {L M : Nat} (hv : RatA v q L) (hw : RatA w r M) (hL : 1 ≤ L) (hM : 1 ≤ M) (h : L + M ≤ 8388608) : Go.Ev.Fn CX 16 [v, w] (rv (q + r)) := by
  have hnv := ref2_Norm hv (by omega)
  have hnw := ref2_Norm hw (by omega)
  obtain ⟨z1, z2⟩ := szR_of hv hL
  obtain ⟨y1, y2⟩ := szR_of hw hM
  have g1 := lim_len_mul (a := q.num.natAbs) (b := r.den)
  have g2 := lim_len_mul (a := r.num.natAbs) (b := q.den)
  have g3 := lim_len_mul (a := q.den) (b := r.den)
  have g4 := lim_len_add2 (a := q.num.natAbs * r.den) (b := r.num.natAbs * q.den) (L := L + M) (by omega) (by omega)
  have g5 := lim_len_mono (Nat.sub_le (q.num.natAbs * r.den) (r.num.natAbs * q.den))
  have g6 := lim_len_mono (Nat.sub_le (r.num.natAbs * q.den) (q.num.natAbs * r.den))
  obtain ⟨s, n, d, rfl, -⟩ := hv
  obtain ⟨s', n', d', rfl, -⟩ := hw
  have hbb := beq_bool (decide (q.num < 0)) (decide (r.num < 0))
  refine Go.Ev.Fn.intro (fn := Try.f16) (body := (Try.f16).body.get!) (by kernel_rfl) (by kernel_rfl) (by kernel_rfl) (fun _ => rfl) (Nat.le_of_ble_eq_true (by kernel_rfl)) ?_; unfold Try.f16; simp only [Option.get!_some]
  (try (simp only [go_sem, Nat.reduceEqDiff, Nat.reduceAdd, Nat.reduceSub, Nat.reduceMul, Nat.reduceLeDiff, Nat.reduceLT, reduceIte, reduceCtorEq, Nat.succ_ne_zero, elemsC, Int.reduceToNat, Nat.reducePow])); repeat ((first | (simp (disch := (first | omega | (simp only [AL, List.length_map]; omega))) only [AR, AL, ifT, ifF, take_all, List.length_cons, List.length_nil, Int.reduceToNat, Int.reducePow, Nat.reducePow]) | (refine wk_intro (by kernel_rfl) ?_) | (refine vp_draw (id := 1) (l := []) (by kernel_rfl) ?_) | (refine vp_draw (id := 2) (l := [19, 21, 24, 26]) (by kernel_rfl) ?_) | (refine vp_draw (id := 5) (l := [7, 8, 42, 9]) (by kernel_rfl) ?_)); try (simp only [go_sem, Nat.reduceEqDiff, Nat.reduceAdd, Nat.reduceSub, Nat.reduceMul, Nat.reduceLeDiff, Nat.reduceLT, reduceIte, reduceCtorEq, Nat.succ_ne_zero, elemsC, Int.reduceToNat, Nat.reducePow]))
  refine vf_of (hnv) ?_; (try (simp only [go_sem, Nat.reduceEqDiff, Nat.reduceAdd, Nat.reduceSub, Nat.reduceMul, Nat.reduceLeDiff, Nat.reduceLT, reduceIte, reduceCtorEq, Nat.succ_ne_zero, elemsC, Int.reduceToNat, Nat.reducePow])); repeat ((first | (simp (disch := (first | omega | (simp only [AL, List.length_map]; omega))) only [AR, AL, ifT, ifF, take_all, List.length_cons, List.length_nil, Int.reduceToNat, Int.reducePow, Nat.reducePow]) | (refine wk_intro (by kernel_rfl) ?_) | (refine vp_draw (id := 1) (l := []) (by kernel_rfl) ?_) | (refine vp_draw (id := 2) (l := [19, 21, 24, 26]) (by kernel_rfl) ?_) | (refine vp_draw (id := 5) (l := [7, 8, 42, 9]) (by kernel_rfl) ?_)); try (simp only [go_sem, Nat.reduceEqDiff, Nat.reduceAdd, Nat.reduceSub, Nat.reduceMul, Nat.reduceLeDiff, Nat.reduceLT, reduceIte, reduceCtorEq, Nat.succ_ne_zero, elemsC, Int.reduceToNat, Nat.reducePow]))
  refine vf_of (hnw) ?_; (try (simp only [go_sem, Nat.reduceEqDiff, Nat.reduceAdd, Nat.reduceSub, Nat.reduceMul, Nat.reduceLeDiff, Nat.reduceLT, reduceIte, reduceCtorEq, Nat.succ_ne_zero, elemsC, Int.reduceToNat, Nat.reducePow])); repeat ((first | (simp (disch := (first | omega | (simp only [AL, List.length_map]; omega))) only [AR, AL, ifT, ifF, take_all, List.length_cons, List.length_nil, Int.reduceToNat, Int.reducePow, Nat.reducePow]) | (refine wk_intro (by kernel_rfl) ?_) | (refine vp_draw (id := 1) (l := []) (by kernel_rfl) ?_) | (refine vp_draw (id := 2) (l := [19, 21, 24, 26]) (by kernel_rfl) ?_) | (refine vp_draw (id := 5) (l := [7, 8, 42, 9]) (by kernel_rfl) ?_)); try (simp only [go_sem, Nat.reduceEqDiff, Nat.reduceAdd, Nat.reduceSub, Nat.reduceMul, Nat.reduceLeDiff, Nat.reduceLT, reduceIte, reduceCtorEq, Nat.succ_ne_zero, elemsC, Int.reduceToNat, Nat.reducePow]))
  refine vf_of (ref1_MulL (by omega) (by omega)) ?_; (try (simp only [go_sem, Nat.reduceEqDiff, Nat.reduceAdd, Nat.reduceSub, Nat.reduceMul, Nat.reduceLeDiff, Nat.reduceLT, reduceIte, reduceCtorEq, Nat.succ_ne_zero, elemsC, Int.reduceToNat, Nat.reducePow])); repeat ((first | (simp (disch := (first | omega | (simp only [AL, List.length_map]; omega))) only [AR, AL, ifT, ifF, take_all, List.length_cons, List.length_nil, Int.reduceToNat, Int.reducePow, Nat.reducePow]) | (refine wk_intro (by kernel_rfl) ?_) | (refine vp_draw (id := 1) (l := []) (by kernel_rfl) ?_) | (refine vp_draw (id := 2) (l := [19, 21, 24, 26]) (by kernel_rfl) ?_) | (refine vp_draw (id := 5) (l := [7, 8, 42, 9]) (by kernel_rfl) ?_)); try (simp only [go_sem, Nat.reduceEqDiff, Nat.reduceAdd, Nat.reduceSub, Nat.reduceMul, Nat.reduceLeDiff, Nat.reduceLT, reduceIte, reduceCtorEq, Nat.succ_ne_zero, elemsC, Int.reduceToNat, Nat.reducePow]))
  refine vf_of (ref1_MulL (by omega) (by omega)) ?_; (try (simp only [go_sem, Nat.reduceEqDiff, Nat.reduceAdd, Nat.reduceSub, Nat.reduceMul, Nat.reduceLeDiff, Nat.reduceLT, reduceIte, reduceCtorEq, Nat.succ_ne_zero, elemsC, Int.reduceToNat, Nat.reducePow])); repeat ((first | (simp (disch := (first | omega | (simp only [AL, List.length_map]; omega))) only [AR, AL, ifT, ifF, take_all, List.length_cons, List.length_nil, Int.reduceToNat, Int.reducePow, Nat.reducePow]) | (refine wk_intro (by kernel_rfl) ?_) | (refine vp_draw (id := 1) (l := []) (by kernel_rfl) ?_) | (refine vp_draw (id := 2) (l := [19, 21, 24, 26]) (by kernel_rfl) ?_) | (refine vp_draw (id := 5) (l := [7, 8, 42, 9]) (by kernel_rfl) ?_)); try (simp only [go_sem, Nat.reduceEqDiff, Nat.reduceAdd, Nat.reduceSub, Nat.reduceMul, Nat.reduceLeDiff, Nat.reduceLT, reduceIte, reduceCtorEq, Nat.succ_ne_zero, elemsC, Int.reduceToNat, Nat.reducePow]))
  refine vf_of (ref1_MulL (by omega) (by omega)) ?_; (try (simp only [go_sem, Nat.reduceEqDiff, Nat.reduceAdd, Nat.reduceSub, Nat.reduceMul, Nat.reduceLeDiff, Nat.reduceLT, reduceIte, reduceCtorEq, Nat.succ_ne_zero, elemsC, Int.reduceToNat, Nat.reducePow, hbb])); repeat ((first | (simp (disch := (first | omega | (simp only [AL, List.length_map]; omega))) only [AR, AL, ifT, ifF, take_all, List.length_cons, List.length_nil, Int.reduceToNat, Int.reducePow, Nat.reducePow, hbb]) | (refine wk_intro (by kernel_rfl) ?_) | (refine vp_draw (id := 1) (l := []) (by kernel_rfl) ?_) | (refine vp_draw (id := 2) (l := [19, 21, 24, 26]) (by kernel_rfl) ?_) | (refine vp_draw (id := 5) (l := [7, 8, 42, 9]) (by kernel_rfl) ?_)); try (simp only [go_sem, Nat.reduceEqDiff, Nat.reduceAdd, Nat.reduceSub, Nat.reduceMul, Nat.reduceLeDiff, Nat.reduceLT, reduceIte, reduceCtorEq, Nat.succ_ne_zero, elemsC, Int.reduceToNat, Nat.reducePow, hbb]))
  by_cases hs : decide (q.num < 0) = decide (r.num < 0)
  · have hOf := ref2_OfL (s := decide (q.num < 0)) (n := q.num.natAbs * r.den + r.num.natAbs * q.den) (d := q.den * r.den) (by omega) (by omega)
    rw [add_same q r hs] at hOf
    rw [decide_eq_true hs]
    (try (simp only [go_sem, Nat.reduceEqDiff, Nat.reduceAdd, Nat.reduceSub, Nat.reduceMul, Nat.reduceLeDiff, Nat.reduceLT, reduceIte, reduceCtorEq, Nat.succ_ne_zero, elemsC, Int.reduceToNat, Nat.reducePow])); repeat ((first | (simp (disch := (first | omega | (simp only [AL, List.length_map]; omega))) only [AR, AL, ifT, ifF, take_all, List.length_cons, List.length_nil, Int.reduceToNat, Int.reducePow, Nat.reducePow]) | (refine wk_intro (by kernel_rfl) ?_) | (refine vp_draw (id := 1) (l := []) (by kernel_rfl) ?_) | (refine vp_draw (id := 2) (l := [19, 21, 24, 26]) (by kernel_rfl) ?_) | (refine vp_draw (id := 5) (l := [7, 8, 42, 9]) (by kernel_rfl) ?_)); try (simp only [go_sem, Nat.reduceEqDiff, Nat.reduceAdd, Nat.reduceSub, Nat.reduceMul, Nat.reduceLeDiff, Nat.reduceLT, reduceIte, reduceCtorEq, Nat.succ_ne_zero, elemsC, Int.reduceToNat, Nat.reducePow]))
    refine vf_of (ref1_AddL (by omega) (by omega)) ?_; (try (simp only [go_sem, Nat.reduceEqDiff, Nat.reduceAdd, Nat.reduceSub, Nat.reduceMul, Nat.reduceLeDiff, Nat.reduceLT, reduceIte, reduceCtorEq, Nat.succ_ne_zero, elemsC, Int.reduceToNat, Nat.reducePow])); repeat ((first | (simp (disch := (first | omega | (simp only [AL, List.length_map]; omega))) only [AR, AL, ifT, ifF, take_all, List.length_cons, List.length_nil, Int.reduceToNat, Int.reducePow, Nat.reducePow]) | (refine wk_intro (by kernel_rfl) ?_) | (refine vp_draw (id := 1) (l := []) (by kernel_rfl) ?_) | (refine vp_draw (id := 2) (l := [19, 21, 24, 26]) (by kernel_rfl) ?_) | (refine vp_draw (id := 5) (l := [7, 8, 42, 9]) (by kernel_rfl) ?_)); try (simp only [go_sem, Nat.reduceEqDiff, Nat.reduceAdd, Nat.reduceSub, Nat.reduceMul, Nat.reduceLeDiff, Nat.reduceLT, reduceIte, reduceCtorEq, Nat.succ_ne_zero, elemsC, Int.reduceToNat, Nat.reducePow]))
    refine vf_of (hOf) ?_; (try (simp only [go_sem, Nat.reduceEqDiff, Nat.reduceAdd, Nat.reduceSub, Nat.reduceMul, Nat.reduceLeDiff, Nat.reduceLT, reduceIte, reduceCtorEq, Nat.succ_ne_zero, elemsC, Int.reduceToNat, Nat.reducePow])); repeat ((first | (simp (disch := (first | omega | (simp only [AL, List.length_map]; omega))) only [AR, AL, ifT, ifF, take_all, List.length_cons, List.length_nil, Int.reduceToNat, Int.reducePow, Nat.reducePow]) | (refine wk_intro (by kernel_rfl) ?_) | (refine vp_draw (id := 1) (l := []) (by kernel_rfl) ?_) | (refine vp_draw (id := 2) (l := [19, 21, 24, 26]) (by kernel_rfl) ?_) | (refine vp_draw (id := 5) (l := [7, 8, 42, 9]) (by kernel_rfl) ?_)); try (simp only [go_sem, Nat.reduceEqDiff, Nat.reduceAdd, Nat.reduceSub, Nat.reduceMul, Nat.reduceLeDiff, Nat.reduceLT, reduceIte, reduceCtorEq, Nat.succ_ne_zero, elemsC, Int.reduceToNat, Nat.reducePow]))
  · rw [decide_eq_false hs]
    have hc := ref1_CmpL (N := q.num.natAbs * r.den) (D := r.num.natAbs * q.den) (by omega) (by omega)
    (try (simp only [go_sem, Nat.reduceEqDiff, Nat.reduceAdd, Nat.reduceSub, Nat.reduceMul, Nat.reduceLeDiff, Nat.reduceLT, reduceIte, reduceCtorEq, Nat.succ_ne_zero, elemsC, Int.reduceToNat, Nat.reducePow])); repeat ((first | (simp (disch := (first | omega | (simp only [AL, List.length_map]; omega))) only [AR, AL, ifT, ifF, take_all, List.length_cons, List.length_nil, Int.reduceToNat, Int.reducePow, Nat.reducePow]) | (refine wk_intro (by kernel_rfl) ?_) | (refine vp_draw (id := 1) (l := []) (by kernel_rfl) ?_) | (refine vp_draw (id := 2) (l := [19, 21, 24, 26]) (by kernel_rfl) ?_) | (refine vp_draw (id := 5) (l := [7, 8, 42, 9]) (by kernel_rfl) ?_)); try (simp only [go_sem, Nat.reduceEqDiff, Nat.reduceAdd, Nat.reduceSub, Nat.reduceMul, Nat.reduceLeDiff, Nat.reduceLT, reduceIte, reduceCtorEq, Nat.succ_ne_zero, elemsC, Int.reduceToNat, Nat.reducePow]))
    by_cases h2 : r.num.natAbs * q.den ≤ q.num.natAbs * r.den
    · have hOf := ref2_OfL (s := decide (q.num < 0)) (n := q.num.natAbs * r.den - r.num.natAbs * q.den) (d := q.den * r.den) (by omega) (by omega)
      rw [add_ge q r hs h2] at hOf
      have hcc : decide (cmpN (q.num.natAbs * r.den) (r.num.natAbs * q.den) ≥ 0) = true := by
        have := cmpN_ge h2
        rw [decide_eq_false_iff_not] at this
        exact decide_eq_true (by omega)
      refine vf_of (hc) ?_; (try (simp only [go_sem, Nat.reduceEqDiff, Nat.reduceAdd, Nat.reduceSub, Nat.reduceMul, Nat.reduceLeDiff, Nat.reduceLT, reduceIte, reduceCtorEq, Nat.succ_ne_zero, elemsC, Int.reduceToNat, Nat.reducePow, hcc])); repeat ((first | (simp (disch := (first | omega | (simp only [AL, List.length_map]; omega))) only [AR, AL, ifT, ifF, take_all, List.length_cons, List.length_nil, Int.reduceToNat, Int.reducePow, Nat.reducePow, hcc]) | (refine wk_intro (by kernel_rfl) ?_) | (refine vp_draw (id := 1) (l := []) (by kernel_rfl) ?_) | (refine vp_draw (id := 2) (l := [19, 21, 24, 26]) (by kernel_rfl) ?_) | (refine vp_draw (id := 5) (l := [7, 8, 42, 9]) (by kernel_rfl) ?_)); try (simp only [go_sem, Nat.reduceEqDiff, Nat.reduceAdd, Nat.reduceSub, Nat.reduceMul, Nat.reduceLeDiff, Nat.reduceLT, reduceIte, reduceCtorEq, Nat.succ_ne_zero, elemsC, Int.reduceToNat, Nat.reducePow, hcc]))
      refine vf_of (ref1_SubL (by omega) (by omega)) ?_; (try (simp only [go_sem, Nat.reduceEqDiff, Nat.reduceAdd, Nat.reduceSub, Nat.reduceMul, Nat.reduceLeDiff, Nat.reduceLT, reduceIte, reduceCtorEq, Nat.succ_ne_zero, elemsC, Int.reduceToNat, Nat.reducePow])); repeat ((first | (simp (disch := (first | omega | (simp only [AL, List.length_map]; omega))) only [AR, AL, ifT, ifF, take_all, List.length_cons, List.length_nil, Int.reduceToNat, Int.reducePow, Nat.reducePow]) | (refine wk_intro (by kernel_rfl) ?_) | (refine vp_draw (id := 1) (l := []) (by kernel_rfl) ?_) | (refine vp_draw (id := 2) (l := [19, 21, 24, 26]) (by kernel_rfl) ?_) | (refine vp_draw (id := 5) (l := [7, 8, 42, 9]) (by kernel_rfl) ?_)); try (simp only [go_sem, Nat.reduceEqDiff, Nat.reduceAdd, Nat.reduceSub, Nat.reduceMul, Nat.reduceLeDiff, Nat.reduceLT, reduceIte, reduceCtorEq, Nat.succ_ne_zero, elemsC, Int.reduceToNat, Nat.reducePow]))
      refine vf_of (hOf) ?_; (try (simp only [go_sem, Nat.reduceEqDiff, Nat.reduceAdd, Nat.reduceSub, Nat.reduceMul, Nat.reduceLeDiff, Nat.reduceLT, reduceIte, reduceCtorEq, Nat.succ_ne_zero, elemsC, Int.reduceToNat, Nat.reducePow])); repeat ((first | (simp (disch := (first | omega | (simp only [AL, List.length_map]; omega))) only [AR, AL, ifT, ifF, take_all, List.length_cons, List.length_nil, Int.reduceToNat, Int.reducePow, Nat.reducePow]) | (refine wk_intro (by kernel_rfl) ?_) | (refine vp_draw (id := 1) (l := []) (by kernel_rfl) ?_) | (refine vp_draw (id := 2) (l := [19, 21, 24, 26]) (by kernel_rfl) ?_) | (refine vp_draw (id := 5) (l := [7, 8, 42, 9]) (by kernel_rfl) ?_)); try (simp only [go_sem, Nat.reduceEqDiff, Nat.reduceAdd, Nat.reduceSub, Nat.reduceMul, Nat.reduceLeDiff, Nat.reduceLT, reduceIte, reduceCtorEq, Nat.succ_ne_zero, elemsC, Int.reduceToNat, Nat.reducePow]))
    · have hOf := ref2_OfL (s := decide (r.num < 0)) (n := r.num.natAbs * q.den - q.num.natAbs * r.den) (d := q.den * r.den) (by omega) (by omega)
      rw [add_lt q r hs (by omega)] at hOf
      rw [cmpN_lt (by omega)] at hc
      refine vf_of (hc) ?_; (try (simp only [go_sem, Nat.reduceEqDiff, Nat.reduceAdd, Nat.reduceSub, Nat.reduceMul, Nat.reduceLeDiff, Nat.reduceLT, reduceIte, reduceCtorEq, Nat.succ_ne_zero, elemsC, Int.reduceToNat, Nat.reducePow])); repeat ((first | (simp (disch := (first | omega | (simp only [AL, List.length_map]; omega))) only [AR, AL, ifT, ifF, take_all, List.length_cons, List.length_nil, Int.reduceToNat, Int.reducePow, Nat.reducePow]) | (refine wk_intro (by kernel_rfl) ?_) | (refine vp_draw (id := 1) (l := []) (by kernel_rfl) ?_) | (refine vp_draw (id := 2) (l := [19, 21, 24, 26]) (by kernel_rfl) ?_) | (refine vp_draw (id := 5) (l := [7, 8, 42, 9]) (by kernel_rfl) ?_)); try (simp only [go_sem, Nat.reduceEqDiff, Nat.reduceAdd, Nat.reduceSub, Nat.reduceMul, Nat.reduceLeDiff, Nat.reduceLT, reduceIte, reduceCtorEq, Nat.succ_ne_zero, elemsC, Int.reduceToNat, Nat.reducePow]))
      refine vf_of (ref1_SubL (by omega) (by omega)) ?_; (try (simp only [go_sem, Nat.reduceEqDiff, Nat.reduceAdd, Nat.reduceSub, Nat.reduceMul, Nat.reduceLeDiff, Nat.reduceLT, reduceIte, reduceCtorEq, Nat.succ_ne_zero, elemsC, Int.reduceToNat, Nat.reducePow])); repeat ((first | (simp (disch := (first | omega | (simp only [AL, List.length_map]; omega))) only [AR, AL, ifT, ifF, take_all, List.length_cons, List.length_nil, Int.reduceToNat, Int.reducePow, Nat.reducePow]) | (refine wk_intro (by kernel_rfl) ?_) | (refine vp_draw (id := 1) (l := []) (by kernel_rfl) ?_) | (refine vp_draw (id := 2) (l := [19, 21, 24, 26]) (by kernel_rfl) ?_) | (refine vp_draw (id := 5) (l := [7, 8, 42, 9]) (by kernel_rfl) ?_)); try (simp only [go_sem, Nat.reduceEqDiff, Nat.reduceAdd, Nat.reduceSub, Nat.reduceMul, Nat.reduceLeDiff, Nat.reduceLT, reduceIte, reduceCtorEq, Nat.succ_ne_zero, elemsC, Int.reduceToNat, Nat.reducePow]))
      refine vf_of (hOf) ?_; (try (simp only [go_sem, Nat.reduceEqDiff, Nat.reduceAdd, Nat.reduceSub, Nat.reduceMul, Nat.reduceLeDiff, Nat.reduceLT, reduceIte, reduceCtorEq, Nat.succ_ne_zero, elemsC, Int.reduceToNat, Nat.reducePow])); repeat ((first | (simp (disch := (first | omega | (simp only [AL, List.length_map]; omega))) only [AR, AL, ifT, ifF, take_all, List.length_cons, List.length_nil, Int.reduceToNat, Int.reducePow, Nat.reducePow]) | (refine wk_intro (by kernel_rfl) ?_) | (refine vp_draw (id := 1) (l := []) (by kernel_rfl) ?_) | (refine vp_draw (id := 2) (l := [19, 21, 24, 26]) (by kernel_rfl) ?_) | (refine vp_draw (id := 5) (l := [7, 8, 42, 9]) (by kernel_rfl) ?_)); try (simp only [go_sem, Nat.reduceEqDiff, Nat.reduceAdd, Nat.reduceSub, Nat.reduceMul, Nat.reduceLeDiff, Nat.reduceLT, reduceIte, reduceCtorEq, Nat.succ_ne_zero, elemsC, Int.reduceToNat, Nat.reducePow]))
end Go.Proofs.Ytdnmhnjblgkjaaa

/- Sizes of sums, products, quotients; vernierref2.Div, Neg, Sub, Cmp; rat.Cmp, in the evaluator. -/
namespace Go.Proofs.Ytdnmhnjblgkjaaa
set_option linter.unusedSimpArgs false
set_option linter.unusedVariables false
set_option maxRecDepth 8000
open Go.Ev
theorem szR_zero {L : Nat} (h : 1 ≤ L) : szR 0 L := ⟨by rw [show (0 : Rat).num.natAbs = 0 by rfl, lim_zero]; simp, by rw [show (0 : Rat).den = 1 by rfl, lim_one]; exact h⟩
theorem szR_mul {q r : Rat} {L M : Nat} (h1 : szR q L) (h2 : szR r M) (hL : 1 ≤ L) : szR (q * r) (L + M) := by
  rw [← mul_parts]
  have g1 := lim_len_mul (a := q.num.natAbs) (b := r.num.natAbs)
  have g2 := lim_len_mul (a := q.den) (b := r.den)
  obtain ⟨a1, a2⟩ := h1
  obtain ⟨b1, b2⟩ := h2
  exact szR_mk (by omega) (by omega) (by omega)
theorem szR_add {q r : Rat} {L M : Nat} (h1 : szR q L) (h2 : szR r M) (hL : 1 ≤ L) : szR (q + r) (L + M + 1) := by
  have g1 := lim_len_mul (a := q.num.natAbs) (b := r.den)
  have g2 := lim_len_mul (a := r.num.natAbs) (b := q.den)
  have g3 := lim_len_mul (a := q.den) (b := r.den)
  obtain ⟨a1, a2⟩ := h1
  obtain ⟨b1, b2⟩ := h2
  have g4 := lim_len_add2 (a := q.num.natAbs * r.den) (b := r.num.natAbs * q.den) (L := L + M) (by omega) (by omega)
  have e : q + r = mkRat (sgn (decide (sgn (decide (q.num < 0)) (q.num.natAbs * r.den) + sgn (decide (r.num < 0)) (r.num.natAbs * q.den) < 0)) (sgn (decide (q.num < 0)) (q.num.natAbs * r.den) + sgn (decide (r.num < 0)) (r.num.natAbs * q.den)).natAbs) (q.den * r.den) := by
    rw [sgn_self]; exact add_parts q r
  rw [e]
  refine szR_mk (Nat.le_trans (lim_len_mono ?_) g4) (by omega) (by omega)
  have := Int.natAbs_add_le (sgn (decide (q.num < 0)) (q.num.natAbs * r.den)) (sgn (decide (r.num < 0)) (r.num.natAbs * q.den))
  rw [sgn_abs, sgn_abs] at this
  exact this
theorem szR_sub {q r : Rat} {L M : Nat} (h1 : szR q L) (h2 : szR r M) (hL : 1 ≤ L) : szR (q - r) (L + M + 1) := by
  rw [Rat.sub_eq_add_neg]
  exact szR_add h1 (szR_neg h2) hL
theorem szR_div {q r : Rat} {L M : Nat} (h1 : szR q L) (h2 : szR r M) (hL : 1 ≤ L) (hM : 1 ≤ M) : szR (q / r) (L + M) := by
  by_cases hr : r = 0
  · rw [hr, Rat.div_def, Rat.inv_zero, Rat.mul_zero]
    exact szR_zero (by omega)
  · rw [div_parts hr]
    exact szR_mul h1 (szR_mk h2.2 h2.1 hM) hL
theorem ref2_Neg {v : SV} {q : Rat} {L : Nat} (hv : RatA v q L) (hL : 1 ≤ L) (h : L ≤ 8388608) : Go.Ev.Fn CX 42 [v] (rv (-q)) := by
  have hnv := ref2_Norm hv (by omega)
  obtain ⟨z1, z2⟩ := szR_of hv hL
  rw [neg_parts]
  obtain ⟨s, n, d, rfl, -⟩ := hv
  refine Go.Ev.Fn.intro (fn := Try.f42) (body := (Try.f42).body.get!) (by kernel_rfl) (by kernel_rfl) (by kernel_rfl) (fun _ => rfl) (Nat.le_of_ble_eq_true (by kernel_rfl)) ?_; unfold Try.f42; simp only [Option.get!_some]
  (try (simp only [go_sem, Nat.reduceEqDiff, Nat.reduceAdd, Nat.reduceSub, Nat.reduceMul, Nat.reduceLeDiff, Nat.reduceLT, reduceIte, reduceCtorEq, Nat.succ_ne_zero, elemsC, Int.reduceToNat, Nat.reducePow])); repeat ((first | (simp (disch := (first | omega | (simp only [AL, List.length_map]; omega))) only [AR, AL, ifT, ifF, take_all, List.length_cons, List.length_nil, Int.reduceToNat, Int.reducePow, Nat.reducePow]) | (refine wk_intro (by kernel_rfl) ?_)); try (simp only [go_sem, Nat.reduceEqDiff, Nat.reduceAdd, Nat.reduceSub, Nat.reduceMul, Nat.reduceLeDiff, Nat.reduceLT, reduceIte, reduceCtorEq, Nat.succ_ne_zero, elemsC, Int.reduceToNat, Nat.reducePow]))
  refine vf_of (hnv) ?_; (try (simp only [go_sem, Nat.reduceEqDiff, Nat.reduceAdd, Nat.reduceSub, Nat.reduceMul, Nat.reduceLeDiff, Nat.reduceLT, reduceIte, reduceCtorEq, Nat.succ_ne_zero, elemsC, Int.reduceToNat, Nat.reducePow])); repeat ((first | (simp (disch := (first | omega | (simp only [AL, List.length_map]; omega))) only [AR, AL, ifT, ifF, take_all, List.length_cons, List.length_nil, Int.reduceToNat, Int.reducePow, Nat.reducePow]) | (refine wk_intro (by kernel_rfl) ?_)); try (simp only [go_sem, Nat.reduceEqDiff, Nat.reduceAdd, Nat.reduceSub, Nat.reduceMul, Nat.reduceLeDiff, Nat.reduceLT, reduceIte, reduceCtorEq, Nat.succ_ne_zero, elemsC, Int.reduceToNat, Nat.reducePow]))
  cases hs : decide (q.num < 0)
  · rcases Nat.eq_zero_or_pos (lim q.num.natAbs).length with h0 | h0
    · rw [decide_eq_false (show ¬ 0 < (lim q.num.natAbs).length by omega)]
      (try (simp only [go_sem, Nat.reduceEqDiff, Nat.reduceAdd, Nat.reduceSub, Nat.reduceMul, Nat.reduceLeDiff, Nat.reduceLT, reduceIte, reduceCtorEq, Nat.succ_ne_zero, elemsC, Int.reduceToNat, Nat.reducePow, Bool.not_true, Bool.not_false])); repeat ((first | (simp (disch := (first | omega | (simp only [AL, List.length_map]; omega))) only [AR, AL, ifT, ifF, take_all, List.length_cons, List.length_nil, Int.reduceToNat, Int.reducePow, Nat.reducePow, Bool.not_true, Bool.not_false]) | (refine wk_intro (by kernel_rfl) ?_)); try (simp only [go_sem, Nat.reduceEqDiff, Nat.reduceAdd, Nat.reduceSub, Nat.reduceMul, Nat.reduceLeDiff, Nat.reduceLT, reduceIte, reduceCtorEq, Nat.succ_ne_zero, elemsC, Int.reduceToNat, Nat.reducePow, Bool.not_true, Bool.not_false]))
    · rw [decide_eq_true h0]
      (try (simp only [go_sem, Nat.reduceEqDiff, Nat.reduceAdd, Nat.reduceSub, Nat.reduceMul, Nat.reduceLeDiff, Nat.reduceLT, reduceIte, reduceCtorEq, Nat.succ_ne_zero, elemsC, Int.reduceToNat, Nat.reducePow, Bool.not_true, Bool.not_false])); repeat ((first | (simp (disch := (first | omega | (simp only [AL, List.length_map]; omega))) only [AR, AL, ifT, ifF, take_all, List.length_cons, List.length_nil, Int.reduceToNat, Int.reducePow, Nat.reducePow, Bool.not_true, Bool.not_false]) | (refine wk_intro (by kernel_rfl) ?_)); try (simp only [go_sem, Nat.reduceEqDiff, Nat.reduceAdd, Nat.reduceSub, Nat.reduceMul, Nat.reduceLeDiff, Nat.reduceLT, reduceIte, reduceCtorEq, Nat.succ_ne_zero, elemsC, Int.reduceToNat, Nat.reducePow, Bool.not_true, Bool.not_false]))
  · (try (simp only [go_sem, Nat.reduceEqDiff, Nat.reduceAdd, Nat.reduceSub, Nat.reduceMul, Nat.reduceLeDiff, Nat.reduceLT, reduceIte, reduceCtorEq, Nat.succ_ne_zero, elemsC, Int.reduceToNat, Nat.reducePow, Bool.not_true, Bool.not_false])); repeat ((first | (simp (disch := (first | omega | (simp only [AL, List.length_map]; omega))) only [AR, AL, ifT, ifF, take_all, List.length_cons, List.length_nil, Int.reduceToNat, Int.reducePow, Nat.reducePow, Bool.not_true, Bool.not_false]) | (refine wk_intro (by kernel_rfl) ?_)); try (simp only [go_sem, Nat.reduceEqDiff, Nat.reduceAdd, Nat.reduceSub, Nat.reduceMul, Nat.reduceLeDiff, Nat.reduceLT, reduceIte, reduceCtorEq, Nat.succ_ne_zero, elemsC, Int.reduceToNat, Nat.reducePow, Bool.not_true, Bool.not_false]))
    rfl
theorem sgn_mul2 (s t : Bool) (a b : Nat) : sgn s a * sgn t b = sgn (!(s == t)) (a * b) := by
  cases s <;> cases t <;> simp [sgn, Int.neg_mul, Int.mul_neg]
theorem quo_parts {q r : Rat} (hr : r ≠ 0) : mkRat (sgn (!(decide (q.num < 0) == decide (r.num < 0))) (q.num.natAbs * r.den)) (q.den * r.num.natAbs) = q / r := by
  rw [div_parts hr, ← sgn_mul2, ← Rat.mkRat_mul_mkRat, sgn_self, Rat.mkRat_self]
end Go.Proofs.Ytdnmhnjblgkjaaa

/- rat.Cmp, vernierref2.Sub and Cmp, in the evaluator. -/
namespace Go.Proofs.Ytdnmhnjblgkjaaa
set_option linter.unusedSimpArgs false
set_option linter.unusedVariables false
set_option maxRecDepth 8000
open Go.Ev
/-- -1, 0 or 1. -/
def cmpR (q r : Rat) : Int := if q < r then -1 else if q = r then 0 else 1
theorem sub_num {q r : Rat} : (q - r).num < 0 ↔ q < r := by
  have h : (q - r).num < 0 ↔ q - r < 0 := by
    have := Rat.num_nonneg (q := q - r)
    constructor
    · intro h
      have h1 : ¬ 0 ≤ q - r := fun g => absurd (this.2 g) (by omega)
      grind
    · intro h
      rcases Int.lt_or_le (q - r).num 0 with h1 | h1
      · exact h1
      · exact absurd (this.1 h1) (by grind)
  rw [h]
  constructor <;> intro h <;> grind
theorem sub_zero' {q r : Rat} : (q - r).num = 0 ↔ q = r := by
  rw [Rat.num_eq_zero]
  constructor <;> intro h <;> grind
theorem int_szR {n : Int} (h : -9223372036854775808 ≤ n ∧ n ≤ 9223372036854775808) : szR (n : Rat) 2 := by
  refine ⟨?_, ?_⟩
  · show (lim n.natAbs).length ≤ 2
    exact lim_two.2 (by omega)
  · show (lim 1).length ≤ 2
    rw [lim_one]; simp
theorem rat_Cmp {v w : SV} {q r : Rat} {L M : Nat} (hv : RatA v q L) (hw : RatA w r M) (hL : 1 ≤ L) (hM : 1 ≤ M) (h : L + M ≤ 268435456) : Go.Ev.Fn CX 25 [v, w] (.int .i64 (cmpR q r)) := by
  have hs := rat_Sub hv hw hL hM h
  have hz := szR_sub (szR_of hv hL) (szR_of hw hM) hL
  obtain ⟨s, n, d, rfl, -⟩ := hv
  obtain ⟨s', n', d', rfl, -⟩ := hw
  obtain ⟨y1, -⟩ := hz
  refine Go.Ev.Fn.intro (fn := Try.f25) (body := (Try.f25).body.get!) (by kernel_rfl) (by kernel_rfl) (by kernel_rfl) (fun _ => rfl) (Nat.le_of_ble_eq_true (by kernel_rfl)) ?_; unfold Try.f25; simp only [Option.get!_some]
  by_cases h1 : q < r
  · have e : decide ((q - r).num < 0) = true := decide_eq_true (sub_num.2 h1)
    rw [show cmpR q r = -1 from if_pos h1]
    (try (simp only [go_sem, Nat.reduceEqDiff, Nat.reduceAdd, Nat.reduceSub, Nat.reduceMul, Nat.reduceLeDiff, Nat.reduceLT, reduceIte, reduceCtorEq, Nat.succ_ne_zero, elemsC, Int.reduceToNat, Nat.reducePow])); repeat ((first | (simp (disch := (first | omega | (simp only [AL, List.length_map]; omega))) only [AR, AL, ifT, ifF, take_all, List.length_cons, List.length_nil, Int.reduceToNat, Int.reducePow, Nat.reducePow]) | (refine wk_intro (by kernel_rfl) ?_)); try (simp only [go_sem, Nat.reduceEqDiff, Nat.reduceAdd, Nat.reduceSub, Nat.reduceMul, Nat.reduceLeDiff, Nat.reduceLT, reduceIte, reduceCtorEq, Nat.succ_ne_zero, elemsC, Int.reduceToNat, Nat.reducePow]))
    refine vf_of (hs) ?_; (try (simp only [go_sem, Nat.reduceEqDiff, Nat.reduceAdd, Nat.reduceSub, Nat.reduceMul, Nat.reduceLeDiff, Nat.reduceLT, reduceIte, reduceCtorEq, Nat.succ_ne_zero, elemsC, Int.reduceToNat, Nat.reducePow, e])); repeat ((first | (simp (disch := (first | omega | (simp only [AL, List.length_map]; omega))) only [AR, AL, ifT, ifF, take_all, List.length_cons, List.length_nil, Int.reduceToNat, Int.reducePow, Nat.reducePow, e]) | (refine wk_intro (by kernel_rfl) ?_)); try (simp only [go_sem, Nat.reduceEqDiff, Nat.reduceAdd, Nat.reduceSub, Nat.reduceMul, Nat.reduceLeDiff, Nat.reduceLT, reduceIte, reduceCtorEq, Nat.succ_ne_zero, elemsC, Int.reduceToNat, Nat.reducePow, e]))
  · have e : decide ((q - r).num < 0) = false := decide_eq_false (fun h => h1 (sub_num.1 h))
    by_cases h2 : q = r
    · have e2 : (lim (q - r).num.natAbs).length = 0 := by rw [sub_zero'.2 h2]; simp [lim_zero]
      rw [show cmpR q r = 0 by unfold cmpR; rw [if_neg h1, if_pos h2]]
      (try (simp only [go_sem, Nat.reduceEqDiff, Nat.reduceAdd, Nat.reduceSub, Nat.reduceMul, Nat.reduceLeDiff, Nat.reduceLT, reduceIte, reduceCtorEq, Nat.succ_ne_zero, elemsC, Int.reduceToNat, Nat.reducePow])); repeat ((first | (simp (disch := (first | omega | (simp only [AL, List.length_map]; omega))) only [AR, AL, ifT, ifF, take_all, List.length_cons, List.length_nil, Int.reduceToNat, Int.reducePow, Nat.reducePow]) | (refine wk_intro (by kernel_rfl) ?_)); try (simp only [go_sem, Nat.reduceEqDiff, Nat.reduceAdd, Nat.reduceSub, Nat.reduceMul, Nat.reduceLeDiff, Nat.reduceLT, reduceIte, reduceCtorEq, Nat.succ_ne_zero, elemsC, Int.reduceToNat, Nat.reducePow]))
      refine vf_of (hs) ?_; (try (simp only [go_sem, Nat.reduceEqDiff, Nat.reduceAdd, Nat.reduceSub, Nat.reduceMul, Nat.reduceLeDiff, Nat.reduceLT, reduceIte, reduceCtorEq, Nat.succ_ne_zero, elemsC, Int.reduceToNat, Nat.reducePow, e])); repeat ((first | (simp (disch := (first | omega | (simp only [AL, List.length_map]; omega))) only [AR, AL, ifT, ifF, take_all, List.length_cons, List.length_nil, Int.reduceToNat, Int.reducePow, Nat.reducePow, e]) | (refine wk_intro (by kernel_rfl) ?_)); try (simp only [go_sem, Nat.reduceEqDiff, Nat.reduceAdd, Nat.reduceSub, Nat.reduceMul, Nat.reduceLeDiff, Nat.reduceLT, reduceIte, reduceCtorEq, Nat.succ_ne_zero, elemsC, Int.reduceToNat, Nat.reducePow, e]))
    · have e2 := lim_pos (N := (q - r).num.natAbs) (fun h => h2 (sub_zero'.1 (by omega)))
      rw [show cmpR q r = 1 by unfold cmpR; rw [if_neg h1, if_neg h2]]
      (try (simp only [go_sem, Nat.reduceEqDiff, Nat.reduceAdd, Nat.reduceSub, Nat.reduceMul, Nat.reduceLeDiff, Nat.reduceLT, reduceIte, reduceCtorEq, Nat.succ_ne_zero, elemsC, Int.reduceToNat, Nat.reducePow])); repeat ((first | (simp (disch := (first | omega | (simp only [AL, List.length_map]; omega))) only [AR, AL, ifT, ifF, take_all, List.length_cons, List.length_nil, Int.reduceToNat, Int.reducePow, Nat.reducePow]) | (refine wk_intro (by kernel_rfl) ?_)); try (simp only [go_sem, Nat.reduceEqDiff, Nat.reduceAdd, Nat.reduceSub, Nat.reduceMul, Nat.reduceLeDiff, Nat.reduceLT, reduceIte, reduceCtorEq, Nat.succ_ne_zero, elemsC, Int.reduceToNat, Nat.reducePow]))
      refine vf_of (hs) ?_; (try (simp only [go_sem, Nat.reduceEqDiff, Nat.reduceAdd, Nat.reduceSub, Nat.reduceMul, Nat.reduceLeDiff, Nat.reduceLT, reduceIte, reduceCtorEq, Nat.succ_ne_zero, elemsC, Int.reduceToNat, Nat.reducePow, e])); repeat ((first | (simp (disch := (first | omega | (simp only [AL, List.length_map]; omega))) only [AR, AL, ifT, ifF, take_all, List.length_cons, List.length_nil, Int.reduceToNat, Int.reducePow, Nat.reducePow, e]) | (refine wk_intro (by kernel_rfl) ?_)); try (simp only [go_sem, Nat.reduceEqDiff, Nat.reduceAdd, Nat.reduceSub, Nat.reduceMul, Nat.reduceLeDiff, Nat.reduceLT, reduceIte, reduceCtorEq, Nat.succ_ne_zero, elemsC, Int.reduceToNat, Nat.reducePow, e]))
theorem ref2_Sub {v w : SV} {q r : Rat} {L M : Nat} (hv : RatA v q L) (hw : RatA w r M) (hL : 1 ≤ L) (hM : 1 ≤ M) (h : L + M ≤ 8388608) : Go.Ev.Fn CX 23 [v, w] (rv (q - r)) := by
  have hN := ref2_Neg hw hM (by omega)
  have hA := ref2_Add hv (RatA_rv (szR_neg (szR_of hw hM))) hL hM h
  rw [← Rat.sub_eq_add_neg] at hA
  obtain ⟨s, n, d, rfl, -⟩ := hv
  obtain ⟨s', n', d', rfl, -⟩ := hw
  refine Go.Ev.Fn.intro (fn := Try.f23) (body := (Try.f23).body.get!) (by kernel_rfl) (by kernel_rfl) (by kernel_rfl) (fun _ => rfl) (Nat.le_of_ble_eq_true (by kernel_rfl)) ?_; unfold Try.f23; simp only [Option.get!_some]
  (try (simp only [go_sem, Nat.reduceEqDiff, Nat.reduceAdd, Nat.reduceSub, Nat.reduceMul, Nat.reduceLeDiff, Nat.reduceLT, reduceIte, reduceCtorEq, Nat.succ_ne_zero, elemsC, Int.reduceToNat, Nat.reducePow])); repeat ((first | (simp (disch := (first | omega | (simp only [AL, List.length_map]; omega))) only [AR, AL, ifT, ifF, take_all, List.length_cons, List.length_nil, Int.reduceToNat, Int.reducePow, Nat.reducePow]) | (refine wk_intro (by kernel_rfl) ?_) | (refine vp_draw (id := 1) (l := []) (by kernel_rfl) ?_)); try (simp only [go_sem, Nat.reduceEqDiff, Nat.reduceAdd, Nat.reduceSub, Nat.reduceMul, Nat.reduceLeDiff, Nat.reduceLT, reduceIte, reduceCtorEq, Nat.succ_ne_zero, elemsC, Int.reduceToNat, Nat.reducePow]))
  refine vf_of (hN) ?_; (try (simp only [go_sem, Nat.reduceEqDiff, Nat.reduceAdd, Nat.reduceSub, Nat.reduceMul, Nat.reduceLeDiff, Nat.reduceLT, reduceIte, reduceCtorEq, Nat.succ_ne_zero, elemsC, Int.reduceToNat, Nat.reducePow])); repeat ((first | (simp (disch := (first | omega | (simp only [AL, List.length_map]; omega))) only [AR, AL, ifT, ifF, take_all, List.length_cons, List.length_nil, Int.reduceToNat, Int.reducePow, Nat.reducePow]) | (refine wk_intro (by kernel_rfl) ?_) | (refine vp_draw (id := 1) (l := []) (by kernel_rfl) ?_)); try (simp only [go_sem, Nat.reduceEqDiff, Nat.reduceAdd, Nat.reduceSub, Nat.reduceMul, Nat.reduceLeDiff, Nat.reduceLT, reduceIte, reduceCtorEq, Nat.succ_ne_zero, elemsC, Int.reduceToNat, Nat.reducePow]))
  refine vf_of (hA) ?_; (try (simp only [go_sem, Nat.reduceEqDiff, Nat.reduceAdd, Nat.reduceSub, Nat.reduceMul, Nat.reduceLeDiff, Nat.reduceLT, reduceIte, reduceCtorEq, Nat.succ_ne_zero, elemsC, Int.reduceToNat, Nat.reducePow])); repeat ((first | (simp (disch := (first | omega | (simp only [AL, List.length_map]; omega))) only [AR, AL, ifT, ifF, take_all, List.length_cons, List.length_nil, Int.reduceToNat, Int.reducePow, Nat.reducePow]) | (refine wk_intro (by kernel_rfl) ?_) | (refine vp_draw (id := 1) (l := []) (by kernel_rfl) ?_)); try (simp only [go_sem, Nat.reduceEqDiff, Nat.reduceAdd, Nat.reduceSub, Nat.reduceMul, Nat.reduceLeDiff, Nat.reduceLT, reduceIte, reduceCtorEq, Nat.succ_ne_zero, elemsC, Int.reduceToNat, Nat.reducePow]))
theorem ref2_Cmp {v w : SV} {q r : Rat} {L M : Nat} (hv : RatA v q L) (hw : RatA w r M) (hL : 1 ≤ L) (hM : 1 ≤ M) (h : L + M ≤ 8388608) : Go.Ev.Fn CX 13 [v, w] (.int .i64 (cmpR q r)) := by
  have hs := ref2_Sub hv hw hL hM h
  have hz := szR_sub (szR_of hv hL) (szR_of hw hM) hL
  obtain ⟨s, n, d, rfl, -⟩ := hv
  obtain ⟨s', n', d', rfl, -⟩ := hw
  obtain ⟨y1, -⟩ := hz
  refine Go.Ev.Fn.intro (fn := Try.f13) (body := (Try.f13).body.get!) (by kernel_rfl) (by kernel_rfl) (by kernel_rfl) (fun _ => rfl) (Nat.le_of_ble_eq_true (by kernel_rfl)) ?_; unfold Try.f13; simp only [Option.get!_some]
  by_cases h2 : q = r
  · have e2 : (lim (q - r).num.natAbs).length = 0 := by rw [sub_zero'.2 h2]; simp [lim_zero]
    have h1 : ¬ q < r := by grind
    rw [show cmpR q r = 0 by unfold cmpR; rw [if_neg h1, if_pos h2]]
    (try (simp only [go_sem, Nat.reduceEqDiff, Nat.reduceAdd, Nat.reduceSub, Nat.reduceMul, Nat.reduceLeDiff, Nat.reduceLT, reduceIte, reduceCtorEq, Nat.succ_ne_zero, elemsC, Int.reduceToNat, Nat.reducePow])); repeat ((first | (simp (disch := (first | omega | (simp only [AL, List.length_map]; omega))) only [AR, AL, ifT, ifF, take_all, List.length_cons, List.length_nil, Int.reduceToNat, Int.reducePow, Nat.reducePow]) | (refine wk_intro (by kernel_rfl) ?_)); try (simp only [go_sem, Nat.reduceEqDiff, Nat.reduceAdd, Nat.reduceSub, Nat.reduceMul, Nat.reduceLeDiff, Nat.reduceLT, reduceIte, reduceCtorEq, Nat.succ_ne_zero, elemsC, Int.reduceToNat, Nat.reducePow]))
    refine vf_of (hs) ?_; (try (simp only [go_sem, Nat.reduceEqDiff, Nat.reduceAdd, Nat.reduceSub, Nat.reduceMul, Nat.reduceLeDiff, Nat.reduceLT, reduceIte, reduceCtorEq, Nat.succ_ne_zero, elemsC, Int.reduceToNat, Nat.reducePow])); repeat ((first | (simp (disch := (first | omega | (simp only [AL, List.length_map]; omega))) only [AR, AL, ifT, ifF, take_all, List.length_cons, List.length_nil, Int.reduceToNat, Int.reducePow, Nat.reducePow]) | (refine wk_intro (by kernel_rfl) ?_)); try (simp only [go_sem, Nat.reduceEqDiff, Nat.reduceAdd, Nat.reduceSub, Nat.reduceMul, Nat.reduceLeDiff, Nat.reduceLT, reduceIte, reduceCtorEq, Nat.succ_ne_zero, elemsC, Int.reduceToNat, Nat.reducePow]))
  · have e2 := lim_pos (N := (q - r).num.natAbs) (fun h => h2 (sub_zero'.1 (by omega)))
    by_cases h1 : q < r
    · have e : decide ((q - r).num < 0) = true := decide_eq_true (sub_num.2 h1)
      rw [show cmpR q r = -1 from if_pos h1]
      (try (simp only [go_sem, Nat.reduceEqDiff, Nat.reduceAdd, Nat.reduceSub, Nat.reduceMul, Nat.reduceLeDiff, Nat.reduceLT, reduceIte, reduceCtorEq, Nat.succ_ne_zero, elemsC, Int.reduceToNat, Nat.reducePow])); repeat ((first | (simp (disch := (first | omega | (simp only [AL, List.length_map]; omega))) only [AR, AL, ifT, ifF, take_all, List.length_cons, List.length_nil, Int.reduceToNat, Int.reducePow, Nat.reducePow]) | (refine wk_intro (by kernel_rfl) ?_)); try (simp only [go_sem, Nat.reduceEqDiff, Nat.reduceAdd, Nat.reduceSub, Nat.reduceMul, Nat.reduceLeDiff, Nat.reduceLT, reduceIte, reduceCtorEq, Nat.succ_ne_zero, elemsC, Int.reduceToNat, Nat.reducePow]))
      refine vf_of (hs) ?_; (try (simp only [go_sem, Nat.reduceEqDiff, Nat.reduceAdd, Nat.reduceSub, Nat.reduceMul, Nat.reduceLeDiff, Nat.reduceLT, reduceIte, reduceCtorEq, Nat.succ_ne_zero, elemsC, Int.reduceToNat, Nat.reducePow, e])); repeat ((first | (simp (disch := (first | omega | (simp only [AL, List.length_map]; omega))) only [AR, AL, ifT, ifF, take_all, List.length_cons, List.length_nil, Int.reduceToNat, Int.reducePow, Nat.reducePow, e]) | (refine wk_intro (by kernel_rfl) ?_)); try (simp only [go_sem, Nat.reduceEqDiff, Nat.reduceAdd, Nat.reduceSub, Nat.reduceMul, Nat.reduceLeDiff, Nat.reduceLT, reduceIte, reduceCtorEq, Nat.succ_ne_zero, elemsC, Int.reduceToNat, Nat.reducePow, e]))
    · have e : decide ((q - r).num < 0) = false := decide_eq_false (fun h => h1 (sub_num.1 h))
      rw [show cmpR q r = 1 by unfold cmpR; rw [if_neg h1, if_neg h2]]
      (try (simp only [go_sem, Nat.reduceEqDiff, Nat.reduceAdd, Nat.reduceSub, Nat.reduceMul, Nat.reduceLeDiff, Nat.reduceLT, reduceIte, reduceCtorEq, Nat.succ_ne_zero, elemsC, Int.reduceToNat, Nat.reducePow])); repeat ((first | (simp (disch := (first | omega | (simp only [AL, List.length_map]; omega))) only [AR, AL, ifT, ifF, take_all, List.length_cons, List.length_nil, Int.reduceToNat, Int.reducePow, Nat.reducePow]) | (refine wk_intro (by kernel_rfl) ?_)); try (simp only [go_sem, Nat.reduceEqDiff, Nat.reduceAdd, Nat.reduceSub, Nat.reduceMul, Nat.reduceLeDiff, Nat.reduceLT, reduceIte, reduceCtorEq, Nat.succ_ne_zero, elemsC, Int.reduceToNat, Nat.reducePow]))
      refine vf_of (hs) ?_; (try (simp only [go_sem, Nat.reduceEqDiff, Nat.reduceAdd, Nat.reduceSub, Nat.reduceMul, Nat.reduceLeDiff, Nat.reduceLT, reduceIte, reduceCtorEq, Nat.succ_ne_zero, elemsC, Int.reduceToNat, Nat.reducePow, e])); repeat ((first | (simp (disch := (first | omega | (simp only [AL, List.length_map]; omega))) only [AR, AL, ifT, ifF, take_all, List.length_cons, List.length_nil, Int.reduceToNat, Int.reducePow, Nat.reducePow, e]) | (refine wk_intro (by kernel_rfl) ?_)); try (simp only [go_sem, Nat.reduceEqDiff, Nat.reduceAdd, Nat.reduceSub, Nat.reduceMul, Nat.reduceLeDiff, Nat.reduceLT, reduceIte, reduceCtorEq, Nat.succ_ne_zero, elemsC, Int.reduceToNat, Nat.reducePow, e]))
theorem cmpR_gt {q r : Rat} : decide (cmpR q r > 0) = decide (r < q) := by
  unfold cmpR
  by_cases h1 : q < r
  · rw [if_pos h1, decide_eq_false (by decide), decide_eq_false (by grind)]
  · rw [if_neg h1]
    by_cases h2 : q = r
    · rw [if_pos h2, decide_eq_false (by decide), decide_eq_false (by grind)]
    · rw [if_neg h2, decide_eq_true (by decide), decide_eq_true (by grind)]
theorem cmpR_lt {q r : Rat} : decide (cmpR q r < 0) = decide (q < r) := by
  unfold cmpR
  by_cases h1 : q < r
  · rw [if_pos h1, decide_eq_true (by decide), decide_eq_true h1]
  · rw [if_neg h1, decide_eq_false h1]
    by_cases h2 : q = r
    · rw [if_pos h2, decide_eq_false (by decide)]
    · rw [if_neg h2, decide_eq_false (by decide)]
theorem cmpR_ge {q r : Rat} : decide (cmpR q r ≥ 0) = decide (r ≤ q) := by
  unfold cmpR
  by_cases h1 : q < r
  · rw [if_pos h1, decide_eq_false (by decide), decide_eq_false (by grind)]
  · rw [if_neg h1, decide_eq_true (show r ≤ q by grind)]
    by_cases h2 : q = r
    · rw [if_pos h2, decide_eq_true (by decide)]
    · rw [if_neg h2, decide_eq_true (by decide)]
theorem cmpR_le {q r : Rat} : decide (cmpR q r ≤ 0) = decide (q ≤ r) := by
  unfold cmpR
  by_cases h1 : q < r
  · rw [if_pos h1, decide_eq_true (by decide), decide_eq_true (show q ≤ r by grind)]
  · rw [if_neg h1]
    by_cases h2 : q = r
    · rw [if_pos h2, decide_eq_true (by decide), decide_eq_true (show q ≤ r by grind)]
    · rw [if_neg h2, decide_eq_false (by decide), decide_eq_false (show ¬ q ≤ r by grind)]
theorem b_and64i {a b : Nat} (ha : a < 9223372036854775808) (hb : b < 9223372036854775808) : bitsSV .and .i64 (a : Int) (b : Int) = some (.int .i64 ((a &&& b : Nat) : Int)) := by
  have h : a &&& b < 2 ^ 63 := Nat.lt_of_le_of_lt Nat.and_le_left ha
  have e : IntKind.i64.wrap ((BitVec.ofInt IntKind.i64.bits (a : Int) &&& BitVec.ofInt IntKind.i64.bits (b : Int)).toNat : Int) = ((a &&& b : Nat) : Int) := by
    show IntKind.i64.wrap ((BitVec.ofInt 64 (a : Int) &&& BitVec.ofInt 64 (b : Int)).toNat : Int) = _
    rw [ofInt_nat, ofInt_nat, BitVec.toNat_and, BitVec.toNat_ofNat, BitVec.toNat_ofNat, Nat.mod_eq_of_lt (show a < 2 ^ 64 by omega), Nat.mod_eq_of_lt (show b < 2 ^ 64 by omega), wI64 (by omega)]
  show some (SV.int _ _) = _
  rw [e]
theorem and_one64 {a : Nat} (ha : a < 9223372036854775808) : bitsSV .and .i64 (a : Int) 1 = some (.int .i64 ((a % 2 : Nat) : Int)) := by
  have := b_and64i ha (b := 1) (by omega)
  rw [and_one] at this
  exact this
theorem lim_len1 : (lim 1).length ≤ 1 := lim_len_one (by decide)
end Go.Proofs.Ytdnmhnjblgkjaaa
