/- Part 6 of the proof: the evaluator, contracts of functions and their plain laws (joined by program). No condition. -/
import Derived.Test.YtemnjalaincijaaGreatPart5
import Derived.KernelRfl
set_option linter.unusedVariables false
set_option linter.unusedSimpArgs false
set_option maxRecDepth 100000
namespace Go.Proofs.YtemnjalaincijaaGreat
open Go.Ev
theorem rat_OfL {s : Bool} {n d : Nat} (hl : (lim n).length ≤ 536870912) (hm : (lim d).length ≤ 536870912) :
    Go.Ev.Fn CX 114 [.bool s, natV (lim n), natV (lim d)] (rv (mkRat (sgn s n) d)) := by
  have h := rat_Of s (lim n) (lim d) (okL_lim _) (okL_lim _) hl hm
  rwa [wth_lim, wth_lim] at h
theorem mul_parts (q r : Rat) : mkRat (sgn (!(decide (q.num < 0) == decide (r.num < 0))) (q.num.natAbs * r.num.natAbs)) (q.den * r.den) = q * r := by
  have h := sgn_mul q.num r.num
  rw [show (!(decide (q.num < 0) == decide (r.num < 0))) = (decide (q.num < 0) != decide (r.num < 0)) from rfl, h, ← Rat.mkRat_mul_mkRat, Rat.mkRat_self, Rat.mkRat_self]
theorem sgn_mul_nat (s : Bool) (a b : Nat) : sgn s a * (b : Int) = sgn s (a * b) := by
  unfold sgn
  split
  · rw [Int.neg_mul, Int.natCast_mul]
  · rw [Int.natCast_mul]
theorem add_parts (q r : Rat) : q + r = mkRat (sgn (decide (q.num < 0)) (q.num.natAbs * r.den) + sgn (decide (r.num < 0)) (r.num.natAbs * q.den)) (q.den * r.den) := by
  conv => lhs; rw [← Rat.mkRat_self q, ← Rat.mkRat_self r, Rat.mkRat_add_mkRat _ _ q.den_nz r.den_nz]
  congr 1
  rw [← sgn_mul_nat, ← sgn_mul_nat, sgn_self, sgn_self]
theorem add_same (q r : Rat) (h : decide (q.num < 0) = decide (r.num < 0)) : mkRat (sgn (decide (q.num < 0)) (q.num.natAbs * r.den + r.num.natAbs * q.den)) (q.den * r.den) = q + r := by
  rw [add_parts, ← h]
  congr 1
  unfold sgn
  split <;> omega
theorem add_ge (q r : Rat) (h : ¬ decide (q.num < 0) = decide (r.num < 0)) (h2 : r.num.natAbs * q.den ≤ q.num.natAbs * r.den) : mkRat (sgn (decide (q.num < 0)) (q.num.natAbs * r.den - r.num.natAbs * q.den)) (q.den * r.den) = q + r := by
  rw [add_parts]
  congr 1
  have e : decide (r.num < 0) = !decide (q.num < 0) := by
    revert h
    cases decide (q.num < 0) <;> cases decide (r.num < 0) <;> simp
  rw [e]
  generalize q.num.natAbs * r.den = X at *
  generalize r.num.natAbs * q.den = Y at *
  unfold sgn
  cases decide (q.num < 0)
  · simp; omega
  · simp; omega
theorem add_lt (q r : Rat) (h : ¬ decide (q.num < 0) = decide (r.num < 0)) (h2 : q.num.natAbs * r.den < r.num.natAbs * q.den) : mkRat (sgn (decide (r.num < 0)) (r.num.natAbs * q.den - q.num.natAbs * r.den)) (q.den * r.den) = q + r := by
  have h3 := add_ge r q (fun e => h e.symm) (Nat.le_of_lt h2)
  rw [Nat.mul_comm r.den, Rat.add_comm r q] at h3
  exact h3
theorem beq_bool (a b : Bool) : (a == b) = decide (a = b) := by cases a <;> cases b <;> rfl
theorem lim_len_add2 {a b L : Nat} (ha : (lim a).length ≤ L) (hb : (lim b).length ≤ L) : (lim (a + b)).length ≤ L + 1 := lim_len_add ha hb
theorem rat_Add {v w : SV} {q r : Rat} {L M : Nat} (hv : RatA v q L) (hw : RatA w r M) (hL : 1 ≤ L) (hM : 1 ≤ M) (h : L + M ≤ 268435456) : Go.Ev.Fn CX 151 [v, w] (rv (q + r)) := by
  have hnv := rat_Norm hv (by omega)
  have hnw := rat_Norm hw (by omega)
  obtain ⟨z1, z2⟩ := szR_of hv hL
  obtain ⟨y1, y2⟩ := szR_of hw hM
  have g1 := lim_len_mul (a := q.num.natAbs) (b := r.den)
  have g2 := lim_len_mul (a := r.num.natAbs) (b := q.den)
  have g3 := lim_len_mul (a := q.den) (b := r.den)
  have g4 := lim_len_add2 (a := q.num.natAbs * r.den) (b := r.num.natAbs * q.den) (L := L + M) (by omega) (by omega)
  have g5 := lim_len_mono (Nat.sub_le (q.num.natAbs * r.den) (r.num.natAbs * q.den))
  have g6 := lim_len_mono (Nat.sub_le (r.num.natAbs * q.den) (q.num.natAbs * r.den))
  obtain ⟨s, n, d, rfl, -⟩ := hv
  obtain ⟨s', n', d', rfl, -⟩ := hw
  have hbb := beq_bool (decide (q.num < 0)) (decide (r.num < 0))
  refine Go.Ev.Fn.intro (fn := Tryz.f151) (body := (Tryz.f151).body.get!) (by kernel_rfl) (by kernel_rfl) (by kernel_rfl) (fun _ => rfl) (Nat.le_of_ble_eq_true (by kernel_rfl)) ?_; unfold Tryz.f151; simp only [Option.get!_some]
  repeat (first | (simp only [go_sem, Nat.reduceEqDiff, Nat.reduceAdd, Nat.reduceSub, Nat.reduceMul, Nat.reduceLeDiff, Nat.reduceLT, reduceIte, reduceCtorEq, Nat.succ_ne_zero, elemsC, Int.reduceToNat, Nat.reducePow]) | (simp (disch := (first | omega | (simp only [AL, List.length_map]; omega))) only [AR, AL, ifT, ifF, take_all, List.length_cons, List.length_nil, Int.reduceToNat, Int.reducePow, Nat.reducePow]) | (refine wk_intro (by kernel_rfl) ?_) | (refine vp_draw (id := 1) (l := []) (by kernel_rfl) ?_) | (refine vp_draw (id := 2) (l := [17, 19, 22, 24, 27, 29]) (by kernel_rfl) ?_) | (refine vp_draw (id := 4) (l := [5, 6, 40, 7]) (by kernel_rfl) ?_) | (refine vf_of (by first | exact hnv | exact hnw) ?_))
  refine vf_of (nat_MulL (by omega) (by omega)) ?_; repeat (first | (simp only [go_sem, Nat.reduceEqDiff, Nat.reduceAdd, Nat.reduceSub, Nat.reduceMul, Nat.reduceLeDiff, Nat.reduceLT, reduceIte, reduceCtorEq, Nat.succ_ne_zero, elemsC, Int.reduceToNat, Nat.reducePow]) | (simp (disch := (first | omega | (simp only [AL, List.length_map]; omega))) only [AR, AL, ifT, ifF, take_all, List.length_cons, List.length_nil, Int.reduceToNat, Int.reducePow, Nat.reducePow]) | (refine wk_intro (by kernel_rfl) ?_) | (refine vp_draw (id := 1) (l := []) (by kernel_rfl) ?_) | (refine vp_draw (id := 2) (l := [17, 19, 22, 24, 27, 29]) (by kernel_rfl) ?_) | (refine vp_draw (id := 4) (l := [5, 6, 40, 7]) (by kernel_rfl) ?_))
  refine vf_of (nat_MulL (by omega) (by omega)) ?_; repeat (first | (simp only [go_sem, Nat.reduceEqDiff, Nat.reduceAdd, Nat.reduceSub, Nat.reduceMul, Nat.reduceLeDiff, Nat.reduceLT, reduceIte, reduceCtorEq, Nat.succ_ne_zero, elemsC, Int.reduceToNat, Nat.reducePow]) | (simp (disch := (first | omega | (simp only [AL, List.length_map]; omega))) only [AR, AL, ifT, ifF, take_all, List.length_cons, List.length_nil, Int.reduceToNat, Int.reducePow, Nat.reducePow]) | (refine wk_intro (by kernel_rfl) ?_) | (refine vp_draw (id := 1) (l := []) (by kernel_rfl) ?_) | (refine vp_draw (id := 2) (l := [17, 19, 22, 24, 27, 29]) (by kernel_rfl) ?_) | (refine vp_draw (id := 4) (l := [5, 6, 40, 7]) (by kernel_rfl) ?_))
  refine vf_of (nat_MulL (by omega) (by omega)) ?_; repeat (first | (simp only [go_sem, Nat.reduceEqDiff, Nat.reduceAdd, Nat.reduceSub, Nat.reduceMul, Nat.reduceLeDiff, Nat.reduceLT, reduceIte, reduceCtorEq, Nat.succ_ne_zero, elemsC, Int.reduceToNat, Nat.reducePow, hbb]) | (simp (disch := (first | omega | (simp only [AL, List.length_map]; omega))) only [AR, AL, ifT, ifF, take_all, List.length_cons, List.length_nil, Int.reduceToNat, Int.reducePow, Nat.reducePow, hbb]) | (refine wk_intro (by kernel_rfl) ?_) | (refine vp_draw (id := 1) (l := []) (by kernel_rfl) ?_) | (refine vp_draw (id := 2) (l := [17, 19, 22, 24, 27, 29]) (by kernel_rfl) ?_) | (refine vp_draw (id := 4) (l := [5, 6, 40, 7]) (by kernel_rfl) ?_))
  by_cases hs : decide (q.num < 0) = decide (r.num < 0)
  · have hOf := rat_OfL (s := decide (q.num < 0)) (n := q.num.natAbs * r.den + r.num.natAbs * q.den) (d := q.den * r.den) (by omega) (by omega)
    rw [add_same q r hs] at hOf
    rw [decide_eq_true hs]
    repeat (first | (simp only [go_sem, Nat.reduceEqDiff, Nat.reduceAdd, Nat.reduceSub, Nat.reduceMul, Nat.reduceLeDiff, Nat.reduceLT, reduceIte, reduceCtorEq, Nat.succ_ne_zero, elemsC, Int.reduceToNat, Nat.reducePow]) | (simp (disch := (first | omega | (simp only [AL, List.length_map]; omega))) only [AR, AL, ifT, ifF, take_all, List.length_cons, List.length_nil, Int.reduceToNat, Int.reducePow, Nat.reducePow]) | (refine wk_intro (by kernel_rfl) ?_) | (refine vp_draw (id := 1) (l := []) (by kernel_rfl) ?_) | (refine vp_draw (id := 2) (l := [17, 19, 22, 24, 27, 29]) (by kernel_rfl) ?_) | (refine vp_draw (id := 4) (l := [5, 6, 40, 7]) (by kernel_rfl) ?_))
    refine vf_of (nat_AddL (by omega) (by omega)) ?_; repeat (first | (simp only [go_sem, Nat.reduceEqDiff, Nat.reduceAdd, Nat.reduceSub, Nat.reduceMul, Nat.reduceLeDiff, Nat.reduceLT, reduceIte, reduceCtorEq, Nat.succ_ne_zero, elemsC, Int.reduceToNat, Nat.reducePow]) | (simp (disch := (first | omega | (simp only [AL, List.length_map]; omega))) only [AR, AL, ifT, ifF, take_all, List.length_cons, List.length_nil, Int.reduceToNat, Int.reducePow, Nat.reducePow]) | (refine wk_intro (by kernel_rfl) ?_) | (refine vp_draw (id := 1) (l := []) (by kernel_rfl) ?_) | (refine vp_draw (id := 2) (l := [17, 19, 22, 24, 27, 29]) (by kernel_rfl) ?_) | (refine vp_draw (id := 4) (l := [5, 6, 40, 7]) (by kernel_rfl) ?_))
    refine vf_of (hOf) ?_; repeat (first | (simp only [go_sem, Nat.reduceEqDiff, Nat.reduceAdd, Nat.reduceSub, Nat.reduceMul, Nat.reduceLeDiff, Nat.reduceLT, reduceIte, reduceCtorEq, Nat.succ_ne_zero, elemsC, Int.reduceToNat, Nat.reducePow]) | (simp (disch := (first | omega | (simp only [AL, List.length_map]; omega))) only [AR, AL, ifT, ifF, take_all, List.length_cons, List.length_nil, Int.reduceToNat, Int.reducePow, Nat.reducePow]) | (refine wk_intro (by kernel_rfl) ?_) | (refine vp_draw (id := 1) (l := []) (by kernel_rfl) ?_) | (refine vp_draw (id := 2) (l := [17, 19, 22, 24, 27, 29]) (by kernel_rfl) ?_) | (refine vp_draw (id := 4) (l := [5, 6, 40, 7]) (by kernel_rfl) ?_))
  · rw [decide_eq_false hs]
    repeat (first | (simp only [go_sem, Nat.reduceEqDiff, Nat.reduceAdd, Nat.reduceSub, Nat.reduceMul, Nat.reduceLeDiff, Nat.reduceLT, reduceIte, reduceCtorEq, Nat.succ_ne_zero, elemsC, Int.reduceToNat, Nat.reducePow]) | (simp (disch := (first | omega | (simp only [AL, List.length_map]; omega))) only [AR, AL, ifT, ifF, take_all, List.length_cons, List.length_nil, Int.reduceToNat, Int.reducePow, Nat.reducePow]) | (refine wk_intro (by kernel_rfl) ?_) | (refine vp_draw (id := 1) (l := []) (by kernel_rfl) ?_) | (refine vp_draw (id := 2) (l := [17, 19, 22, 24, 27, 29]) (by kernel_rfl) ?_) | (refine vp_draw (id := 4) (l := [5, 6, 40, 7]) (by kernel_rfl) ?_))
    refine vf_of (nat_SubL (by omega) (by omega)) ?_; repeat (first | (simp only [go_sem, Nat.reduceEqDiff, Nat.reduceAdd, Nat.reduceSub, Nat.reduceMul, Nat.reduceLeDiff, Nat.reduceLT, reduceIte, reduceCtorEq, Nat.succ_ne_zero, elemsC, Int.reduceToNat, Nat.reducePow]) | (simp (disch := (first | omega | (simp only [AL, List.length_map]; omega))) only [AR, AL, ifT, ifF, take_all, List.length_cons, List.length_nil, Int.reduceToNat, Int.reducePow, Nat.reducePow]) | (refine wk_intro (by kernel_rfl) ?_) | (refine vp_draw (id := 1) (l := []) (by kernel_rfl) ?_) | (refine vp_draw (id := 2) (l := [17, 19, 22, 24, 27, 29]) (by kernel_rfl) ?_) | (refine vp_draw (id := 4) (l := [5, 6, 40, 7]) (by kernel_rfl) ?_))
    by_cases h2 : r.num.natAbs * q.den ≤ q.num.natAbs * r.den
    · have hOf := rat_OfL (s := decide (q.num < 0)) (n := q.num.natAbs * r.den - r.num.natAbs * q.den) (d := q.den * r.den) (by omega) (by omega)
      rw [add_ge q r hs h2] at hOf
      rw [decide_eq_true h2]
      repeat (first | (simp only [go_sem, Nat.reduceEqDiff, Nat.reduceAdd, Nat.reduceSub, Nat.reduceMul, Nat.reduceLeDiff, Nat.reduceLT, reduceIte, reduceCtorEq, Nat.succ_ne_zero, elemsC, Int.reduceToNat, Nat.reducePow]) | (simp (disch := (first | omega | (simp only [AL, List.length_map]; omega))) only [AR, AL, ifT, ifF, take_all, List.length_cons, List.length_nil, Int.reduceToNat, Int.reducePow, Nat.reducePow]) | (refine wk_intro (by kernel_rfl) ?_) | (refine vp_draw (id := 1) (l := []) (by kernel_rfl) ?_) | (refine vp_draw (id := 2) (l := [17, 19, 22, 24, 27, 29]) (by kernel_rfl) ?_) | (refine vp_draw (id := 4) (l := [5, 6, 40, 7]) (by kernel_rfl) ?_) | (refine vf_of (by first | exact hOf) ?_))
    · have hOf := rat_OfL (s := decide (r.num < 0)) (n := r.num.natAbs * q.den - q.num.natAbs * r.den) (d := q.den * r.den) (by omega) (by omega)
      rw [add_lt q r hs (by omega)] at hOf
      rw [decide_eq_false h2]
      repeat (first | (simp only [go_sem, Nat.reduceEqDiff, Nat.reduceAdd, Nat.reduceSub, Nat.reduceMul, Nat.reduceLeDiff, Nat.reduceLT, reduceIte, reduceCtorEq, Nat.succ_ne_zero, elemsC, Int.reduceToNat, Nat.reducePow]) | (simp (disch := (first | omega | (simp only [AL, List.length_map]; omega))) only [AR, AL, ifT, ifF, take_all, List.length_cons, List.length_nil, Int.reduceToNat, Int.reducePow, Nat.reducePow]) | (refine wk_intro (by kernel_rfl) ?_) | (refine vp_draw (id := 1) (l := []) (by kernel_rfl) ?_) | (refine vp_draw (id := 2) (l := [17, 19, 22, 24, 27, 29]) (by kernel_rfl) ?_) | (refine vp_draw (id := 4) (l := [5, 6, 40, 7]) (by kernel_rfl) ?_))
      refine vf_of (nat_SubL (by omega) (by omega)) ?_; repeat (first | (simp only [go_sem, Nat.reduceEqDiff, Nat.reduceAdd, Nat.reduceSub, Nat.reduceMul, Nat.reduceLeDiff, Nat.reduceLT, reduceIte, reduceCtorEq, Nat.succ_ne_zero, elemsC, Int.reduceToNat, Nat.reducePow]) | (simp (disch := (first | omega | (simp only [AL, List.length_map]; omega))) only [AR, AL, ifT, ifF, take_all, List.length_cons, List.length_nil, Int.reduceToNat, Int.reducePow, Nat.reducePow]) | (refine wk_intro (by kernel_rfl) ?_) | (refine vp_draw (id := 1) (l := []) (by kernel_rfl) ?_) | (refine vp_draw (id := 2) (l := [17, 19, 22, 24, 27, 29]) (by kernel_rfl) ?_) | (refine vp_draw (id := 4) (l := [5, 6, 40, 7]) (by kernel_rfl) ?_))
      refine vf_of (hOf) ?_; repeat (first | (simp only [go_sem, Nat.reduceEqDiff, Nat.reduceAdd, Nat.reduceSub, Nat.reduceMul, Nat.reduceLeDiff, Nat.reduceLT, reduceIte, reduceCtorEq, Nat.succ_ne_zero, elemsC, Int.reduceToNat, Nat.reducePow]) | (simp (disch := (first | omega | (simp only [AL, List.length_map]; omega))) only [AR, AL, ifT, ifF, take_all, List.length_cons, List.length_nil, Int.reduceToNat, Int.reducePow, Nat.reducePow]) | (refine wk_intro (by kernel_rfl) ?_) | (refine vp_draw (id := 1) (l := []) (by kernel_rfl) ?_) | (refine vp_draw (id := 2) (l := [17, 19, 22, 24, 27, 29]) (by kernel_rfl) ?_) | (refine vp_draw (id := 4) (l := [5, 6, 40, 7]) (by kernel_rfl) ?_))
theorem neg_parts (q : Rat) : rv (-q) = ratV (!decide (q.num < 0) && decide (0 < (lim q.num.natAbs).length)) (lim q.num.natAbs) (lim q.den) := by
  show ratV (decide ((-q).num < 0)) (lim (-q).num.natAbs) (lim (-q).den) = _
  rw [Rat.neg_num, Rat.neg_den, Int.natAbs_neg]
  congr 3
  by_cases h : q.num = 0
  · rw [h]; rfl
  · have h1 := lim_pos (N := q.num.natAbs) (by omega)
    rw [decide_eq_true h1, Bool.and_true]
    by_cases h2 : q.num < 0
    · rw [decide_eq_true h2, decide_eq_false (by omega)]; rfl
    · rw [decide_eq_false h2, decide_eq_true (by omega)]; rfl
theorem rat_signed (s t : Bool) (n d : List Nat) (hn : n.length ≤ 1099511627776) : Go.Ev.Fn CX 120 [.bool s, ratV t n d] (ratV (s && decide (0 < n.length)) n d) := by
  refine Go.Ev.Fn.intro (fn := Tryz.f120) (body := (Tryz.f120).body.get!) (by kernel_rfl) (by kernel_rfl) (by kernel_rfl) (fun _ => rfl) (Nat.le_of_ble_eq_true (by kernel_rfl)) ?_; unfold Tryz.f120; simp only [Option.get!_some]
  cases s
  · repeat (first | (simp only [go_sem, Nat.reduceEqDiff, Nat.reduceAdd, Nat.reduceSub, Nat.reduceMul, Nat.reduceLeDiff, Nat.reduceLT, reduceIte, reduceCtorEq, Nat.succ_ne_zero, elemsC, Int.reduceToNat, Nat.reducePow]) | (simp (disch := (first | omega | (simp only [AL, List.length_map]; omega))) only [AR, AL, ifT, ifF, take_all, List.length_cons, List.length_nil, Int.reduceToNat, Int.reducePow, Nat.reducePow]) | (refine wk_intro (by kernel_rfl) ?_))
    rfl
  · by_cases h : 0 < n.length
    · rw [decide_eq_true h]
      repeat (first | (simp only [go_sem, Nat.reduceEqDiff, Nat.reduceAdd, Nat.reduceSub, Nat.reduceMul, Nat.reduceLeDiff, Nat.reduceLT, reduceIte, reduceCtorEq, Nat.succ_ne_zero, elemsC, Int.reduceToNat, Nat.reducePow]) | (simp (disch := (first | omega | (simp only [AL, List.length_map]; omega))) only [AR, AL, ifT, ifF, take_all, List.length_cons, List.length_nil, Int.reduceToNat, Int.reducePow, Nat.reducePow]) | (refine wk_intro (by kernel_rfl) ?_))
    · rw [decide_eq_false h]
      repeat (first | (simp only [go_sem, Nat.reduceEqDiff, Nat.reduceAdd, Nat.reduceSub, Nat.reduceMul, Nat.reduceLeDiff, Nat.reduceLT, reduceIte, reduceCtorEq, Nat.succ_ne_zero, elemsC, Int.reduceToNat, Nat.reducePow]) | (simp (disch := (first | omega | (simp only [AL, List.length_map]; omega))) only [AR, AL, ifT, ifF, take_all, List.length_cons, List.length_nil, Int.reduceToNat, Int.reducePow, Nat.reducePow]) | (refine wk_intro (by kernel_rfl) ?_))
theorem rat_Neg {v : SV} {q : Rat} {L : Nat} (hv : RatA v q L) (hL : 1 ≤ L) (h : L ≤ 268435456) : Go.Ev.Fn CX 59 [v] (rv (-q)) := by
  have hnv := rat_Norm hv (by omega)
  obtain ⟨z1, z2⟩ := szR_of hv hL
  have hs := rat_signed (!decide (q.num < 0)) (decide (q.num < 0)) (lim q.num.natAbs) (lim q.den) (by omega)
  rw [← neg_parts] at hs
  obtain ⟨s, n, d, rfl, -⟩ := hv
  refine Go.Ev.Fn.intro (fn := Tryz.f59) (body := (Tryz.f59).body.get!) (by kernel_rfl) (by kernel_rfl) (by kernel_rfl) (fun _ => rfl) (Nat.le_of_ble_eq_true (by kernel_rfl)) ?_; unfold Tryz.f59; simp only [Option.get!_some]
  repeat (first | (simp only [go_sem, Nat.reduceEqDiff, Nat.reduceAdd, Nat.reduceSub, Nat.reduceMul, Nat.reduceLeDiff, Nat.reduceLT, reduceIte, reduceCtorEq, Nat.succ_ne_zero, elemsC, Int.reduceToNat, Nat.reducePow]) | (simp (disch := (first | omega | (simp only [AL, List.length_map]; omega))) only [AR, AL, ifT, ifF, take_all, List.length_cons, List.length_nil, Int.reduceToNat, Int.reducePow, Nat.reducePow]) | (refine wk_intro (by kernel_rfl) ?_) | (refine vf_of (by first | exact hnv | exact hs) ?_))
theorem szR_neg {q : Rat} {L : Nat} (h : szR q L) : szR (-q) L := by
  unfold szR
  rw [Rat.neg_num, Rat.neg_den, Int.natAbs_neg]
  exact h
theorem rat_Sub {v w : SV} {q r : Rat} {L M : Nat} (hv : RatA v q L) (hw : RatA w r M) (hL : 1 ≤ L) (hM : 1 ≤ M) (h : L + M ≤ 268435456) : Go.Ev.Fn CX 134 [v, w] (rv (q - r)) := by
  have hN := rat_Neg hw hM (by omega)
  have hA := rat_Add hv (RatA_rv (szR_neg (szR_of hw hM))) hL hM h
  rw [← Rat.sub_eq_add_neg] at hA
  obtain ⟨s, n, d, rfl, -⟩ := hv
  obtain ⟨s', n', d', rfl, -⟩ := hw
  refine Go.Ev.Fn.intro (fn := Tryz.f134) (body := (Tryz.f134).body.get!) (by kernel_rfl) (by kernel_rfl) (by kernel_rfl) (fun _ => rfl) (Nat.le_of_ble_eq_true (by kernel_rfl)) ?_; unfold Tryz.f134; simp only [Option.get!_some]
  repeat (first | (simp only [go_sem, Nat.reduceEqDiff, Nat.reduceAdd, Nat.reduceSub, Nat.reduceMul, Nat.reduceLeDiff, Nat.reduceLT, reduceIte, reduceCtorEq, Nat.succ_ne_zero, elemsC, Int.reduceToNat, Nat.reducePow]) | (simp (disch := (first | omega | (simp only [AL, List.length_map]; omega))) only [AR, AL, ifT, ifF, take_all, List.length_cons, List.length_nil, Int.reduceToNat, Int.reducePow, Nat.reducePow]) | (refine wk_intro (by kernel_rfl) ?_) | (refine vp_draw (id := 1) (l := []) (by kernel_rfl) ?_) | (refine vf_of (by first | exact hN | exact hA) ?_))
theorem num_zero {q : Rat} : q.num = 0 ↔ q = 0 := Rat.num_eq_zero
end Go.Proofs.YtemnjalaincijaaGreat
namespace Go.Proofs.YtemnjalaincijaaGreat
open Go.Ev
theorem ref2_Norm {v : SV} {q : Rat} {L : Nat} (h : RatA v q L) (hL : L ≤ 16777216) : Go.Ev.Fn CX 31 [v] (rv q) := by
  obtain ⟨s, n, d, rfl, hn, hd, hl, hm, rfl⟩ := h
  have lx := lim_length_le hn
  have ly := lim_length_le hd
  have tn := ref1_Trim n hn (by omega)
  have td := ref1_Trim d hd (by omega)
  refine Go.Ev.Fn.intro (fn := Tryz.f31) (body := (Tryz.f31).body.get!) (by kernel_rfl) (by kernel_rfl) (by kernel_rfl) (fun _ => rfl) (Nat.le_of_ble_eq_true (by kernel_rfl)) ?_; unfold Tryz.f31; simp only [Option.get!_some]
  generalize wth n = N at *
  generalize wth d = D at *
  repeat (first | (simp only [go_sem, Nat.reduceEqDiff, Nat.reduceAdd, Nat.reduceSub, Nat.reduceMul, Nat.reduceLeDiff, Nat.reduceLT, reduceIte, reduceCtorEq, Nat.succ_ne_zero, elemsC, Int.reduceToNat, Nat.reducePow]) | (simp (disch := (first | omega | (simp only [AL, List.length_map]; omega))) only [AR, AL, ifT, ifF, take_all, List.length_cons, List.length_nil, Int.reduceToNat, Int.reducePow, Nat.reducePow]) | (refine wk_intro (by kernel_rfl) ?_) | (refine vp_draw (id := 1) (l := [7, 10]) (by kernel_rfl) ?_) | (refine vf_of (by first | exact tn | exact td) ?_))
  by_cases h : N = 0 ∨ D = 0
  · rw [mk_zero s h, rv_zero]
    by_cases hD : D = 0
    · have h0 : (lim D).length = 0 := by rw [hD, lim_zero]; rfl
      repeat (first | (simp only [go_sem, Nat.reduceEqDiff, Nat.reduceAdd, Nat.reduceSub, Nat.reduceMul, Nat.reduceLeDiff, Nat.reduceLT, reduceIte, reduceCtorEq, Nat.succ_ne_zero, elemsC, Int.reduceToNat, Nat.reducePow]) | (simp (disch := (first | omega | (simp only [AL, List.length_map]; omega))) only [AR, AL, ifT, ifF, take_all, List.length_cons, List.length_nil, Int.reduceToNat, Int.reducePow, Nat.reducePow]) | (refine wk_intro (by kernel_rfl) ?_) | (refine vp_draw (id := 1) (l := [7, 10]) (by kernel_rfl) ?_))
      rfl
    · have h0 : (lim N).length = 0 := by rw [h.resolve_right hD, lim_zero]; rfl
      have h1 := lim_pos hD
      repeat (first | (simp only [go_sem, Nat.reduceEqDiff, Nat.reduceAdd, Nat.reduceSub, Nat.reduceMul, Nat.reduceLeDiff, Nat.reduceLT, reduceIte, reduceCtorEq, Nat.succ_ne_zero, elemsC, Int.reduceToNat, Nat.reducePow]) | (simp (disch := (first | omega | (simp only [AL, List.length_map]; omega))) only [AR, AL, ifT, ifF, take_all, List.length_cons, List.length_nil, Int.reduceToNat, Int.reducePow, Nat.reducePow]) | (refine wk_intro (by kernel_rfl) ?_) | (refine vp_draw (id := 1) (l := [7, 10]) (by kernel_rfl) ?_))
      rfl
  · have hN : N ≠ 0 := fun e => h (.inl e)
    have hD : D ≠ 0 := fun e => h (.inr e)
    rw [mk_parts s hN hD]
    have h1 := lim_pos hN
    have h2 := lim_pos hD
    have hg : N.gcd D ≠ 0 := Nat.ne_of_gt (Nat.gcd_pos_of_pos_left _ (by omega))
    have h3 := lim_len_mono (Nat.gcd_le_left D (by omega : 0 < N))
    repeat (first | (simp only [go_sem, Nat.reduceEqDiff, Nat.reduceAdd, Nat.reduceSub, Nat.reduceMul, Nat.reduceLeDiff, Nat.reduceLT, reduceIte, reduceCtorEq, Nat.succ_ne_zero, elemsC, Int.reduceToNat, Nat.reducePow]) | (simp (disch := (first | omega | (simp only [AL, List.length_map]; omega))) only [AR, AL, ifT, ifF, take_all, List.length_cons, List.length_nil, Int.reduceToNat, Int.reducePow, Nat.reducePow]) | (refine wk_intro (by kernel_rfl) ?_) | (refine vp_draw (id := 1) (l := [7, 10]) (by kernel_rfl) ?_))
    refine vf_of (ref1_GcdL (by omega) (by omega)) ?_; repeat (first | (simp only [go_sem, Nat.reduceEqDiff, Nat.reduceAdd, Nat.reduceSub, Nat.reduceMul, Nat.reduceLeDiff, Nat.reduceLT, reduceIte, reduceCtorEq, Nat.succ_ne_zero, elemsC, Int.reduceToNat, Nat.reducePow]) | (simp (disch := (first | omega | (simp only [AL, List.length_map]; omega))) only [AR, AL, ifT, ifF, take_all, List.length_cons, List.length_nil, Int.reduceToNat, Int.reducePow, Nat.reducePow]) | (refine wk_intro (by kernel_rfl) ?_) | (refine vp_draw (id := 1) (l := [7, 10]) (by kernel_rfl) ?_))
    refine vf_of (ref1_DivL hg (by omega) (by omega)) ?_; repeat (first | (simp only [go_sem, Nat.reduceEqDiff, Nat.reduceAdd, Nat.reduceSub, Nat.reduceMul, Nat.reduceLeDiff, Nat.reduceLT, reduceIte, reduceCtorEq, Nat.succ_ne_zero, elemsC, Int.reduceToNat, Nat.reducePow]) | (simp (disch := (first | omega | (simp only [AL, List.length_map]; omega))) only [AR, AL, ifT, ifF, take_all, List.length_cons, List.length_nil, Int.reduceToNat, Int.reducePow, Nat.reducePow]) | (refine wk_intro (by kernel_rfl) ?_) | (refine vp_draw (id := 1) (l := [7, 10]) (by kernel_rfl) ?_))
    refine vf_of (ref1_DivL hg (by omega) (by omega)) ?_; repeat (first | (simp only [go_sem, Nat.reduceEqDiff, Nat.reduceAdd, Nat.reduceSub, Nat.reduceMul, Nat.reduceLeDiff, Nat.reduceLT, reduceIte, reduceCtorEq, Nat.succ_ne_zero, elemsC, Int.reduceToNat, Nat.reducePow]) | (simp (disch := (first | omega | (simp only [AL, List.length_map]; omega))) only [AR, AL, ifT, ifF, take_all, List.length_cons, List.length_nil, Int.reduceToNat, Int.reducePow, Nat.reducePow]) | (refine wk_intro (by kernel_rfl) ?_) | (refine vp_draw (id := 1) (l := [7, 10]) (by kernel_rfl) ?_))
theorem ref2_Of (s : Bool) (n d : List Nat) (hn : okL n) (hd : okL d) (hl : n.length ≤ 16777216) (hm : d.length ≤ 16777216) :
    Go.Ev.Fn CX 30 [.bool s, natV n, natV d] (rv (mkRat (sgn s (wth n)) (wth d))) := by
  have hN := ref2_Norm (v := ratV s n d) (L := 16777216) ⟨s, n, d, rfl, hn, hd, hl, hm, rfl⟩ (by omega)
  refine Go.Ev.Fn.intro (fn := Tryz.f30) (body := (Tryz.f30).body.get!) (by kernel_rfl) (by kernel_rfl) (by kernel_rfl) (fun _ => rfl) (Nat.le_of_ble_eq_true (by kernel_rfl)) ?_; unfold Tryz.f30; simp only [Option.get!_some]
  repeat (first | (simp only [go_sem, Nat.reduceEqDiff, Nat.reduceAdd, Nat.reduceSub, Nat.reduceMul, Nat.reduceLeDiff, Nat.reduceLT, reduceIte, reduceCtorEq, Nat.succ_ne_zero, elemsC, Int.reduceToNat, Nat.reducePow]) | (simp (disch := (first | omega | (simp only [AL, List.length_map]; omega))) only [AR, AL, ifT, ifF, take_all, List.length_cons, List.length_nil, Int.reduceToNat, Int.reducePow, Nat.reducePow]) | (refine wk_intro (by kernel_rfl) ?_) | (refine vf_of (by first | exact hN) ?_))
theorem ref2_OfL {s : Bool} {n d : Nat} (hl : (lim n).length ≤ 16777216) (hm : (lim d).length ≤ 16777216) :
    Go.Ev.Fn CX 30 [.bool s, natV (lim n), natV (lim d)] (rv (mkRat (sgn s n) d)) := by
  have h := ref2_Of s (lim n) (lim d) (okL_lim _) (okL_lim _) hl hm
  rwa [wth_lim, wth_lim] at h
theorem ref2_Mul {v w : SV} {q r : Rat} {L M : Nat} (hv : RatA v q L) (hw : RatA w r M) (hL : 1 ≤ L) (hM : 1 ≤ M) (h : L + M ≤ 8388608) : Go.Ev.Fn CX 29 [v, w] (rv (q * r)) := by
  have hnv := ref2_Norm hv (by omega)
  have hnw := ref2_Norm hw (by omega)
  obtain ⟨z1, z2⟩ := szR_of hv hL
  obtain ⟨y1, y2⟩ := szR_of hw hM
  have g1 := lim_len_mul (a := q.num.natAbs) (b := r.num.natAbs)
  have g2 := lim_len_mul (a := q.den) (b := r.den)
  have hOf := ref2_OfL (s := !(decide (q.num < 0) == decide (r.num < 0))) (n := q.num.natAbs * r.num.natAbs) (d := q.den * r.den) (by omega) (by omega)
  rw [mul_parts] at hOf
  obtain ⟨s, n, d, rfl, -⟩ := hv
  obtain ⟨s', n', d', rfl, -⟩ := hw
  refine Go.Ev.Fn.intro (fn := Tryz.f29) (body := (Tryz.f29).body.get!) (by kernel_rfl) (by kernel_rfl) (by kernel_rfl) (fun _ => rfl) (Nat.le_of_ble_eq_true (by kernel_rfl)) ?_; unfold Tryz.f29; simp only [Option.get!_some]
  repeat (first | (simp only [go_sem, Nat.reduceEqDiff, Nat.reduceAdd, Nat.reduceSub, Nat.reduceMul, Nat.reduceLeDiff, Nat.reduceLT, reduceIte, reduceCtorEq, Nat.succ_ne_zero, elemsC, Int.reduceToNat, Nat.reducePow]) | (simp (disch := (first | omega | (simp only [AL, List.length_map]; omega))) only [AR, AL, ifT, ifF, take_all, List.length_cons, List.length_nil, Int.reduceToNat, Int.reducePow, Nat.reducePow]) | (refine wk_intro (by kernel_rfl) ?_) | (refine vp_draw (id := 1) (l := []) (by kernel_rfl) ?_) | (refine vp_draw (id := 2) (l := [17, 19, 22, 24, 20, 25]) (by kernel_rfl) ?_) | (refine vf_of (by first | exact hnv | exact hnw) ?_))
  refine vf_of (ref1_MulL (by omega) (by omega)) ?_; repeat (first | (simp only [go_sem, Nat.reduceEqDiff, Nat.reduceAdd, Nat.reduceSub, Nat.reduceMul, Nat.reduceLeDiff, Nat.reduceLT, reduceIte, reduceCtorEq, Nat.succ_ne_zero, elemsC, Int.reduceToNat, Nat.reducePow]) | (simp (disch := (first | omega | (simp only [AL, List.length_map]; omega))) only [AR, AL, ifT, ifF, take_all, List.length_cons, List.length_nil, Int.reduceToNat, Int.reducePow, Nat.reducePow]) | (refine wk_intro (by kernel_rfl) ?_) | (refine vp_draw (id := 1) (l := []) (by kernel_rfl) ?_) | (refine vp_draw (id := 2) (l := [17, 19, 22, 24, 20, 25]) (by kernel_rfl) ?_))
  refine vf_of (ref1_MulL (by omega) (by omega)) ?_; repeat (first | (simp only [go_sem, Nat.reduceEqDiff, Nat.reduceAdd, Nat.reduceSub, Nat.reduceMul, Nat.reduceLeDiff, Nat.reduceLT, reduceIte, reduceCtorEq, Nat.succ_ne_zero, elemsC, Int.reduceToNat, Nat.reducePow]) | (simp (disch := (first | omega | (simp only [AL, List.length_map]; omega))) only [AR, AL, ifT, ifF, take_all, List.length_cons, List.length_nil, Int.reduceToNat, Int.reducePow, Nat.reducePow]) | (refine wk_intro (by kernel_rfl) ?_) | (refine vp_draw (id := 1) (l := []) (by kernel_rfl) ?_) | (refine vp_draw (id := 2) (l := [17, 19, 22, 24, 20, 25]) (by kernel_rfl) ?_))
  refine vf_of (hOf) ?_; repeat (first | (simp only [go_sem, Nat.reduceEqDiff, Nat.reduceAdd, Nat.reduceSub, Nat.reduceMul, Nat.reduceLeDiff, Nat.reduceLT, reduceIte, reduceCtorEq, Nat.succ_ne_zero, elemsC, Int.reduceToNat, Nat.reducePow]) | (simp (disch := (first | omega | (simp only [AL, List.length_map]; omega))) only [AR, AL, ifT, ifF, take_all, List.length_cons, List.length_nil, Int.reduceToNat, Int.reducePow, Nat.reducePow]) | (refine wk_intro (by kernel_rfl) ?_) | (refine vp_draw (id := 1) (l := []) (by kernel_rfl) ?_) | (refine vp_draw (id := 2) (l := [17, 19, 22, 24, 20, 25]) (by kernel_rfl) ?_))
theorem ref2_limbs (a b : List Nat) (ha : a.length ≤ 274877906944) (hb : b.length ≤ 274877906944) : Go.Ev.Fn CX 135 [natV a, natV b] (.bool (decide (a = b))) := by
  refine Go.Ev.Fn.intro (fn := Tryz.f135) (body := (Tryz.f135).body.get!) (by kernel_rfl) (by kernel_rfl) (by kernel_rfl) (fun _ => rfl) (Nat.le_of_ble_eq_true (by kernel_rfl)) ?_; unfold Tryz.f135; simp only [Option.get!_some]
  by_cases hl : a.length = b.length
  · repeat (first | (simp only [go_sem, Nat.reduceEqDiff, Nat.reduceAdd, Nat.reduceSub, Nat.reduceMul, Nat.reduceLeDiff, Nat.reduceLT, reduceIte, reduceCtorEq, Nat.succ_ne_zero, elemsC, Int.reduceToNat, Nat.reducePow]) | (simp (disch := (first | omega | (simp only [AL, List.length_map]; omega))) only [AR, AL, ifT, ifF, take_all, List.length_cons, List.length_nil, Int.reduceToNat, Int.reducePow, Nat.reducePow]) | (refine wk_intro (by kernel_rfl) ?_) | (refine vp_draw (id := 6) (l := []) (by kernel_rfl) ?_))
    refine vp_loop_inv (fun s => s.tmp 0 = .sv (natV a) ∧ s.tmp 1 = .sv (natV b) ∧ ∃ i : Nat, s.tmp 5 = .sv (.int .i64 i) ∧ i ≤ a.length ∧ a.take i = b.take i) (fun s => match s.tmp 5 with | .sv (.int _ i) => a.length - i.toNat | _ => 0) ⟨rfl, rfl, 0, rfl, by omega, rfl⟩ ?_
    rintro s ⟨i0, i1, i, i5, hi, ht⟩
    by_cases hend : i = a.length
    · subst hend
      rw [List.take_length, hl, List.take_length] at ht
      rw [decide_eq_true ht]
      repeat (first | (simp only [go_sem, Nat.reduceEqDiff, Nat.reduceAdd, Nat.reduceSub, Nat.reduceMul, Nat.reduceLeDiff, Nat.reduceLT, reduceIte, reduceCtorEq, Nat.succ_ne_zero, elemsC, Int.reduceToNat, Nat.reducePow, i0, i1, i5]) | (simp (disch := (first | omega | (simp only [AL, List.length_map]; omega))) only [AR, AL, ifT, ifF, take_all, List.length_cons, List.length_nil, Int.reduceToNat, Int.reducePow, Nat.reducePow, i0, i1, i5]) | (refine wk_intro (by kernel_rfl) ?_) | (refine vp_draw (id := 6) (l := []) (by kernel_rfl) ?_))
    · have e : ∀ c : List Nat, i < c.length → c.take (i + 1) = c.take i ++ [c.getD i 0] := by
        intro c hc
        rw [List.take_add_one, List.getD_eq_getElem?_getD, List.getElem?_eq_getElem hc]
        rfl
      by_cases hx : a.getD i 0 = b.getD i 0
      · repeat (first | (simp only [go_sem, Nat.reduceEqDiff, Nat.reduceAdd, Nat.reduceSub, Nat.reduceMul, Nat.reduceLeDiff, Nat.reduceLT, reduceIte, reduceCtorEq, Nat.succ_ne_zero, elemsC, Int.reduceToNat, Nat.reducePow, i0, i1, i5]) | (simp (disch := (first | omega | (simp only [AL, List.length_map]; omega))) only [AR, AL, ifT, ifF, take_all, List.length_cons, List.length_nil, Int.reduceToNat, Int.reducePow, Nat.reducePow, i0, i1, i5]) | (refine wk_intro (by kernel_rfl) ?_) | (refine vp_draw (id := 6) (l := []) (by kernel_rfl) ?_))
        exact ⟨⟨i + 1, rfl, by omega, by rw [e a (by omega), e b (by omega), ht, hx]⟩, by omega⟩
      · rw [decide_eq_false (fun h => hx (by rw [h]))]
        repeat (first | (simp only [go_sem, Nat.reduceEqDiff, Nat.reduceAdd, Nat.reduceSub, Nat.reduceMul, Nat.reduceLeDiff, Nat.reduceLT, reduceIte, reduceCtorEq, Nat.succ_ne_zero, elemsC, Int.reduceToNat, Nat.reducePow, i0, i1, i5]) | (simp (disch := (first | omega | (simp only [AL, List.length_map]; omega))) only [AR, AL, ifT, ifF, take_all, List.length_cons, List.length_nil, Int.reduceToNat, Int.reducePow, Nat.reducePow, i0, i1, i5]) | (refine wk_intro (by kernel_rfl) ?_) | (refine vp_draw (id := 6) (l := []) (by kernel_rfl) ?_))
  · rw [decide_eq_false (fun h => hl (by rw [h]))]
    repeat (first | (simp only [go_sem, Nat.reduceEqDiff, Nat.reduceAdd, Nat.reduceSub, Nat.reduceMul, Nat.reduceLeDiff, Nat.reduceLT, reduceIte, reduceCtorEq, Nat.succ_ne_zero, elemsC, Int.reduceToNat, Nat.reducePow]) | (simp (disch := (first | omega | (simp only [AL, List.length_map]; omega))) only [AR, AL, ifT, ifF, take_all, List.length_cons, List.length_nil, Int.reduceToNat, Int.reducePow, Nat.reducePow]) | (refine wk_intro (by kernel_rfl) ?_) | (refine vp_draw (id := 6) (l := []) (by kernel_rfl) ?_))
theorem ref2_Int (n : Int) (h : -9223372036854775808 ≤ n ∧ n < 9223372036854775808) : Go.Ev.Fn CX 23 [.int .i64 n] (rv (n : Rat)) := by
  have oN := ref1_Of n.natAbs (by omega)
  have e1 := int_u64 h
  have hl := lim_two (v := n.natAbs) |>.2 (by omega)
  have hOf := ref2_OfL (s := decide (n < 0)) (n := n.natAbs) (d := 1) (by omega) (by rw [lim_one]; simp)
  rw [lim_one, sgn_self, show mkRat n 1 = (n : Rat) from Rat.mkRat_one n] at hOf
  refine Go.Ev.Fn.intro (fn := Tryz.f23) (body := (Tryz.f23).body.get!) (by kernel_rfl) (by kernel_rfl) (by kernel_rfl) (fun _ => rfl) (Nat.le_of_ble_eq_true (by kernel_rfl)) ?_; unfold Tryz.f23; simp only [Option.get!_some]
  by_cases h0 : n < 0
  · rw [if_pos h0] at e1
    rw [decide_eq_true h0] at hOf
    have e2 : IntKind.u64.wrap (0 - ((18446744073709551616 - n.natAbs : Nat) : Int)) = (n.natAbs : Int) := by rw [IntKind.wrap_u64]; omega
    repeat (first | (simp only [go_sem, Nat.reduceEqDiff, Nat.reduceAdd, Nat.reduceSub, Nat.reduceMul, Nat.reduceLeDiff, Nat.reduceLT, reduceIte, reduceCtorEq, Nat.succ_ne_zero, elemsC, Int.reduceToNat, Nat.reducePow, e1, e2]) | (simp (disch := (first | omega | (simp only [AL, List.length_map]; omega))) only [AR, AL, ifT, ifF, take_all, List.length_cons, List.length_nil, Int.reduceToNat, Int.reducePow, Nat.reducePow, e1, e2]) | (refine wk_intro (by kernel_rfl) ?_) | (refine vf_of (by first | exact oN | exact hOf) ?_))
  · rw [if_neg h0] at e1
    rw [decide_eq_false h0] at hOf
    repeat (first | (simp only [go_sem, Nat.reduceEqDiff, Nat.reduceAdd, Nat.reduceSub, Nat.reduceMul, Nat.reduceLeDiff, Nat.reduceLT, reduceIte, reduceCtorEq, Nat.succ_ne_zero, elemsC, Int.reduceToNat, Nat.reducePow, e1]) | (simp (disch := (first | omega | (simp only [AL, List.length_map]; omega))) only [AR, AL, ifT, ifF, take_all, List.length_cons, List.length_nil, Int.reduceToNat, Int.reducePow, Nat.reducePow, e1]) | (refine wk_intro (by kernel_rfl) ?_) | (refine vf_of (by first | exact oN | exact hOf) ?_))
theorem ref2_Add {v w : SV} {q r : Rat} {L M : Nat} (hv : RatA v q L) (hw : RatA w r M) (hL : 1 ≤ L) (hM : 1 ≤ M) (h : L + M ≤ 8388608) : Go.Ev.Fn CX 33 [v, w] (rv (q + r)) := by
  have hnv := ref2_Norm hv (by omega)
  have hnw := ref2_Norm hw (by omega)
  obtain ⟨z1, z2⟩ := szR_of hv hL
  obtain ⟨y1, y2⟩ := szR_of hw hM
  have g1 := lim_len_mul (a := q.num.natAbs) (b := r.den)
  have g2 := lim_len_mul (a := r.num.natAbs) (b := q.den)
  have g3 := lim_len_mul (a := q.den) (b := r.den)
  have g4 := lim_len_add2 (a := q.num.natAbs * r.den) (b := r.num.natAbs * q.den) (L := L + M) (by omega) (by omega)
  have g5 := lim_len_mono (Nat.sub_le (q.num.natAbs * r.den) (r.num.natAbs * q.den))
  have g6 := lim_len_mono (Nat.sub_le (r.num.natAbs * q.den) (q.num.natAbs * r.den))
  obtain ⟨s, n, d, rfl, -⟩ := hv
  obtain ⟨s', n', d', rfl, -⟩ := hw
  have hbb := beq_bool (decide (q.num < 0)) (decide (r.num < 0))
  refine Go.Ev.Fn.intro (fn := Tryz.f33) (body := (Tryz.f33).body.get!) (by kernel_rfl) (by kernel_rfl) (by kernel_rfl) (fun _ => rfl) (Nat.le_of_ble_eq_true (by kernel_rfl)) ?_; unfold Tryz.f33; simp only [Option.get!_some]
  repeat (first | (simp only [go_sem, Nat.reduceEqDiff, Nat.reduceAdd, Nat.reduceSub, Nat.reduceMul, Nat.reduceLeDiff, Nat.reduceLT, reduceIte, reduceCtorEq, Nat.succ_ne_zero, elemsC, Int.reduceToNat, Nat.reducePow]) | (simp (disch := (first | omega | (simp only [AL, List.length_map]; omega))) only [AR, AL, ifT, ifF, take_all, List.length_cons, List.length_nil, Int.reduceToNat, Int.reducePow, Nat.reducePow]) | (refine wk_intro (by kernel_rfl) ?_) | (refine vp_draw (id := 1) (l := []) (by kernel_rfl) ?_) | (refine vp_draw (id := 2) (l := [19, 21, 24, 26]) (by kernel_rfl) ?_) | (refine vp_draw (id := 5) (l := [7, 8, 42, 9]) (by kernel_rfl) ?_) | (refine vf_of (by first | exact hnv | exact hnw) ?_))
  refine vf_of (ref1_MulL (by omega) (by omega)) ?_; repeat (first | (simp only [go_sem, Nat.reduceEqDiff, Nat.reduceAdd, Nat.reduceSub, Nat.reduceMul, Nat.reduceLeDiff, Nat.reduceLT, reduceIte, reduceCtorEq, Nat.succ_ne_zero, elemsC, Int.reduceToNat, Nat.reducePow]) | (simp (disch := (first | omega | (simp only [AL, List.length_map]; omega))) only [AR, AL, ifT, ifF, take_all, List.length_cons, List.length_nil, Int.reduceToNat, Int.reducePow, Nat.reducePow]) | (refine wk_intro (by kernel_rfl) ?_) | (refine vp_draw (id := 1) (l := []) (by kernel_rfl) ?_) | (refine vp_draw (id := 2) (l := [19, 21, 24, 26]) (by kernel_rfl) ?_) | (refine vp_draw (id := 5) (l := [7, 8, 42, 9]) (by kernel_rfl) ?_))
  refine vf_of (ref1_MulL (by omega) (by omega)) ?_; repeat (first | (simp only [go_sem, Nat.reduceEqDiff, Nat.reduceAdd, Nat.reduceSub, Nat.reduceMul, Nat.reduceLeDiff, Nat.reduceLT, reduceIte, reduceCtorEq, Nat.succ_ne_zero, elemsC, Int.reduceToNat, Nat.reducePow]) | (simp (disch := (first | omega | (simp only [AL, List.length_map]; omega))) only [AR, AL, ifT, ifF, take_all, List.length_cons, List.length_nil, Int.reduceToNat, Int.reducePow, Nat.reducePow]) | (refine wk_intro (by kernel_rfl) ?_) | (refine vp_draw (id := 1) (l := []) (by kernel_rfl) ?_) | (refine vp_draw (id := 2) (l := [19, 21, 24, 26]) (by kernel_rfl) ?_) | (refine vp_draw (id := 5) (l := [7, 8, 42, 9]) (by kernel_rfl) ?_))
  refine vf_of (ref1_MulL (by omega) (by omega)) ?_; repeat (first | (simp only [go_sem, Nat.reduceEqDiff, Nat.reduceAdd, Nat.reduceSub, Nat.reduceMul, Nat.reduceLeDiff, Nat.reduceLT, reduceIte, reduceCtorEq, Nat.succ_ne_zero, elemsC, Int.reduceToNat, Nat.reducePow, hbb]) | (simp (disch := (first | omega | (simp only [AL, List.length_map]; omega))) only [AR, AL, ifT, ifF, take_all, List.length_cons, List.length_nil, Int.reduceToNat, Int.reducePow, Nat.reducePow, hbb]) | (refine wk_intro (by kernel_rfl) ?_) | (refine vp_draw (id := 1) (l := []) (by kernel_rfl) ?_) | (refine vp_draw (id := 2) (l := [19, 21, 24, 26]) (by kernel_rfl) ?_) | (refine vp_draw (id := 5) (l := [7, 8, 42, 9]) (by kernel_rfl) ?_))
  by_cases hs : decide (q.num < 0) = decide (r.num < 0)
  · have hOf := ref2_OfL (s := decide (q.num < 0)) (n := q.num.natAbs * r.den + r.num.natAbs * q.den) (d := q.den * r.den) (by omega) (by omega)
    rw [add_same q r hs] at hOf
    rw [decide_eq_true hs]
    repeat (first | (simp only [go_sem, Nat.reduceEqDiff, Nat.reduceAdd, Nat.reduceSub, Nat.reduceMul, Nat.reduceLeDiff, Nat.reduceLT, reduceIte, reduceCtorEq, Nat.succ_ne_zero, elemsC, Int.reduceToNat, Nat.reducePow]) | (simp (disch := (first | omega | (simp only [AL, List.length_map]; omega))) only [AR, AL, ifT, ifF, take_all, List.length_cons, List.length_nil, Int.reduceToNat, Int.reducePow, Nat.reducePow]) | (refine wk_intro (by kernel_rfl) ?_) | (refine vp_draw (id := 1) (l := []) (by kernel_rfl) ?_) | (refine vp_draw (id := 2) (l := [19, 21, 24, 26]) (by kernel_rfl) ?_) | (refine vp_draw (id := 5) (l := [7, 8, 42, 9]) (by kernel_rfl) ?_))
    refine vf_of (ref1_AddL (by omega) (by omega)) ?_; repeat (first | (simp only [go_sem, Nat.reduceEqDiff, Nat.reduceAdd, Nat.reduceSub, Nat.reduceMul, Nat.reduceLeDiff, Nat.reduceLT, reduceIte, reduceCtorEq, Nat.succ_ne_zero, elemsC, Int.reduceToNat, Nat.reducePow]) | (simp (disch := (first | omega | (simp only [AL, List.length_map]; omega))) only [AR, AL, ifT, ifF, take_all, List.length_cons, List.length_nil, Int.reduceToNat, Int.reducePow, Nat.reducePow]) | (refine wk_intro (by kernel_rfl) ?_) | (refine vp_draw (id := 1) (l := []) (by kernel_rfl) ?_) | (refine vp_draw (id := 2) (l := [19, 21, 24, 26]) (by kernel_rfl) ?_) | (refine vp_draw (id := 5) (l := [7, 8, 42, 9]) (by kernel_rfl) ?_))
    refine vf_of (hOf) ?_; repeat (first | (simp only [go_sem, Nat.reduceEqDiff, Nat.reduceAdd, Nat.reduceSub, Nat.reduceMul, Nat.reduceLeDiff, Nat.reduceLT, reduceIte, reduceCtorEq, Nat.succ_ne_zero, elemsC, Int.reduceToNat, Nat.reducePow]) | (simp (disch := (first | omega | (simp only [AL, List.length_map]; omega))) only [AR, AL, ifT, ifF, take_all, List.length_cons, List.length_nil, Int.reduceToNat, Int.reducePow, Nat.reducePow]) | (refine wk_intro (by kernel_rfl) ?_) | (refine vp_draw (id := 1) (l := []) (by kernel_rfl) ?_) | (refine vp_draw (id := 2) (l := [19, 21, 24, 26]) (by kernel_rfl) ?_) | (refine vp_draw (id := 5) (l := [7, 8, 42, 9]) (by kernel_rfl) ?_))
  · rw [decide_eq_false hs]
    have hc := ref1_CmpL (N := q.num.natAbs * r.den) (D := r.num.natAbs * q.den) (by omega) (by omega)
    repeat (first | (simp only [go_sem, Nat.reduceEqDiff, Nat.reduceAdd, Nat.reduceSub, Nat.reduceMul, Nat.reduceLeDiff, Nat.reduceLT, reduceIte, reduceCtorEq, Nat.succ_ne_zero, elemsC, Int.reduceToNat, Nat.reducePow]) | (simp (disch := (first | omega | (simp only [AL, List.length_map]; omega))) only [AR, AL, ifT, ifF, take_all, List.length_cons, List.length_nil, Int.reduceToNat, Int.reducePow, Nat.reducePow]) | (refine wk_intro (by kernel_rfl) ?_) | (refine vp_draw (id := 1) (l := []) (by kernel_rfl) ?_) | (refine vp_draw (id := 2) (l := [19, 21, 24, 26]) (by kernel_rfl) ?_) | (refine vp_draw (id := 5) (l := [7, 8, 42, 9]) (by kernel_rfl) ?_))
    by_cases h2 : r.num.natAbs * q.den ≤ q.num.natAbs * r.den
    · have hOf := ref2_OfL (s := decide (q.num < 0)) (n := q.num.natAbs * r.den - r.num.natAbs * q.den) (d := q.den * r.den) (by omega) (by omega)
      rw [add_ge q r hs h2] at hOf
      have hcc : decide (cmpN (q.num.natAbs * r.den) (r.num.natAbs * q.den) ≥ 0) = true := by
        have := cmpN_ge h2
        rw [decide_eq_false_iff_not] at this
        exact decide_eq_true (by omega)
      refine vf_of (hc) ?_; repeat (first | (simp only [go_sem, Nat.reduceEqDiff, Nat.reduceAdd, Nat.reduceSub, Nat.reduceMul, Nat.reduceLeDiff, Nat.reduceLT, reduceIte, reduceCtorEq, Nat.succ_ne_zero, elemsC, Int.reduceToNat, Nat.reducePow, hcc]) | (simp (disch := (first | omega | (simp only [AL, List.length_map]; omega))) only [AR, AL, ifT, ifF, take_all, List.length_cons, List.length_nil, Int.reduceToNat, Int.reducePow, Nat.reducePow, hcc]) | (refine wk_intro (by kernel_rfl) ?_) | (refine vp_draw (id := 1) (l := []) (by kernel_rfl) ?_) | (refine vp_draw (id := 2) (l := [19, 21, 24, 26]) (by kernel_rfl) ?_) | (refine vp_draw (id := 5) (l := [7, 8, 42, 9]) (by kernel_rfl) ?_))
      refine vf_of (ref1_SubL (by omega) (by omega)) ?_; repeat (first | (simp only [go_sem, Nat.reduceEqDiff, Nat.reduceAdd, Nat.reduceSub, Nat.reduceMul, Nat.reduceLeDiff, Nat.reduceLT, reduceIte, reduceCtorEq, Nat.succ_ne_zero, elemsC, Int.reduceToNat, Nat.reducePow]) | (simp (disch := (first | omega | (simp only [AL, List.length_map]; omega))) only [AR, AL, ifT, ifF, take_all, List.length_cons, List.length_nil, Int.reduceToNat, Int.reducePow, Nat.reducePow]) | (refine wk_intro (by kernel_rfl) ?_) | (refine vp_draw (id := 1) (l := []) (by kernel_rfl) ?_) | (refine vp_draw (id := 2) (l := [19, 21, 24, 26]) (by kernel_rfl) ?_) | (refine vp_draw (id := 5) (l := [7, 8, 42, 9]) (by kernel_rfl) ?_))
      refine vf_of (hOf) ?_; repeat (first | (simp only [go_sem, Nat.reduceEqDiff, Nat.reduceAdd, Nat.reduceSub, Nat.reduceMul, Nat.reduceLeDiff, Nat.reduceLT, reduceIte, reduceCtorEq, Nat.succ_ne_zero, elemsC, Int.reduceToNat, Nat.reducePow]) | (simp (disch := (first | omega | (simp only [AL, List.length_map]; omega))) only [AR, AL, ifT, ifF, take_all, List.length_cons, List.length_nil, Int.reduceToNat, Int.reducePow, Nat.reducePow]) | (refine wk_intro (by kernel_rfl) ?_) | (refine vp_draw (id := 1) (l := []) (by kernel_rfl) ?_) | (refine vp_draw (id := 2) (l := [19, 21, 24, 26]) (by kernel_rfl) ?_) | (refine vp_draw (id := 5) (l := [7, 8, 42, 9]) (by kernel_rfl) ?_))
    · have hOf := ref2_OfL (s := decide (r.num < 0)) (n := r.num.natAbs * q.den - q.num.natAbs * r.den) (d := q.den * r.den) (by omega) (by omega)
      rw [add_lt q r hs (by omega)] at hOf
      rw [cmpN_lt (by omega)] at hc
      refine vf_of (hc) ?_; repeat (first | (simp only [go_sem, Nat.reduceEqDiff, Nat.reduceAdd, Nat.reduceSub, Nat.reduceMul, Nat.reduceLeDiff, Nat.reduceLT, reduceIte, reduceCtorEq, Nat.succ_ne_zero, elemsC, Int.reduceToNat, Nat.reducePow]) | (simp (disch := (first | omega | (simp only [AL, List.length_map]; omega))) only [AR, AL, ifT, ifF, take_all, List.length_cons, List.length_nil, Int.reduceToNat, Int.reducePow, Nat.reducePow]) | (refine wk_intro (by kernel_rfl) ?_) | (refine vp_draw (id := 1) (l := []) (by kernel_rfl) ?_) | (refine vp_draw (id := 2) (l := [19, 21, 24, 26]) (by kernel_rfl) ?_) | (refine vp_draw (id := 5) (l := [7, 8, 42, 9]) (by kernel_rfl) ?_))
      refine vf_of (ref1_SubL (by omega) (by omega)) ?_; repeat (first | (simp only [go_sem, Nat.reduceEqDiff, Nat.reduceAdd, Nat.reduceSub, Nat.reduceMul, Nat.reduceLeDiff, Nat.reduceLT, reduceIte, reduceCtorEq, Nat.succ_ne_zero, elemsC, Int.reduceToNat, Nat.reducePow]) | (simp (disch := (first | omega | (simp only [AL, List.length_map]; omega))) only [AR, AL, ifT, ifF, take_all, List.length_cons, List.length_nil, Int.reduceToNat, Int.reducePow, Nat.reducePow]) | (refine wk_intro (by kernel_rfl) ?_) | (refine vp_draw (id := 1) (l := []) (by kernel_rfl) ?_) | (refine vp_draw (id := 2) (l := [19, 21, 24, 26]) (by kernel_rfl) ?_) | (refine vp_draw (id := 5) (l := [7, 8, 42, 9]) (by kernel_rfl) ?_))
      refine vf_of (hOf) ?_; repeat (first | (simp only [go_sem, Nat.reduceEqDiff, Nat.reduceAdd, Nat.reduceSub, Nat.reduceMul, Nat.reduceLeDiff, Nat.reduceLT, reduceIte, reduceCtorEq, Nat.succ_ne_zero, elemsC, Int.reduceToNat, Nat.reducePow]) | (simp (disch := (first | omega | (simp only [AL, List.length_map]; omega))) only [AR, AL, ifT, ifF, take_all, List.length_cons, List.length_nil, Int.reduceToNat, Int.reducePow, Nat.reducePow]) | (refine wk_intro (by kernel_rfl) ?_) | (refine vp_draw (id := 1) (l := []) (by kernel_rfl) ?_) | (refine vp_draw (id := 2) (l := [19, 21, 24, 26]) (by kernel_rfl) ?_) | (refine vp_draw (id := 5) (l := [7, 8, 42, 9]) (by kernel_rfl) ?_))
end Go.Proofs.YtemnjalaincijaaGreat
namespace Go.Proofs.YtemnjalaincijaaGreat
open Go.Ev
theorem szR_zero {L : Nat} (h : 1 ≤ L) : szR 0 L := ⟨by rw [show (0 : Rat).num.natAbs = 0 by rfl, lim_zero]; simp, by rw [show (0 : Rat).den = 1 by rfl, lim_one]; exact h⟩
theorem szR_mul {q r : Rat} {L M : Nat} (h1 : szR q L) (h2 : szR r M) (hL : 1 ≤ L) : szR (q * r) (L + M) := by
  rw [← mul_parts]
  have g1 := lim_len_mul (a := q.num.natAbs) (b := r.num.natAbs)
  have g2 := lim_len_mul (a := q.den) (b := r.den)
  obtain ⟨a1, a2⟩ := h1
  obtain ⟨b1, b2⟩ := h2
  exact szR_mk (by omega) (by omega) (by omega)
theorem szR_add {q r : Rat} {L M : Nat} (h1 : szR q L) (h2 : szR r M) (hL : 1 ≤ L) : szR (q + r) (L + M + 1) := by
  have g1 := lim_len_mul (a := q.num.natAbs) (b := r.den)
  have g2 := lim_len_mul (a := r.num.natAbs) (b := q.den)
  have g3 := lim_len_mul (a := q.den) (b := r.den)
  obtain ⟨a1, a2⟩ := h1
  obtain ⟨b1, b2⟩ := h2
  have g4 := lim_len_add2 (a := q.num.natAbs * r.den) (b := r.num.natAbs * q.den) (L := L + M) (by omega) (by omega)
  have e : q + r = mkRat (sgn (decide (sgn (decide (q.num < 0)) (q.num.natAbs * r.den) + sgn (decide (r.num < 0)) (r.num.natAbs * q.den) < 0)) (sgn (decide (q.num < 0)) (q.num.natAbs * r.den) + sgn (decide (r.num < 0)) (r.num.natAbs * q.den)).natAbs) (q.den * r.den) := by
    rw [sgn_self]; exact add_parts q r
  rw [e]
  refine szR_mk (Nat.le_trans (lim_len_mono ?_) g4) (by omega) (by omega)
  have := Int.natAbs_add_le (sgn (decide (q.num < 0)) (q.num.natAbs * r.den)) (sgn (decide (r.num < 0)) (r.num.natAbs * q.den))
  rw [sgn_abs, sgn_abs] at this
  exact this
theorem szR_sub {q r : Rat} {L M : Nat} (h1 : szR q L) (h2 : szR r M) (hL : 1 ≤ L) : szR (q - r) (L + M + 1) := by
  rw [Rat.sub_eq_add_neg]
  exact szR_add h1 (szR_neg h2) hL
theorem ref2_Neg {v : SV} {q : Rat} {L : Nat} (hv : RatA v q L) (hL : 1 ≤ L) (h : L ≤ 8388608) : Go.Ev.Fn CX 36 [v] (rv (-q)) := by
  have hnv := ref2_Norm hv (by omega)
  obtain ⟨z1, z2⟩ := szR_of hv hL
  rw [neg_parts]
  obtain ⟨s, n, d, rfl, -⟩ := hv
  refine Go.Ev.Fn.intro (fn := Tryz.f36) (body := (Tryz.f36).body.get!) (by kernel_rfl) (by kernel_rfl) (by kernel_rfl) (fun _ => rfl) (Nat.le_of_ble_eq_true (by kernel_rfl)) ?_; unfold Tryz.f36; simp only [Option.get!_some]
  repeat (first | (simp only [go_sem, Nat.reduceEqDiff, Nat.reduceAdd, Nat.reduceSub, Nat.reduceMul, Nat.reduceLeDiff, Nat.reduceLT, reduceIte, reduceCtorEq, Nat.succ_ne_zero, elemsC, Int.reduceToNat, Nat.reducePow]) | (simp (disch := (first | omega | (simp only [AL, List.length_map]; omega))) only [AR, AL, ifT, ifF, take_all, List.length_cons, List.length_nil, Int.reduceToNat, Int.reducePow, Nat.reducePow]) | (refine wk_intro (by kernel_rfl) ?_) | (refine vf_of (by first | exact hnv) ?_))
  cases hs : decide (q.num < 0)
  · rcases Nat.eq_zero_or_pos (lim q.num.natAbs).length with h0 | h0
    · rw [decide_eq_false (show ¬ 0 < (lim q.num.natAbs).length by omega)]
      repeat (first | (simp only [go_sem, Nat.reduceEqDiff, Nat.reduceAdd, Nat.reduceSub, Nat.reduceMul, Nat.reduceLeDiff, Nat.reduceLT, reduceIte, reduceCtorEq, Nat.succ_ne_zero, elemsC, Int.reduceToNat, Nat.reducePow, Bool.not_true, Bool.not_false]) | (simp (disch := (first | omega | (simp only [AL, List.length_map]; omega))) only [AR, AL, ifT, ifF, take_all, List.length_cons, List.length_nil, Int.reduceToNat, Int.reducePow, Nat.reducePow, Bool.not_true, Bool.not_false]) | (refine wk_intro (by kernel_rfl) ?_))
    · rw [decide_eq_true h0]
      repeat (first | (simp only [go_sem, Nat.reduceEqDiff, Nat.reduceAdd, Nat.reduceSub, Nat.reduceMul, Nat.reduceLeDiff, Nat.reduceLT, reduceIte, reduceCtorEq, Nat.succ_ne_zero, elemsC, Int.reduceToNat, Nat.reducePow, Bool.not_true, Bool.not_false]) | (simp (disch := (first | omega | (simp only [AL, List.length_map]; omega))) only [AR, AL, ifT, ifF, take_all, List.length_cons, List.length_nil, Int.reduceToNat, Int.reducePow, Nat.reducePow, Bool.not_true, Bool.not_false]) | (refine wk_intro (by kernel_rfl) ?_))
  · repeat (first | (simp only [go_sem, Nat.reduceEqDiff, Nat.reduceAdd, Nat.reduceSub, Nat.reduceMul, Nat.reduceLeDiff, Nat.reduceLT, reduceIte, reduceCtorEq, Nat.succ_ne_zero, elemsC, Int.reduceToNat, Nat.reducePow, Bool.not_true, Bool.not_false]) | (simp (disch := (first | omega | (simp only [AL, List.length_map]; omega))) only [AR, AL, ifT, ifF, take_all, List.length_cons, List.length_nil, Int.reduceToNat, Int.reducePow, Nat.reducePow, Bool.not_true, Bool.not_false]) | (refine wk_intro (by kernel_rfl) ?_))
    rfl
end Go.Proofs.YtemnjalaincijaaGreat
namespace Go.Proofs.YtemnjalaincijaaGreat
open Go.Ev
def cmpR (q r : Rat) : Int := if q < r then -1 else if q = r then 0 else 1
theorem sub_num {q r : Rat} : (q - r).num < 0 ↔ q < r := by
  have h : (q - r).num < 0 ↔ q - r < 0 := by
    have := Rat.num_nonneg (q := q - r)
    constructor
    · intro h
      have h1 : ¬ 0 ≤ q - r := fun g => absurd (this.2 g) (by omega)
      grind
    · intro h
      rcases Int.lt_or_le (q - r).num 0 with h1 | h1
      · exact h1
      · exact absurd (this.1 h1) (by grind)
  rw [h]
  constructor <;> intro h <;> grind
theorem sub_zero' {q r : Rat} : (q - r).num = 0 ↔ q = r := by
  rw [Rat.num_eq_zero]
  constructor <;> intro h <;> grind
theorem int_szR {n : Int} (h : -9223372036854775808 ≤ n ∧ n ≤ 9223372036854775808) : szR (n : Rat) 2 := by
  refine ⟨?_, ?_⟩
  · show (lim n.natAbs).length ≤ 2
    exact lim_two.2 (by omega)
  · show (lim 1).length ≤ 2
    rw [lim_one]; simp
theorem rat_Cmp {v w : SV} {q r : Rat} {L M : Nat} (hv : RatA v q L) (hw : RatA w r M) (hL : 1 ≤ L) (hM : 1 ≤ M) (h : L + M ≤ 268435456) : Go.Ev.Fn CX 115 [v, w] (.int .i64 (cmpR q r)) := by
  have hs := rat_Sub hv hw hL hM h
  have hz := szR_sub (szR_of hv hL) (szR_of hw hM) hL
  obtain ⟨s, n, d, rfl, -⟩ := hv
  obtain ⟨s', n', d', rfl, -⟩ := hw
  obtain ⟨y1, -⟩ := hz
  refine Go.Ev.Fn.intro (fn := Tryz.f115) (body := (Tryz.f115).body.get!) (by kernel_rfl) (by kernel_rfl) (by kernel_rfl) (fun _ => rfl) (Nat.le_of_ble_eq_true (by kernel_rfl)) ?_; unfold Tryz.f115; simp only [Option.get!_some]
  by_cases h1 : q < r
  · have e : decide ((q - r).num < 0) = true := decide_eq_true (sub_num.2 h1)
    rw [show cmpR q r = -1 from if_pos h1]
    repeat (first | (simp only [go_sem, Nat.reduceEqDiff, Nat.reduceAdd, Nat.reduceSub, Nat.reduceMul, Nat.reduceLeDiff, Nat.reduceLT, reduceIte, reduceCtorEq, Nat.succ_ne_zero, elemsC, Int.reduceToNat, Nat.reducePow, e]) | (simp (disch := (first | omega | (simp only [AL, List.length_map]; omega))) only [AR, AL, ifT, ifF, take_all, List.length_cons, List.length_nil, Int.reduceToNat, Int.reducePow, Nat.reducePow, e]) | (refine wk_intro (by kernel_rfl) ?_) | (refine vf_of (by first | exact hs) ?_))
  · have e : decide ((q - r).num < 0) = false := decide_eq_false (fun h => h1 (sub_num.1 h))
    by_cases h2 : q = r
    · have e2 : (lim (q - r).num.natAbs).length = 0 := by rw [sub_zero'.2 h2]; simp [lim_zero]
      rw [show cmpR q r = 0 by unfold cmpR; rw [if_neg h1, if_pos h2]]
      repeat (first | (simp only [go_sem, Nat.reduceEqDiff, Nat.reduceAdd, Nat.reduceSub, Nat.reduceMul, Nat.reduceLeDiff, Nat.reduceLT, reduceIte, reduceCtorEq, Nat.succ_ne_zero, elemsC, Int.reduceToNat, Nat.reducePow, e]) | (simp (disch := (first | omega | (simp only [AL, List.length_map]; omega))) only [AR, AL, ifT, ifF, take_all, List.length_cons, List.length_nil, Int.reduceToNat, Int.reducePow, Nat.reducePow, e]) | (refine wk_intro (by kernel_rfl) ?_) | (refine vf_of (by first | exact hs) ?_))
    · have e2 := lim_pos (N := (q - r).num.natAbs) (fun h => h2 (sub_zero'.1 (by omega)))
      rw [show cmpR q r = 1 by unfold cmpR; rw [if_neg h1, if_neg h2]]
      repeat (first | (simp only [go_sem, Nat.reduceEqDiff, Nat.reduceAdd, Nat.reduceSub, Nat.reduceMul, Nat.reduceLeDiff, Nat.reduceLT, reduceIte, reduceCtorEq, Nat.succ_ne_zero, elemsC, Int.reduceToNat, Nat.reducePow, e]) | (simp (disch := (first | omega | (simp only [AL, List.length_map]; omega))) only [AR, AL, ifT, ifF, take_all, List.length_cons, List.length_nil, Int.reduceToNat, Int.reducePow, Nat.reducePow, e]) | (refine wk_intro (by kernel_rfl) ?_) | (refine vf_of (by first | exact hs) ?_))
theorem ref2_Sub {v w : SV} {q r : Rat} {L M : Nat} (hv : RatA v q L) (hw : RatA w r M) (hL : 1 ≤ L) (hM : 1 ≤ M) (h : L + M ≤ 8388608) : Go.Ev.Fn CX 52 [v, w] (rv (q - r)) := by
  have hN := ref2_Neg hw hM (by omega)
  have hA := ref2_Add hv (RatA_rv (szR_neg (szR_of hw hM))) hL hM h
  rw [← Rat.sub_eq_add_neg] at hA
  obtain ⟨s, n, d, rfl, -⟩ := hv
  obtain ⟨s', n', d', rfl, -⟩ := hw
  refine Go.Ev.Fn.intro (fn := Tryz.f52) (body := (Tryz.f52).body.get!) (by kernel_rfl) (by kernel_rfl) (by kernel_rfl) (fun _ => rfl) (Nat.le_of_ble_eq_true (by kernel_rfl)) ?_; unfold Tryz.f52; simp only [Option.get!_some]
  repeat (first | (simp only [go_sem, Nat.reduceEqDiff, Nat.reduceAdd, Nat.reduceSub, Nat.reduceMul, Nat.reduceLeDiff, Nat.reduceLT, reduceIte, reduceCtorEq, Nat.succ_ne_zero, elemsC, Int.reduceToNat, Nat.reducePow]) | (simp (disch := (first | omega | (simp only [AL, List.length_map]; omega))) only [AR, AL, ifT, ifF, take_all, List.length_cons, List.length_nil, Int.reduceToNat, Int.reducePow, Nat.reducePow]) | (refine wk_intro (by kernel_rfl) ?_) | (refine vp_draw (id := 1) (l := []) (by kernel_rfl) ?_) | (refine vf_of (by first | exact hN | exact hA) ?_))
theorem ref2_Cmp {v w : SV} {q r : Rat} {L M : Nat} (hv : RatA v q L) (hw : RatA w r M) (hL : 1 ≤ L) (hM : 1 ≤ M) (h : L + M ≤ 8388608) : Go.Ev.Fn CX 39 [v, w] (.int .i64 (cmpR q r)) := by
  have hs := ref2_Sub hv hw hL hM h
  have hz := szR_sub (szR_of hv hL) (szR_of hw hM) hL
  obtain ⟨s, n, d, rfl, -⟩ := hv
  obtain ⟨s', n', d', rfl, -⟩ := hw
  obtain ⟨y1, -⟩ := hz
  refine Go.Ev.Fn.intro (fn := Tryz.f39) (body := (Tryz.f39).body.get!) (by kernel_rfl) (by kernel_rfl) (by kernel_rfl) (fun _ => rfl) (Nat.le_of_ble_eq_true (by kernel_rfl)) ?_; unfold Tryz.f39; simp only [Option.get!_some]
  by_cases h2 : q = r
  · have e2 : (lim (q - r).num.natAbs).length = 0 := by rw [sub_zero'.2 h2]; simp [lim_zero]
    have h1 : ¬ q < r := by grind
    rw [show cmpR q r = 0 by unfold cmpR; rw [if_neg h1, if_pos h2]]
    repeat (first | (simp only [go_sem, Nat.reduceEqDiff, Nat.reduceAdd, Nat.reduceSub, Nat.reduceMul, Nat.reduceLeDiff, Nat.reduceLT, reduceIte, reduceCtorEq, Nat.succ_ne_zero, elemsC, Int.reduceToNat, Nat.reducePow]) | (simp (disch := (first | omega | (simp only [AL, List.length_map]; omega))) only [AR, AL, ifT, ifF, take_all, List.length_cons, List.length_nil, Int.reduceToNat, Int.reducePow, Nat.reducePow]) | (refine wk_intro (by kernel_rfl) ?_) | (refine vf_of (by first | exact hs) ?_))
  · have e2 := lim_pos (N := (q - r).num.natAbs) (fun h => h2 (sub_zero'.1 (by omega)))
    by_cases h1 : q < r
    · have e : decide ((q - r).num < 0) = true := decide_eq_true (sub_num.2 h1)
      rw [show cmpR q r = -1 from if_pos h1]
      repeat (first | (simp only [go_sem, Nat.reduceEqDiff, Nat.reduceAdd, Nat.reduceSub, Nat.reduceMul, Nat.reduceLeDiff, Nat.reduceLT, reduceIte, reduceCtorEq, Nat.succ_ne_zero, elemsC, Int.reduceToNat, Nat.reducePow, e]) | (simp (disch := (first | omega | (simp only [AL, List.length_map]; omega))) only [AR, AL, ifT, ifF, take_all, List.length_cons, List.length_nil, Int.reduceToNat, Int.reducePow, Nat.reducePow, e]) | (refine wk_intro (by kernel_rfl) ?_) | (refine vf_of (by first | exact hs) ?_))
    · have e : decide ((q - r).num < 0) = false := decide_eq_false (fun h => h1 (sub_num.1 h))
      rw [show cmpR q r = 1 by unfold cmpR; rw [if_neg h1, if_neg h2]]
      repeat (first | (simp only [go_sem, Nat.reduceEqDiff, Nat.reduceAdd, Nat.reduceSub, Nat.reduceMul, Nat.reduceLeDiff, Nat.reduceLT, reduceIte, reduceCtorEq, Nat.succ_ne_zero, elemsC, Int.reduceToNat, Nat.reducePow, e]) | (simp (disch := (first | omega | (simp only [AL, List.length_map]; omega))) only [AR, AL, ifT, ifF, take_all, List.length_cons, List.length_nil, Int.reduceToNat, Int.reducePow, Nat.reducePow, e]) | (refine wk_intro (by kernel_rfl) ?_) | (refine vf_of (by first | exact hs) ?_))
theorem cmpR_gt {q r : Rat} : decide (cmpR q r > 0) = decide (r < q) := by
  unfold cmpR
  by_cases h1 : q < r
  · rw [if_pos h1, decide_eq_false (by decide), decide_eq_false (by grind)]
  · rw [if_neg h1]
    by_cases h2 : q = r
    · rw [if_pos h2, decide_eq_false (by decide), decide_eq_false (by grind)]
    · rw [if_neg h2, decide_eq_true (by decide), decide_eq_true (by grind)]
theorem cmpR_lt {q r : Rat} : decide (cmpR q r < 0) = decide (q < r) := by
  unfold cmpR
  by_cases h1 : q < r
  · rw [if_pos h1, decide_eq_true (by decide), decide_eq_true h1]
  · rw [if_neg h1, decide_eq_false h1]
    by_cases h2 : q = r
    · rw [if_pos h2, decide_eq_false (by decide)]
    · rw [if_neg h2, decide_eq_false (by decide)]
theorem cmpR_le {q r : Rat} : decide (cmpR q r ≤ 0) = decide (q ≤ r) := by
  unfold cmpR
  by_cases h1 : q < r
  · rw [if_pos h1, decide_eq_true (by decide), decide_eq_true (show q ≤ r by grind)]
  · rw [if_neg h1]
    by_cases h2 : q = r
    · rw [if_pos h2, decide_eq_true (by decide), decide_eq_true (show q ≤ r by grind)]
    · rw [if_neg h2, decide_eq_false (by decide), decide_eq_false (show ¬ q ≤ r by grind)]
theorem b_and64i {a b : Nat} (ha : a < 9223372036854775808) (hb : b < 9223372036854775808) : bitsSV .and .i64 (a : Int) (b : Int) = some (.int .i64 ((a &&& b : Nat) : Int)) := by
  have h : a &&& b < 2 ^ 63 := Nat.lt_of_le_of_lt Nat.and_le_left ha
  have e : IntKind.i64.wrap ((BitVec.ofInt IntKind.i64.bits (a : Int) &&& BitVec.ofInt IntKind.i64.bits (b : Int)).toNat : Int) = ((a &&& b : Nat) : Int) := by
    show IntKind.i64.wrap ((BitVec.ofInt 64 (a : Int) &&& BitVec.ofInt 64 (b : Int)).toNat : Int) = _
    rw [ofInt_nat, ofInt_nat, BitVec.toNat_and, BitVec.toNat_ofNat, BitVec.toNat_ofNat, Nat.mod_eq_of_lt (show a < 2 ^ 64 by omega), Nat.mod_eq_of_lt (show b < 2 ^ 64 by omega), wI64 (by omega)]
  show some (SV.int _ _) = _
  rw [e]
theorem and_one64 {a : Nat} (ha : a < 9223372036854775808) : bitsSV .and .i64 (a : Int) 1 = some (.int .i64 ((a % 2 : Nat) : Int)) := by
  have := b_and64i ha (b := 1) (by omega)
  rw [and_one] at this
  exact this
theorem lim_len1 : (lim 1).length ≤ 1 := lim_len_one (by decide)
end Go.Proofs.YtemnjalaincijaaGreat
namespace Go.Proofs.YtemnjalaincijaaGreat
open Go.Ev
abbrev p2 (w : Nat) : Rat := ((2 ^ w : Nat) : Rat)
theorem p2_pos (w : Nat) : 0 < p2 w := by
  have : 0 < 2 ^ w := Nat.pow_pos (by omega)
  exact_mod_cast this
def Enc (w a b : Nat) (q : Rat) : Prop := (a : Rat) ≤ q * p2 w ∧ q * p2 w ≤ (b : Rat)
theorem floor_le {a d : Nat} : ((a / d : Nat) : Rat) * (d : Rat) ≤ (a : Rat) := by
  have := Nat.div_mul_le_self a d
  exact_mod_cast this
theorem le_floor {a d : Nat} (hd : 0 < d) : (a : Rat) ≤ ((a / d + 1 : Nat) : Rat) * (d : Rat) := by
  have h2 : a ≤ (a / d + 1) * d := by
    have := Nat.div_add_mod a d
    have h3 := Nat.mod_lt a hd
    rw [Nat.add_mul, Nat.one_mul, Nat.mul_comm]
    omega
  exact_mod_cast h2
theorem enc_add {w a b c d : Nat} {q r : Rat} (h1 : Enc w a b q) (h2 : Enc w c d r) : Enc w (a + c) (b + d) (q + r) := by
  obtain ⟨x1, x2⟩ := h1
  obtain ⟨y1, y2⟩ := h2
  have e1 : ((a + c : Nat) : Rat) = (a : Rat) + (c : Rat) := by exact_mod_cast rfl
  have e2 : ((b + d : Nat) : Rat) = (b : Rat) + (d : Rat) := by exact_mod_cast rfl
  unfold Enc
  rw [e1, e2]
  constructor <;> grind
theorem enc_wider {w a b n : Nat} {q : Rat} (h : Enc w a b q) : Enc w a (b + n) q := by
  obtain ⟨x1, x2⟩ := h
  refine ⟨x1, Rat.le_trans x2 ?_⟩
  have : b ≤ b + n := Nat.le_add_right _ _
  exact_mod_cast this
theorem enc_nonneg {w a b : Nat} {q : Rat} (h : Enc w a b q) : 0 ≤ q := by
  have h0 : (0 : Rat) ≤ (a : Rat) := by exact_mod_cast Nat.zero_le a
  have h1 : 0 ≤ q * p2 w := Rat.le_trans h0 h.1
  rcases Rat.le_total (a := 0) (b := q) with h2 | h2
  · exact h2
  · by_cases e : q = 0
    · rw [e]; exact Rat.le_refl
    · have : q * p2 w < 0 := by
        have h3 : 0 < (-q) * p2 w := Rat.mul_pos (by grind) (p2_pos w)
        grind
      grind
theorem le_by {x y c : Rat} (hc : 0 < c) (h : x * c ≤ y * c) : x ≤ y := by
  rcases Rat.le_total (a := x) (b := y) with h1 | h1
  · exact h1
  · have h2 := Rat.mul_le_mul_of_nonneg_right h1 (by grind : (0 : Rat) ≤ c)
    have h3 : (x - y) * c = 0 := by grind
    rcases Rat.mul_eq_zero.1 h3 with h4 | h4 <;> grind
theorem mul_le {a b c d : Rat} (h1 : a ≤ b) (h2 : c ≤ d) (hb : 0 ≤ b) (hc : 0 ≤ c) : a * c ≤ b * d :=
  Rat.le_trans (Rat.mul_le_mul_of_nonneg_right h1 hc) (Rat.mul_le_mul_of_nonneg_left h2 hb)
theorem nat_nonneg (a : Nat) : (0 : Rat) ≤ (a : Rat) := by exact_mod_cast Nat.zero_le a
theorem enc_mul {w a b c d : Nat} {q r : Rat} (h1 : Enc w a b q) (h2 : Enc w c d r) : Enc w (a * c / 2 ^ w) (b * d / 2 ^ w + 1) (q * r) := by
  have hq := enc_nonneg h1
  have P := p2_pos w
  obtain ⟨x1, x2⟩ := h1
  have hr := enc_nonneg h2
  obtain ⟨y1, y2⟩ := h2
  have f := floor_le (a := a * c) (d := 2 ^ w)
  have g := le_floor (a := b * d) (d := 2 ^ w) (Nat.pow_pos (by omega))
  have e1 : ((a * c : Nat) : Rat) = (a : Rat) * (c : Rat) := by exact_mod_cast rfl
  have e2 : ((b * d : Nat) : Rat) = (b : Rat) * (d : Rat) := by exact_mod_cast rfl
  have m1 := mul_le x1 y1 (Rat.le_trans (nat_nonneg a) x1) (nat_nonneg c)
  have m2 := mul_le x2 y2 (nat_nonneg b) (Rat.le_trans (nat_nonneg c) y1)
  refine ⟨le_by P ?_, le_by P ?_⟩
  · rw [e1] at f
    show ((a * c / 2 ^ w : Nat) : Rat) * p2 w ≤ _
    have : q * r * p2 w * p2 w = q * p2 w * (r * p2 w) := by grind
    rw [this]
    exact Rat.le_trans f m1
  · rw [e2] at g
    have : q * r * p2 w * p2 w = q * p2 w * (r * p2 w) := by grind
    rw [this]
    exact Rat.le_trans m2 g
theorem enc_times {w a b n d : Nat} {q : Rat} (hd : 0 < d) (h : Enc w a b q) : Enc w (a * n / d) (b * n / d + 1) (q * (n : Rat) / (d : Rat)) := by
  obtain ⟨x1, x2⟩ := h
  have D : (0 : Rat) < (d : Rat) := by exact_mod_cast hd
  have Dn : (d : Rat) ≠ 0 := by grind
  have f := floor_le (a := a * n) (d := d)
  have g := le_floor (a := b * n) (d := d) hd
  have e1 : ((a * n : Nat) : Rat) = (a : Rat) * (n : Rat) := by exact_mod_cast rfl
  have e2 : ((b * n : Nat) : Rat) = (b : Rat) * (n : Rat) := by exact_mod_cast rfl
  have m1 := Rat.mul_le_mul_of_nonneg_right x1 (nat_nonneg n)
  have m2 := Rat.mul_le_mul_of_nonneg_right x2 (nat_nonneg n)
  have c : q * (n : Rat) / (d : Rat) * p2 w * (d : Rat) = q * p2 w * (n : Rat) := by
    have := Rat.div_mul_cancel (a := q * (n : Rat)) Dn
    have h2 : q * (n : Rat) / (d : Rat) * p2 w * (d : Rat) = q * (n : Rat) / (d : Rat) * (d : Rat) * p2 w := by grind
    rw [h2, this]
    grind
  refine ⟨le_by D ?_, le_by D ?_⟩
  · rw [e1] at f
    rw [c]
    exact Rat.le_trans f m1
  · rw [e2] at g
    rw [c]
    exact Rat.le_trans m2 g
end Go.Proofs.YtemnjalaincijaaGreat
namespace Go.Ev
def pin {α : Type} (n : Nat) (f : Nat → α) : α := match n with
  | 0 => f 0
  | m + 1 => f (m + 1)
def angGo (w b1 b2 : Nat) : Nat → Nat → Nat → Nat → Nat → Nat → Option (Nat × Nat)
  | 0, _, _, _, _, _ => none
  | f + 1, k, t1, t2, a1, a2 => if t2 < 4 then some (a1, a2 + 8) else
    pin (t1 * b1 / 2 ^ w * (2 * k) / (2 * k + 1)) fun u1 => pin ((t2 * b2 / 2 ^ w + 1) * (2 * k) / (2 * k + 1) + 1) fun u2 =>
    pin (a1 + u1) fun c1 => pin (a2 + u2) fun c2 => pin (k + 1) fun k' => angGo w b1 b2 f k' u1 u2 c1 c2
def angF (n d w : Nat) : Option (Nat × Nat) :=
  pin (n * n * 2 ^ w / (n * n + d * d)) fun b1 => pin (n * d * 2 ^ w / (n * n + d * d)) fun t1 => angGo w b1 (b1 + 1) 1000 1 t1 (t1 + 1) t1 (t1 + 1)
def piF (w : Nat) : Option (Nat × Nat) := match angF 1 5 w, angF 1 239 w with
  | some (a1, a2), some (b1, b2) => some (a1 * 16 - (b2 * 4 + 1), (a2 * 16 + 1 - b1 * 4) + 1)
  | _, _ => none
def rootPi : Nat := 4576918740415440415430138886030104330034393630387746481038405196946375920276839941112766425178723903652484208164514262098
def piOk (p : Nat) : Bool := match piF (p + 64) with
  | some (lo, hi) => pin (lo / 2 ^ 64) fun a => Nat.beq a ((hi - 1) / 2 ^ 64) && (Nat.ble (a * 2 ^ (800 - p)) (rootPi * rootPi) && Nat.ble (rootPi * rootPi) ((a + 1) * 2 ^ (800 - p)))
  | none => false
def allFrom (f : Nat → Bool) : Nat → Nat → Bool
  | 0, _ => true
  | n + 1, k => f k && allFrom f n (k + 1)
theorem pi_ok : allFrom piOk 225 8 = true := by kernel_rfl
def cdv (a b : Nat) : Nat := (a + b - 1) / b
end Go.Ev
namespace Go.Proofs.YtemnjalaincijaaGreat
open Go.Ev
abbrev spanV (a b : Nat) : SV := .agg [natV (lim a), natV (lim b)]
theorem lim_len_shl {a n : Nat} : (lim (a * 2 ^ n)).length ≤ (lim a).length + n / 32 + 1 := by
  refine lim_len_lt ?_
  have h1 := lim_len_pow (a := a)
  have h2 : 2 ^ n ≤ 4294967296 ^ (n / 32 + 1) := by
    rw [show (4294967296 : Nat) = 2 ^ 32 from rfl, ← Nat.pow_mul]
    exact Nat.pow_le_pow_right (by omega) (by omega)
  calc a * 2 ^ n < 4294967296 ^ (lim a).length * 2 ^ n := Nat.mul_lt_mul_of_pos_right h1 (Nat.pow_pos (by omega))
    _ ≤ 4294967296 ^ (lim a).length * 4294967296 ^ (n / 32 + 1) := Nat.mul_le_mul_left _ h2
    _ = 4294967296 ^ ((lim a).length + n / 32 + 1) := by rw [← Nat.pow_add, Nat.add_assoc]
theorem fix_Over' {N D : Nat} (hD : D ≠ 0) (hl : (lim N).length ≤ 536870912) (hm : (lim D).length ≤ 536870912) : Go.Ev.Fn CX 180 [natV (lim N), natV (lim D)] (natV (lim (N / D))) := by
  have h := nat_DivL hD hl hm
  refine Go.Ev.Fn.intro (fn := Tryz.f180) (body := (Tryz.f180).body.get!) (by kernel_rfl) (by kernel_rfl) (by kernel_rfl) (fun _ => rfl) (Nat.le_of_ble_eq_true (by kernel_rfl)) ?_; unfold Tryz.f180; simp only [Option.get!_some]
  repeat (first | (simp only [go_sem, Nat.reduceEqDiff, Nat.reduceAdd, Nat.reduceSub, Nat.reduceMul, Nat.reduceLeDiff, Nat.reduceLT, reduceIte, reduceCtorEq, Nat.succ_ne_zero, elemsC, Int.reduceToNat, Nat.reducePow]) | (simp (disch := (first | omega | (simp only [AL, List.length_map]; omega))) only [AR, AL, ifT, ifF, take_all, List.length_cons, List.length_nil, Int.reduceToNat, Int.reducePow, Nat.reducePow]) | (refine wk_intro (by kernel_rfl) ?_) | (refine vf_of (by first | exact h) ?_))
theorem fix_One : Go.Ev.Fn CX 127 [] (natV (lim 1)) := by
  have o := nat_Of 1 (by omega)
  refine Go.Ev.Fn.intro (fn := Tryz.f127) (body := (Tryz.f127).body.get!) (by kernel_rfl) (by kernel_rfl) (by kernel_rfl) (fun _ => rfl) (Nat.le_of_ble_eq_true (by kernel_rfl)) ?_; unfold Tryz.f127; simp only [Option.get!_some]
  repeat (first | (simp only [go_sem, Nat.reduceEqDiff, Nat.reduceAdd, Nat.reduceSub, Nat.reduceMul, Nat.reduceLeDiff, Nat.reduceLT, reduceIte, reduceCtorEq, Nat.succ_ne_zero, elemsC, Int.reduceToNat, Nat.reducePow]) | (simp (disch := (first | omega | (simp only [AL, List.length_map]; omega))) only [AR, AL, ifT, ifF, take_all, List.length_cons, List.length_nil, Int.reduceToNat, Int.reducePow, Nat.reducePow]) | (refine wk_intro (by kernel_rfl) ?_) | (refine vf_of (by first | exact o) ?_))
theorem fix_Next {a : Nat} (h : (lim a).length ≤ 300000000) : Go.Ev.Fn CX 123 [natV (lim a)] (natV (lim (a + 1))) := by
  have o := fix_One
  have l := lim_len1
  have s := nat_AddL (N := a) (D := 1) (by omega) (by omega)
  refine Go.Ev.Fn.intro (fn := Tryz.f123) (body := (Tryz.f123).body.get!) (by kernel_rfl) (by kernel_rfl) (by kernel_rfl) (fun _ => rfl) (Nat.le_of_ble_eq_true (by kernel_rfl)) ?_; unfold Tryz.f123; simp only [Option.get!_some]
  repeat (first | (simp only [go_sem, Nat.reduceEqDiff, Nat.reduceAdd, Nat.reduceSub, Nat.reduceMul, Nat.reduceLeDiff, Nat.reduceLT, reduceIte, reduceCtorEq, Nat.succ_ne_zero, elemsC, Int.reduceToNat, Nat.reducePow]) | (simp (disch := (first | omega | (simp only [AL, List.length_map]; omega))) only [AR, AL, ifT, ifF, take_all, List.length_cons, List.length_nil, Int.reduceToNat, Int.reducePow, Nat.reducePow]) | (refine wk_intro (by kernel_rfl) ?_) | (refine vf_of (by first | exact o | exact s) ?_))
theorem fix_Add {a b c d : Nat} (h1 : (lim a).length ≤ 300000000) (h2 : (lim b).length ≤ 300000000) (h3 : (lim c).length ≤ 300000000) (h4 : (lim d).length ≤ 300000000) : Go.Ev.Fn CX 101 [spanV a b, spanV c d] (spanV (a + c) (b + d)) := by
  have s1 := nat_AddL (N := a) (D := c) (by omega) (by omega)
  have s2 := nat_AddL (N := b) (D := d) (by omega) (by omega)
  refine Go.Ev.Fn.intro (fn := Tryz.f101) (body := (Tryz.f101).body.get!) (by kernel_rfl) (by kernel_rfl) (by kernel_rfl) (fun _ => rfl) (Nat.le_of_ble_eq_true (by kernel_rfl)) ?_; unfold Tryz.f101; simp only [Option.get!_some]
  repeat (first | (simp only [go_sem, Nat.reduceEqDiff, Nat.reduceAdd, Nat.reduceSub, Nat.reduceMul, Nat.reduceLeDiff, Nat.reduceLT, reduceIte, reduceCtorEq, Nat.succ_ne_zero, elemsC, Int.reduceToNat, Nat.reducePow]) | (simp (disch := (first | omega | (simp only [AL, List.length_map]; omega))) only [AR, AL, ifT, ifF, take_all, List.length_cons, List.length_nil, Int.reduceToNat, Int.reducePow, Nat.reducePow]) | (refine wk_intro (by kernel_rfl) ?_) | (refine vp_draw (id := 1) (l := [6, 8, 11, 13]) (by kernel_rfl) ?_) | (refine vf_of (by first | exact s1 | exact s2) ?_))
theorem fix_Wider {a b n : Nat} (h1 : (lim a).length ≤ 300000000) (h2 : (lim b).length ≤ 300000000) (hn : n < 18446744073709551616) : Go.Ev.Fn CX 130 [spanV a b, .int .u64 (n : Int)] (spanV a (b + n)) := by
  have o := nat_Of n hn
  have l : (lim n).length ≤ 300000000 := Nat.le_trans (lim_len_lt (L := 2) (by omega)) (by omega)
  have s := nat_AddL (N := b) (D := n) (by omega) (by omega)
  refine Go.Ev.Fn.intro (fn := Tryz.f130) (body := (Tryz.f130).body.get!) (by kernel_rfl) (by kernel_rfl) (by kernel_rfl) (fun _ => rfl) (Nat.le_of_ble_eq_true (by kernel_rfl)) ?_; unfold Tryz.f130; simp only [Option.get!_some]
  repeat (first | (simp only [go_sem, Nat.reduceEqDiff, Nat.reduceAdd, Nat.reduceSub, Nat.reduceMul, Nat.reduceLeDiff, Nat.reduceLT, reduceIte, reduceCtorEq, Nat.succ_ne_zero, elemsC, Int.reduceToNat, Nat.reducePow]) | (simp (disch := (first | omega | (simp only [AL, List.length_map]; omega))) only [AR, AL, ifT, ifF, take_all, List.length_cons, List.length_nil, Int.reduceToNat, Int.reducePow, Nat.reducePow]) | (refine wk_intro (by kernel_rfl) ?_) | (refine vp_draw (id := 1) (l := [8, 10]) (by kernel_rfl) ?_) | (refine vf_of (by first | exact o | exact s) ?_))
theorem fix_Times {a b n d : Nat} (h1 : (lim a).length ≤ 100000000) (h2 : (lim b).length ≤ 100000000) (h3 : (lim n).length ≤ 100000000) (h4 : (lim d).length ≤ 100000000) (hd : d ≠ 0) : Go.Ev.Fn CX 125 [spanV a b, natV (lim n), natV (lim d)] (spanV (a * n / d) (b * n / d + 1)) := by
  have m1 := nat_MulL (N := a) (D := n) (by omega) (by omega)
  have m2 := nat_MulL (N := b) (D := n) (by omega) (by omega)
  have l1 := lim_len_mul (a := a) (b := n)
  have l2 := lim_len_mul (a := b) (b := n)
  have o1 := fix_Over' (N := a * n) (D := d) hd (by omega) (by omega)
  have o2 := fix_Over' (N := b * n) (D := d) hd (by omega) (by omega)
  have l3 := lim_len_mono (Nat.div_le_self (b * n) d)
  have n1 := fix_Next (a := b * n / d) (by omega)
  generalize a * n / d = x at *
  generalize b * n / d = y at *
  generalize a * n = u at *
  generalize b * n = v at *
  refine Go.Ev.Fn.intro (fn := Tryz.f125) (body := (Tryz.f125).body.get!) (by kernel_rfl) (by kernel_rfl) (by kernel_rfl) (fun _ => rfl) (Nat.le_of_ble_eq_true (by kernel_rfl)) ?_; unfold Tryz.f125; simp only [Option.get!_some]
  repeat (first | (simp only [go_sem, Nat.reduceEqDiff, Nat.reduceAdd, Nat.reduceSub, Nat.reduceMul, Nat.reduceLeDiff, Nat.reduceLT, reduceIte, reduceCtorEq, Nat.succ_ne_zero, elemsC, Int.reduceToNat, Nat.reducePow]) | (simp (disch := (first | omega | (simp only [AL, List.length_map]; omega))) only [AR, AL, ifT, ifF, take_all, List.length_cons, List.length_nil, Int.reduceToNat, Int.reducePow, Nat.reducePow]) | (refine wk_intro (by kernel_rfl) ?_) | (refine vp_draw (id := 1) (l := [8, 1, 10, 2, 14, 1, 16, 2, 18]) (by kernel_rfl) ?_) | (refine vf_of (by first | exact m1 | exact o1 | exact m2 | exact o2 | exact n1) ?_))
theorem fix_Less' {N D : Nat} (hl : (lim N).length ≤ 536870912) (hm : (lim D).length ≤ 536870912) : Go.Ev.Fn CX 209 [natV (lim N), natV (lim D)] (natV (lim (N - D))) := by
  have h := nat_SubL hl hm
  refine Go.Ev.Fn.intro (fn := Tryz.f209) (body := (Tryz.f209).body.get!) (by kernel_rfl) (by kernel_rfl) (by kernel_rfl) (fun _ => rfl) (Nat.le_of_ble_eq_true (by kernel_rfl)) ?_; unfold Tryz.f209; simp only [Option.get!_some]
  repeat (first | (simp only [go_sem, Nat.reduceEqDiff, Nat.reduceAdd, Nat.reduceSub, Nat.reduceMul, Nat.reduceLeDiff, Nat.reduceLT, reduceIte, reduceCtorEq, Nat.succ_ne_zero, elemsC, Int.reduceToNat, Nat.reducePow]) | (simp (disch := (first | omega | (simp only [AL, List.length_map]; omega))) only [AR, AL, ifT, ifF, take_all, List.length_cons, List.length_nil, Int.reduceToNat, Int.reducePow, Nat.reducePow]) | (refine wk_intro (by kernel_rfl) ?_) | (refine vf_of (by first | exact h) ?_))
theorem fix_Sub {a b c d : Nat} (h1 : (lim a).length ≤ 100000000) (h2 : (lim b).length ≤ 100000000) (h3 : (lim c).length ≤ 100000000) (h4 : (lim d).length ≤ 100000000) : Go.Ev.Fn CX 215 [spanV a b, spanV c d] (spanV (a - d) (b - c + 1)) := by
  have m1 := fix_Less' (N := a) (D := d) (by omega) (by omega)
  have m2 := fix_Less' (N := b) (D := c) (by omega) (by omega)
  have l := lim_len_mono (Nat.sub_le b c)
  have n1 := fix_Next (a := b - c) (by omega)
  generalize a - d = x at *
  generalize b - c = y at *
  refine Go.Ev.Fn.intro (fn := Tryz.f215) (body := (Tryz.f215).body.get!) (by kernel_rfl) (by kernel_rfl) (by kernel_rfl) (fun _ => rfl) (Nat.le_of_ble_eq_true (by kernel_rfl)) ?_; unfold Tryz.f215; simp only [Option.get!_some]
  repeat (first | (simp only [go_sem, Nat.reduceEqDiff, Nat.reduceAdd, Nat.reduceSub, Nat.reduceMul, Nat.reduceLeDiff, Nat.reduceLT, reduceIte, reduceCtorEq, Nat.succ_ne_zero, elemsC, Int.reduceToNat, Nat.reducePow]) | (simp (disch := (first | omega | (simp only [AL, List.length_map]; omega))) only [AR, AL, ifT, ifF, take_all, List.length_cons, List.length_nil, Int.reduceToNat, Int.reducePow, Nat.reducePow]) | (refine wk_intro (by kernel_rfl) ?_) | (refine vp_draw (id := 1) (l := [6, 8, 11, 13, 14]) (by kernel_rfl) ?_) | (refine vf_of (by first | exact m1 | exact m2 | exact n1) ?_))
end Go.Proofs.YtemnjalaincijaaGreat
namespace Go.Proofs.YtemnjalaincijaaGreat
open Go.Ev
theorem pin_eq {α : Type} (n : Nat) (f : Nat → α) : pin n f = f n := by cases n <;> rfl
theorem lim_len_p2 {n w : Nat} (h : n ≤ 2 ^ w) (hw : w ≤ 1000) : (lim n).length ≤ 40 := by
  have l := lim_len_shl (a := 1) (n := w)
  have l1 := lim_len1
  rw [Nat.one_mul] at l
  have := lim_len_mono h
  omega
theorem sqrt_ex (a : Nat) : ∃ r, r * r ≤ a ∧ a < (r + 1) * (r + 1) := by
  induction a with
  | zero => exact ⟨0, by omega, by omega⟩
  | succ a ih =>
    obtain ⟨r, h1, h2⟩ := ih
    by_cases h : (r + 1) * (r + 1) ≤ a + 1
    · refine ⟨r + 1, h, ?_⟩
      have : (r + 1 + 1) * (r + 1 + 1) = (r + 1) * (r + 1) + (r + 1) + (r + 2) := by
        rw [Nat.add_mul, Nat.mul_add]; omega
      omega
    · exact ⟨r, by omega, by omega⟩
noncomputable def rtN (a : Nat) : Nat := (sqrt_ex a).choose
theorem rtN_le (a : Nat) : rtN a * rtN a ≤ a := (sqrt_ex a).choose_spec.1
theorem lt_rtN (a : Nat) : a < (rtN a + 1) * (rtN a + 1) := (sqrt_ex a).choose_spec.2
theorem rtN_eq {a r : Nat} (h1 : r * r ≤ a) (h2 : a < (r + 1) * (r + 1)) : r = rtN a := by
  have h3 := rtN_le a
  have h4 := lt_rtN a
  rcases Nat.lt_trichotomy r (rtN a) with h | h | h
  · have := Nat.mul_le_mul (show r + 1 ≤ rtN a from h) (show r + 1 ≤ rtN a from h)
    omega
  · exact h
  · have := Nat.mul_le_mul (show rtN a + 1 ≤ r from h) (show rtN a + 1 ≤ r from h)
    omega
theorem rtN_self (a : Nat) : rtN a ≤ a := by
  have := rtN_le a
  rcases Nat.eq_zero_or_pos (rtN a) with h | h
  · omega
  · have := Nat.le_mul_of_pos_left (rtN a) h
    omega
end Go.Proofs.YtemnjalaincijaaGreat
namespace Go.Proofs.YtemnjalaincijaaGreat
open Go.Ev
section
variable {P y1 y2 t1 t2 n m : Nat}
end
section
variable {w y1 y2 a b : Nat}
end
end Go.Proofs.YtemnjalaincijaaGreat
namespace Go.Proofs.YtemnjalaincijaaGreat
open Go.Ev
section
variable {w y1 y2 a b T D C : Nat}
end
def pwR (q : Rat) : Nat → Rat
  | 0 => 1
  | n + 1 => pwR q n * q
end Go.Proofs.YtemnjalaincijaaGreat
namespace Go.Proofs.YtemnjalaincijaaGreat
open Go.Ev
section
variable {x : Rat} {a b : Nat}
end
end Go.Proofs.YtemnjalaincijaaGreat
namespace Go.Ev
def cc : Nat → Nat → Nat
  | 0, _ => 1
  | _ + 1, 0 => 1
  | m + 1, k + 1 => cc m (k + 1) + cc (m + 1) k
end Go.Ev
namespace Go.Ev
end Go.Ev
namespace Go.Ev
theorem den_pos (x : Rat) (n : Nat) : 0 < x.den ^ n := Nat.pow_pos (Nat.pos_of_ne_zero x.den_nz)
end Go.Ev
namespace Go.Proofs.YtemnjalaincijaaGreat
open Go.Ev
def trm (x y : Rat) (n i : Nat) : Rat := ((cc (n - i) i : Nat) : Rat) * pwR x (n - i) * pwR y i
def sS (x y : Rat) (n : Nat) : Nat → Rat
  | 0 => 0
  | j + 1 => sS x y n j + trm x y n j
section
variable {x y : Rat} {B : Nat}
end
end Go.Proofs.YtemnjalaincijaaGreat
namespace Go.Proofs.YtemnjalaincijaaGreat
open Go.Ev
def In1 (x : Rat) : Prop := 0 ≤ x ∧ x ≤ 1
def Bd (F : Rat → Rat → Rat) : Prop := ∃ C : Rat, 0 ≤ C ∧ ∀ x y, In1 x → In1 y → -C ≤ F x y ∧ F x y ≤ C
theorem mul_held {a b C D : Rat} (h1 : -C ≤ a) (h2 : a ≤ C) (h3 : -D ≤ b) (h4 : b ≤ D) : -(C * D) ≤ a * b ∧ a * b ≤ C * D := by
  have m1 := Rat.mul_nonneg (show 0 ≤ C - a by grind) (show 0 ≤ D - b by grind)
  have m2 := Rat.mul_nonneg (show 0 ≤ C + a by grind) (show 0 ≤ D + b by grind)
  have m3 := Rat.mul_nonneg (show 0 ≤ C - a by grind) (show 0 ≤ D + b by grind)
  have m4 := Rat.mul_nonneg (show 0 ≤ C + a by grind) (show 0 ≤ D - b by grind)
  constructor <;> grind
theorem bd_const (c : Rat) : Bd (fun _ _ => c) := by
  refine ⟨if 0 ≤ c then c else -c, by split <;> grind, fun x y _ _ => ?_⟩
  split <;> constructor <;> grind
theorem bd_add {F G : Rat → Rat → Rat} (h : Bd F) (g : Bd G) : Bd (fun x y => F x y + G x y) := by
  obtain ⟨C, c0, c1⟩ := h
  obtain ⟨D, d0, d1⟩ := g
  refine ⟨C + D, by grind, fun x y hx hy => ?_⟩
  have := c1 x y hx hy
  have := d1 x y hx hy
  constructor <;> grind
theorem bd_mul {F G : Rat → Rat → Rat} (h : Bd F) (g : Bd G) : Bd (fun x y => F x y * G x y) := by
  obtain ⟨C, c0, c1⟩ := h
  obtain ⟨D, d0, d1⟩ := g
  refine ⟨C * D, Rat.mul_nonneg c0 d0, fun x y hx hy => ?_⟩
  have a := c1 x y hx hy
  have b := d1 x y hx hy
  exact mul_held a.1 a.2 b.1 b.2
theorem bd_dist : Bd (fun x y => y - x) := ⟨1, by decide, fun x y hx hy => by unfold In1 at hx hy; constructor <;> grind⟩
def Dif (f g : Rat → Rat) : Prop := ∃ R : Rat → Rat → Rat, Bd (fun x _ => f x) ∧ Bd (fun x _ => g x) ∧ Bd R ∧ ∀ x y, f y = f x + g x * (y - x) + R x y * ((y - x) * (y - x))
theorem dif_const (c : Rat) : Dif (fun _ => c) (fun _ => 0) := ⟨fun _ _ => 0, bd_const c, bd_const 0, bd_const 0, fun x y => by grind⟩
theorem dif_id : Dif (fun x => x) (fun _ => 1) := ⟨fun _ _ => 0, ⟨1, by decide, fun x y hx hy => by unfold In1 at hx; constructor <;> grind⟩, bd_const 1, bd_const 0, fun x y => by grind⟩
theorem dif_add {f g f' g' : Rat → Rat} (h : Dif f g) (h' : Dif f' g') : Dif (fun x => f x + f' x) (fun x => g x + g' x) := by
  obtain ⟨R, a1, a2, a3, a4⟩ := h
  obtain ⟨S, b1, b2, b3, b4⟩ := h'
  refine ⟨fun x y => R x y + S x y, bd_add a1 b1, bd_add a2 b2, bd_add a3 b3, fun x y => ?_⟩
  show f y + f' y = _
  rw [a4 x y, b4 x y]; grind
theorem dif_mul {f g f' g' : Rat → Rat} (h : Dif f g) (h' : Dif f' g') : Dif (fun x => f x * f' x) (fun x => f x * g' x + g x * f' x) := by
  obtain ⟨R, a1, a2, a3, a4⟩ := h
  obtain ⟨S, b1, b2, b3, b4⟩ := h'
  refine ⟨fun x y => (f x * S x y + R x y * f' x) + (g x * g' x + ((y - x) * (g x * S x y + R x y * g' x) + (y - x) * ((y - x) * (R x y * S x y)))), bd_mul a1 b1, bd_add (bd_mul a1 b2) (bd_mul a2 b1), ?_, fun x y => ?_⟩
  · exact bd_add (bd_add (bd_mul a1 b3) (bd_mul a3 b1)) (bd_add (bd_mul a2 b2) (bd_add (bd_mul bd_dist (bd_add (bd_mul a2 b3) (bd_mul a3 b2))) (bd_mul bd_dist (bd_mul bd_dist (bd_mul a3 b3)))))
  · show f y * f' y = _
    rw [a4 x y, b4 x y]
    show _ = f x * f' x + (f x * g' x + g x * f' x) * (y - x) + ((f x * S x y + R x y * f' x) + (g x * g' x + ((y - x) * (g x * S x y + R x y * g' x) + (y - x) * ((y - x) * (R x y * S x y))))) * ((y - x) * (y - x))
    generalize y - x = d
    generalize f x = t1
    generalize f' x = t2
    generalize g x = t3
    generalize g' x = t4
    generalize R x y = t5
    generalize S x y = t6
    grind
theorem dif_congr {f g f' g' : Rat → Rat} (h : Dif f g) (e : ∀ x, f x = f' x) (e' : ∀ x, g x = g' x) : Dif f' g' := by
  have h1 : f = f' := funext e
  have h2 : g = g' := funext e'
  rw [← h1, ← h2]; exact h
theorem mul_denR (D : Rat) : D * (D.den : Rat) = (D.num : Rat) := by
  have dn : (0 : Rat) < (D.den : Rat) := by exact_mod_cast Rat.den_pos (self := D)
  have := (Rat.mkRat_eq_div D.num D.den).symm.trans (Rat.mkRat_self D)
  have e := Rat.div_mul_cancel (a := (D.num : Rat)) (b := (D.den : Rat)) (by grind)
  rwa [this] at e
theorem arch {D e : Rat} (hD : 0 ≤ D) (he : 0 < e) : ∃ n : Nat, 1 ≤ n ∧ D ≤ e * (n : Rat) := by
  refine ⟨(D.num.natAbs * e.den + 1), by omega, ?_⟩
  have dn : (0 : Rat) < (D.den : Rat) := by exact_mod_cast Rat.den_pos (self := D)
  have en : (0 : Rat) < (e.den : Rat) := by exact_mod_cast Rat.den_pos (self := e)
  have e1 := mul_denR D
  have e2 := mul_denR e
  have n1 : 1 ≤ e.num := by
    have q : 0 ≤ e.num := Rat.num_nonneg.2 (by grind)
    have q2 : e.num ≠ 0 := fun z => by rw [Rat.num_eq_zero.1 z] at he; exact absurd he (by decide)
    omega
  have n0 : 0 ≤ D.num := Rat.num_nonneg.2 hD
  have c1 : ((D.num.natAbs : Nat) : Rat) = (D.num : Rat) := by
    have : ((D.num.natAbs : Nat) : Int) = D.num := by omega
    calc ((D.num.natAbs : Nat) : Rat) = (((D.num.natAbs : Nat) : Int) : Rat) := by rfl
      _ = _ := by rw [this]
  have n1' : (1 : Rat) ≤ (e.num : Rat) := by exact_mod_cast n1
  have n0' : (0 : Rat) ≤ (D.num : Rat) := by exact_mod_cast n0
  have dn1 : (1 : Rat) ≤ (D.den : Rat) := by exact_mod_cast (show 1 ≤ D.den from Rat.den_pos (self := D))
  have c2 : ((D.num.natAbs * e.den + 1 : Nat) : Rat) = (D.num : Rat) * (e.den : Rat) + 1 := by
    rw [← c1]; exact_mod_cast rfl
  rw [c2]
  have k1 : D ≤ (D.num : Rat) := by
    have := Rat.mul_le_mul_of_nonneg_left dn1 hD
    rw [e1] at this; grind
  have k2 : e * ((D.num : Rat) * (e.den : Rat) + 1) = (D.num : Rat) * (e * (e.den : Rat)) + e := by grind
  rw [k2, e2]
  have := Rat.mul_le_mul_of_nonneg_left n1' n0'
  grind
theorem lim_le {A B D : Rat} (hD : 0 ≤ D) (h : ∀ n : Nat, 1 ≤ n → (A - B) * (n : Rat) ≤ D) : A ≤ B := by
  rcases Rat.le_total (a := A) (b := B) with g | g
  · exact g
  · by_cases e : A = B
    · rw [e]; exact Rat.le_refl
    · have hp : 0 < A - B := by grind
      obtain ⟨n, n1, n2⟩ := arch (D := D + 1) (by grind) hp
      have := h n n1
      grind
theorem dif_mono {f g : Rat → Rat} (h : Dif f g) {x y : Rat} (hx : 0 ≤ x) (hxy : x ≤ y) (hy : y ≤ 1) (hg : ∀ z, x ≤ z → z ≤ y → 0 ≤ g z) : f x ≤ f y := by
  obtain ⟨R, a1, a2, ⟨C, c0, c1⟩, a4⟩ := h
  refine lim_le (D := C * ((y - x) * (y - x))) (Rat.mul_nonneg c0 (Rat.mul_nonneg (by grind) (by grind))) fun n hn => ?_
  have N : (1 : Rat) ≤ (n : Rat) := by exact_mod_cast hn
  obtain ⟨d, hd⟩ : ∃ d, d = (y - x) / (n : Rat) := ⟨_, rfl⟩
  have hdn : d * (n : Rat) = y - x := by rw [hd]; exact Rat.div_mul_cancel (by grind)
  have d0 : 0 ≤ d := le_by (c := (n : Rat)) (by grind) (by rw [hdn]; grind)
  have step : ∀ k : Nat, k ≤ n → x + d * (k : Rat) ≤ y ∧ f x ≤ f (x + d * (k : Rat)) + C * (d * d) * (k : Rat) := by
    intro k
    induction k with
    | zero => intro _; rw [show ((0 : Nat) : Rat) = 0 from rfl, Rat.mul_zero, Rat.add_zero, Rat.mul_zero, Rat.add_zero]; exact ⟨hxy, Rat.le_refl⟩
    | succ k ih =>
      intro hk
      obtain ⟨i1, i2⟩ := ih (by omega)
      have ck : ((k + 1 : Nat) : Rat) = (k : Rat) + 1 := by exact_mod_cast rfl
      have kn : ((k + 1 : Nat) : Rat) ≤ (n : Rat) := by exact_mod_cast hk
      have k0 : (0 : Rat) ≤ (k : Rat) := by exact_mod_cast Nat.zero_le k
      have m := Rat.mul_le_mul_of_nonneg_left kn d0
      rw [hdn, ck] at m
      rw [ck]
      have z0 : 0 ≤ d * (k : Rat) := Rat.mul_nonneg d0 k0
      have e := a4 (x + d * (k : Rat)) (x + d * ((k : Rat) + 1))
      have b := c1 (x + d * (k : Rat)) (x + d * ((k : Rat) + 1)) ⟨by grind, by grind⟩ ⟨by grind, by grind⟩
      have s := hg (x + d * (k : Rat)) (by grind) i1
      have ed : x + d * ((k : Rat) + 1) - (x + d * (k : Rat)) = d := by grind
      rw [ed] at e
      have s1 := Rat.mul_nonneg s d0
      have s2 := Rat.mul_nonneg (show 0 ≤ R (x + d * (k : Rat)) (x + d * ((k : Rat) + 1)) + C by grind) (Rat.mul_nonneg d0 d0)
      refine ⟨by grind, ?_⟩
      rw [e]
      grind
  have r := (step n (Nat.le_refl _)).2
  have e : x + d * (n : Rat) = y := by grind
  rw [e] at r
  have m := Rat.mul_le_mul_of_nonneg_right (show f x - f y ≤ C * (d * d) * (n : Rat) by grind) (show 0 ≤ (n : Rat) by grind)
  have e2 : C * (d * d) * (n : Rat) * (n : Rat) = C * ((d * (n : Rat)) * (d * (n : Rat))) := by grind
  rw [e2, hdn] at m
  exact m
section
variable {a b : Nat}
end
end Go.Proofs.YtemnjalaincijaaGreat
namespace Go.Proofs.YtemnjalaincijaaGreat
open Go.Ev
def tRow (w Y1 Y2 M : Nat) : Nat → Nat → Nat → Nat → Nat → Nat → Option (Nat × Nat)
  | 0, _, _, _, _, _ => none
  | f + 1, k, t1, t2, a1, a2 => if M ≤ k ∧ t2 < 4 then some (a1, a2 + 8) else
      tRow w Y1 Y2 M f (k + 2) (t1 * Y1 / 2 ^ w * 1 / k) ((t2 * Y2 / 2 ^ w + 1) * 1 / k + 1) (a1 + t1 * Y1 / 2 ^ w * 1 / k) (a2 + ((t2 * Y2 / 2 ^ w + 1) * 1 / k + 1))
def tInv (w k0 i k t1 t2 a1 a2 : Nat) : Prop := k = k0 + 2 * i ∧ t1 ≤ t2 ∧ a1 ≤ a2 ∧ t2 < 2 ^ (w + 9 + 9 * min i 1024) ∧ a2 < (i + 2) * 2 ^ (w + 10000)
theorem tInv_0 {w k0 t1 t2 a1 a2 : Nat} (h1 : t1 ≤ t2) (h2 : a1 ≤ a2) (h3 : t2 < 2 ^ (w + 9)) (h4 : a2 < 2 ^ (w + 10)) : tInv w k0 0 k0 t1 t2 a1 a2 := by
  have : 2 ^ (w + 10) ≤ 2 ^ (w + 10000) := Nat.pow_le_pow_right (by omega) (by omega)
  refine ⟨by omega, h1, h2, h3, by omega⟩
theorem tStep_le {w Y2 k t2 : Nat} (hY : Y2 ≤ 2 ^ (w + 8)) (hk : 1 ≤ k) : (t2 * Y2 / 2 ^ w + 1) * 1 / k + 1 ≤ t2 * 256 + 2 ∧ (2048 ≤ k → (t2 * Y2 / 2 ^ w + 1) * 1 / k + 1 ≤ t2 / 8 + 2) ∧ (2048 ≤ k → t2 ≤ 4 → (t2 * Y2 / 2 ^ w + 1) * 1 / k + 1 = 1) := by
  have P : 0 < 2 ^ w := Nat.pow_pos (by omega)
  have h1 : t2 * Y2 / 2 ^ w ≤ t2 * 256 := by
    refine (Nat.div_le_iff_le_mul P).2 ?_
    have m := Nat.mul_le_mul_left t2 hY
    have e : t2 * 2 ^ (w + 8) = 2 ^ w * (t2 * 256) := by rw [Nat.pow_add, show (2 : Nat) ^ 8 = 256 from rfl, Nat.mul_left_comm]
    rw [Nat.mul_comm (t2 * 256)]
    omega
  rw [Nat.mul_one]
  generalize t2 * Y2 / 2 ^ w = q at *
  have a := Nat.div_le_self (q + 1) k
  refine ⟨by omega, fun g => ?_, fun g g2 => ?_⟩
  · have b : (q + 1) / k ≤ (q + 1) / 2048 := Nat.div_le_div_left g (by omega)
    omega
  · rw [Nat.div_eq_of_lt (by omega)]
theorem tInv_step {w Y1 Y2 k0 i k t1 t2 a1 a2 : Nat} (hY : Y2 ≤ 2 ^ (w + 8)) (hY1 : Y1 ≤ Y2) (hk0 : 1 ≤ k0) (h : tInv w k0 i k t1 t2 a1 a2) :
    tInv w k0 (i + 1) (k + 2) (t1 * Y1 / 2 ^ w * 1 / k) ((t2 * Y2 / 2 ^ w + 1) * 1 / k + 1) (a1 + t1 * Y1 / 2 ^ w * 1 / k) (a2 + ((t2 * Y2 / 2 ^ w + 1) * 1 / k + 1)) := by
  obtain ⟨h1, h2, h3, h4, h5⟩ := h
  obtain ⟨u1, u2, u3⟩ := tStep_le (t2 := t2) hY (show 1 ≤ k by omega)
  have q0 : t1 * Y1 / 2 ^ w * 1 / k ≤ (t2 * Y2 / 2 ^ w + 1) * 1 / k + 1 := by
    refine Nat.le_succ_of_le (Nat.div_le_div_right (Nat.mul_le_mul_right 1 ?_))
    exact Nat.le_succ_of_le (Nat.div_le_div_right (Nat.mul_le_mul h2 hY1))
  have nt : (t2 * Y2 / 2 ^ w + 1) * 1 / k + 1 < 2 ^ (w + 9 + 9 * min (i + 1) 1024) := by
    by_cases hi : i < 1024
    · rw [show min (i + 1) 1024 = min i 1024 + 1 by omega, show w + 9 + 9 * (min i 1024 + 1) = (w + 9 + 9 * min i 1024) + 9 by omega, Nat.pow_add _ _ 9, show (2 : Nat) ^ 9 = 512 from rfl]
      have : 2 ^ 2 ≤ 2 ^ (w + 9 + 9 * min i 1024) := Nat.pow_le_pow_right (by omega) (by omega)
      omega
    · rw [show min (i + 1) 1024 = min i 1024 by omega]
      have g := u2 (by omega)
      have : 2 ^ 4 ≤ 2 ^ (w + 9 + 9 * min i 1024) := Nat.pow_le_pow_right (by omega) (by omega)
      omega
  have le : 2 ^ (w + 9 + 9 * min (i + 1) 1024) ≤ 2 ^ (w + 10000) := Nat.pow_le_pow_right (by omega) (by omega)
  generalize t1 * Y1 / 2 ^ w * 1 / k = x at *
  generalize (t2 * Y2 / 2 ^ w + 1) * 1 / k + 1 = y at *
  refine ⟨by omega, q0, by omega, nt, ?_⟩
  rw [show i + 1 + 2 = (i + 2) + 1 by omega, Nat.add_mul (i + 2) 1, Nat.one_mul]
  omega
theorem tRow_low {w Y1 Y2 M k0 : Nat} (hY : Y2 ≤ 2 ^ (w + 8)) (hY1 : Y1 ≤ Y2) (hk0 : 1 ≤ k0) (hM : M ≤ 2048) : ∀ (m f i k t1 t2 a1 a2 : Nat), tInv w k0 i k t1 t2 a1 a2 → 2048 ≤ k → t2 ≤ 2 ^ (3 * m) + 3 → m + 2 ≤ f → ∃ A B, tRow w Y1 Y2 M f k t1 t2 a1 a2 = some (A, B) ∧ A ≤ B ∧ B < (i + m + 4) * 2 ^ (w + 10000) := by
  intro m
  induction m with
  | zero =>
    intro f i k t1 t2 a1 a2 h hk ht hf
    obtain ⟨f, rfl⟩ : ∃ j, f = j + 2 := ⟨f - 2, by omega⟩
    have P : 2 ^ 4 ≤ 2 ^ (w + 10000) := Nat.pow_le_pow_right (by omega) (by omega)
    have hh := h
    obtain ⟨h1, h2, h3, h4, h5⟩ := hh
    rw [tRow]
    by_cases g : M ≤ k ∧ t2 < 4
    · rw [if_pos g]
      refine ⟨a1, a2 + 8, rfl, by omega, ?_⟩
      rw [show i + 0 + 4 = (i + 2) + 2 by omega, Nat.add_mul (i + 2) 2]
      omega
    · rw [if_neg g]
      have st := tInv_step hY hY1 hk0 h
      have t4 : t2 ≤ 4 := by have : 2 ^ (3 * 0) = 1 := rfl; omega
      rw [(tStep_le (t2 := t2) hY (show 1 ≤ k by omega)).2.2 hk t4] at st ⊢
      obtain ⟨k1, k2, k3, k4, k5⟩ := st
      rw [tRow, if_pos (by omega)]
      refine ⟨_, _, rfl, by omega, ?_⟩
      rw [show i + 0 + 4 = (i + 1 + 2) + 1 by omega, Nat.add_mul (i + 1 + 2) 1]
      omega
  | succ m ih =>
    intro f i k t1 t2 a1 a2 h hk ht hf
    obtain ⟨f, rfl⟩ : ∃ j, f = j + 1 := ⟨f - 1, by omega⟩
    have P : 2 ^ 4 ≤ 2 ^ (w + 10000) := Nat.pow_le_pow_right (by omega) (by omega)
    have hh := h
    obtain ⟨h1, h2, h3, h4, h5⟩ := hh
    rw [tRow]
    by_cases g : M ≤ k ∧ t2 < 4
    · rw [if_pos g]
      refine ⟨a1, a2 + 8, rfl, by omega, ?_⟩
      rw [show i + (m + 1) + 4 = (i + 2) + (m + 3) by omega, Nat.add_mul (i + 2)]
      have := Nat.le_mul_of_pos_left (2 ^ (w + 10000)) (show 0 < m + 3 by omega)
      omega
    · rw [if_neg g]
      have st := tInv_step hY hY1 hk0 h
      have up := (tStep_le (t2 := t2) hY (show 1 ≤ k by omega)).2.1 hk
      have dv : t2 / 8 ≤ 2 ^ (3 * m) := by
        have e : 2 ^ (3 * (m + 1)) = 2 ^ (3 * m) * 8 := by rw [show 3 * (m + 1) = 3 * m + 3 by omega, Nat.pow_add]
        rw [e] at ht
        omega
      obtain ⟨A, B, r1, r2, r3⟩ := ih f (i + 1) (k + 2) _ _ _ _ st (by omega) (by omega) (by omega)
      exact ⟨A, B, r1, r2, by rw [show i + (m + 1) + 4 = i + 1 + m + 4 by omega]; exact r3⟩
theorem tRow_end {w Y1 Y2 M k0 : Nat} (hY : Y2 ≤ 2 ^ (w + 8)) (hY1 : Y1 ≤ Y2) (hk0 : 1 ≤ k0) (hM : M ≤ 2048) (hw : w ≤ 3000) : ∀ (d f i k t1 t2 a1 a2 : Nat), tInv w k0 i k t1 t2 a1 a2 → 2048 ≤ k + 2 * d → i + d ≤ 1024 → d + 4100 ≤ f → ∃ A B, tRow w Y1 Y2 M f k t1 t2 a1 a2 = some (A, B) ∧ A ≤ B ∧ B < 2 ^ (w + 10014) := by
  have fin : ∀ z B : Nat, z ≤ 16000 → B < z * 2 ^ (w + 10000) → B < 2 ^ (w + 10014) := by
    intro z B hz hB
    have e : 2 ^ (w + 10014) = 16384 * 2 ^ (w + 10000) := by rw [show w + 10014 = 14 + (w + 10000) by omega, Nat.pow_add 2 14]
    have m := Nat.mul_le_mul_right (2 ^ (w + 10000)) (show z ≤ 16384 by omega)
    omega
  intro d
  induction d with
  | zero =>
    intro f i k t1 t2 a1 a2 h hk hi hf
    have h4 := h.2.2.2.1
    obtain ⟨m, hm⟩ : ∃ m : Nat, m = 4098 := ⟨_, rfl⟩
    obtain ⟨A, B, r1, r2, r3⟩ := tRow_low hY hY1 hk0 hM m f i k t1 t2 a1 a2 h (by omega) (by
      have : 2 ^ (w + 9 + 9 * min i 1024) ≤ 2 ^ (3 * m) := Nat.pow_le_pow_right (by omega) (by omega)
      omega) (by omega)
    exact ⟨A, B, r1, r2, fin _ _ (by omega) r3⟩
  | succ d ih =>
    intro f i k t1 t2 a1 a2 h hk hi hf
    obtain ⟨f, rfl⟩ : ∃ j, f = j + 1 := ⟨f - 1, by omega⟩
    have hh := h
    obtain ⟨h1, h2, h3, h4, h5⟩ := hh
    rw [tRow]
    by_cases g : M ≤ k ∧ t2 < 4
    · rw [if_pos g]
      refine ⟨a1, a2 + 8, rfl, by omega, fin (i + 3) _ (by omega) ?_⟩
      have P : 2 ^ 4 ≤ 2 ^ (w + 10000) := Nat.pow_le_pow_right (by omega) (by omega)
      rw [show i + 3 = (i + 2) + 1 by omega, Nat.add_mul (i + 2) 1]
      omega
    · rw [if_neg g]
      exact ih f (i + 1) (k + 2) _ _ _ _ (tInv_step hY hY1 hk0 h) (by omega) (by omega) (by omega)
end Go.Proofs.YtemnjalaincijaaGreat
namespace Go.Proofs.YtemnjalaincijaaGreat
open Go.Ev
theorem nat_shl {N m : Nat} (h : (lim N).length ≤ 1073741824) (hm : m ≤ 4096) : Go.Ev.Fn CX 179 [natV (lim N), .int .i64 (m : Int)] (natV (lim (N * 2 ^ m))) := by
  have := shift_up (lim N) m (okL_lim _) h _ rfl hm
  rwa [wth_lim] at this
theorem nat_shr {N m : Nat} (h : (lim N).length ≤ 1073741824) (hm : m ≤ 4096) (h0 : 0 < m) : Go.Ev.Fn CX 179 [natV (lim N), .int .i64 (-(m : Int))] (natV (lim (N / 2 ^ m))) := by
  have := shift_down (lim N) m (okL_lim _) h _ rfl hm h0
  rwa [wth_lim] at this
theorem fix_shl {a m : Nat} (ha : (lim a).length ≤ 100000000) (hm : m ≤ 1000000000) : Go.Ev.Fn CX 121 [natV (lim a), .int .i64 (m : Int)] (natV (lim (a * 2 ^ m))) := by
  have hl := fun j => lim_len_shl (a := a) (n := j)
  refine Go.Ev.Fn.intro (fn := Tryz.f121) (body := (Tryz.f121).body.get!) (by kernel_rfl) (by kernel_rfl) (by kernel_rfl) (fun _ => rfl) (Nat.le_of_ble_eq_true (by kernel_rfl)) ?_; unfold Tryz.f121; simp only [Option.get!_some]
  repeat (first | (simp only [go_sem, Nat.reduceEqDiff, Nat.reduceAdd, Nat.reduceSub, Nat.reduceMul, Nat.reduceLeDiff, Nat.reduceLT, reduceIte, reduceCtorEq, Nat.succ_ne_zero, elemsC, Int.reduceToNat, Nat.reducePow]) | (simp (disch := (first | omega | (simp only [AL, List.length_map]; omega))) only [AR, AL, ifT, ifF, take_all, List.length_cons, List.length_nil, Int.reduceToNat, Int.reducePow, Nat.reducePow]) | (refine wk_intro (by kernel_rfl) ?_))
  refine vp_loop_inv (fun s => ∃ j : Nat, j ≤ m ∧ s.tmp 0 = .sv (natV (lim (a * 2 ^ j))) ∧ s.tmp 1 = .sv (.int .i64 ((m - j : Nat) : Int)))
    (fun s => match s.tmp 1 with | .sv (.int _ i) => i.toNat | _ => 0) ⟨0, by omega, by rw [Nat.pow_zero, Nat.mul_one]; rfl, rfl⟩ ?_
  rintro s ⟨j, hj, i0, i1⟩
  have hlj := hl j
  by_cases hc : 1024 < m - j
  · obtain ⟨K, hK⟩ : ∃ K : Nat, K = 1024 := ⟨_, rfl⟩
    have st := nat_shl (N := a * 2 ^ j) (m := K) (by omega) (by omega)
    rw [Nat.mul_assoc, ← Nat.pow_add] at st
    generalize hx : a * 2 ^ j = x at *
    generalize hy : a * 2 ^ (j + K) = y at *
    rw [show (K : Int) = 1024 by omega] at st
    repeat (first | (simp only [go_sem, Nat.reduceEqDiff, Nat.reduceAdd, Nat.reduceSub, Nat.reduceMul, Nat.reduceLeDiff, Nat.reduceLT, reduceIte, reduceCtorEq, Nat.succ_ne_zero, elemsC, Int.reduceToNat, Nat.reducePow, i0, i1]) | (simp (disch := (first | omega | (simp only [AL, List.length_map]; omega))) only [AR, AL, ifT, ifF, take_all, List.length_cons, List.length_nil, Int.reduceToNat, Int.reducePow, Nat.reducePow, i0, i1]) | (refine wk_intro (by kernel_rfl) ?_) | (refine vf_of (by first | exact st) ?_))
    exact ⟨⟨j + K, by omega, by rw [hy], by rw [show ((m - (j + K) : Nat) : Int) = ((m - j : Nat) : Int) - 1024 by omega]⟩, by omega⟩
  · have st := nat_shl (N := a * 2 ^ j) (m := m - j) (by omega) (by omega)
    rw [Nat.mul_assoc, ← Nat.pow_add, show j + (m - j) = m by omega] at st
    generalize a * 2 ^ j = x at *
    generalize a * 2 ^ m = y at *
    repeat (first | (simp only [go_sem, Nat.reduceEqDiff, Nat.reduceAdd, Nat.reduceSub, Nat.reduceMul, Nat.reduceLeDiff, Nat.reduceLT, reduceIte, reduceCtorEq, Nat.succ_ne_zero, elemsC, Int.reduceToNat, Nat.reducePow, i0, i1]) | (simp (disch := (first | omega | (simp only [AL, List.length_map]; omega))) only [AR, AL, ifT, ifF, take_all, List.length_cons, List.length_nil, Int.reduceToNat, Int.reducePow, Nat.reducePow, i0, i1]) | (refine wk_intro (by kernel_rfl) ?_))
    refine vp_loop_inv (fun s => s.tmp 0 = .sv (natV (lim x)) ∧ s.tmp 1 = .sv (.int .i64 ((m - j : Nat) : Int))) (fun _ => 0) ⟨i0, i1⟩ ?_
    rintro s' ⟨j0, j1⟩
    repeat (first | (simp only [go_sem, Nat.reduceEqDiff, Nat.reduceAdd, Nat.reduceSub, Nat.reduceMul, Nat.reduceLeDiff, Nat.reduceLT, reduceIte, reduceCtorEq, Nat.succ_ne_zero, elemsC, Int.reduceToNat, Nat.reducePow, j0, j1]) | (simp (disch := (first | omega | (simp only [AL, List.length_map]; omega))) only [AR, AL, ifT, ifF, take_all, List.length_cons, List.length_nil, Int.reduceToNat, Int.reducePow, Nat.reducePow, j0, j1]) | (refine wk_intro (by kernel_rfl) ?_) | (refine vf_of (by first | exact st) ?_))
theorem fix_shr {a m : Nat} (ha : (lim a).length ≤ 300000000) (hm : m ≤ 1000000000) (h0 : 0 < m) : Go.Ev.Fn CX 121 [natV (lim a), .int .i64 (-(m : Int))] (natV (lim (a / 2 ^ m))) := by
  have hl := fun j => lim_len_mono (Nat.div_le_self a (2 ^ j))
  refine Go.Ev.Fn.intro (fn := Tryz.f121) (body := (Tryz.f121).body.get!) (by kernel_rfl) (by kernel_rfl) (by kernel_rfl) (fun _ => rfl) (Nat.le_of_ble_eq_true (by kernel_rfl)) ?_; unfold Tryz.f121; simp only [Option.get!_some]
  repeat (first | (simp only [go_sem, Nat.reduceEqDiff, Nat.reduceAdd, Nat.reduceSub, Nat.reduceMul, Nat.reduceLeDiff, Nat.reduceLT, reduceIte, reduceCtorEq, Nat.succ_ne_zero, elemsC, Int.reduceToNat, Nat.reducePow]) | (simp (disch := (first | omega | (simp only [AL, List.length_map]; omega))) only [AR, AL, ifT, ifF, take_all, List.length_cons, List.length_nil, Int.reduceToNat, Int.reducePow, Nat.reducePow]) | (refine wk_intro (by kernel_rfl) ?_))
  refine vp_loop_inv (fun s => s.tmp 0 = .sv (natV (lim a)) ∧ s.tmp 1 = .sv (.int .i64 (-(m : Int)))) (fun _ => 0) ⟨rfl, rfl⟩ ?_
  rintro s ⟨i0, i1⟩
  repeat (first | (simp only [go_sem, Nat.reduceEqDiff, Nat.reduceAdd, Nat.reduceSub, Nat.reduceMul, Nat.reduceLeDiff, Nat.reduceLT, reduceIte, reduceCtorEq, Nat.succ_ne_zero, elemsC, Int.reduceToNat, Nat.reducePow, i0, i1]) | (simp (disch := (first | omega | (simp only [AL, List.length_map]; omega))) only [AR, AL, ifT, ifF, take_all, List.length_cons, List.length_nil, Int.reduceToNat, Int.reducePow, Nat.reducePow, i0, i1]) | (refine wk_intro (by kernel_rfl) ?_))
  refine vp_loop_inv (fun s => ∃ j : Nat, j < m ∧ s.tmp 0 = .sv (natV (lim (a / 2 ^ j))) ∧ s.tmp 1 = .sv (.int .i64 (-((m - j : Nat) : Int))))
    (fun s => match s.tmp 1 with | .sv (.int _ i) => (-i).toNat | _ => 0) ⟨0, by omega, by rw [Nat.pow_zero, Nat.div_one]; exact i0, i1⟩ ?_
  rintro s2 ⟨j, hj, j0, j1⟩
  have hlj := hl j
  by_cases hc : 1024 < m - j
  · obtain ⟨K, hK⟩ : ∃ K : Nat, K = 1024 := ⟨_, rfl⟩
    have st := nat_shr (N := a / 2 ^ j) (m := K) (by omega) (by omega) (by omega)
    rw [Nat.div_div_eq_div_mul, ← Nat.pow_add] at st
    generalize hx : a / 2 ^ j = x at *
    generalize hy : a / 2 ^ (j + K) = y at *
    rw [show -(K : Int) = -1024 by omega] at st
    repeat (first | (simp only [go_sem, Nat.reduceEqDiff, Nat.reduceAdd, Nat.reduceSub, Nat.reduceMul, Nat.reduceLeDiff, Nat.reduceLT, reduceIte, reduceCtorEq, Nat.succ_ne_zero, elemsC, Int.reduceToNat, Nat.reducePow, j0, j1]) | (simp (disch := (first | omega | (simp only [AL, List.length_map]; omega))) only [AR, AL, ifT, ifF, take_all, List.length_cons, List.length_nil, Int.reduceToNat, Int.reducePow, Nat.reducePow, j0, j1]) | (refine wk_intro (by kernel_rfl) ?_) | (refine vf_of (by first | exact st) ?_))
    exact ⟨⟨j + K, by omega, by rw [hy], by rw [show -((m - (j + K) : Nat) : Int) = -((m - j : Nat) : Int) + 1024 by omega]⟩, by omega⟩
  · have st := nat_shr (N := a / 2 ^ j) (m := m - j) (by omega) (by omega) (by omega)
    rw [Nat.div_div_eq_div_mul, ← Nat.pow_add, show j + (m - j) = m by omega] at st
    generalize a / 2 ^ j = x at *
    generalize a / 2 ^ m = y at *
    repeat (first | (simp only [go_sem, Nat.reduceEqDiff, Nat.reduceAdd, Nat.reduceSub, Nat.reduceMul, Nat.reduceLeDiff, Nat.reduceLT, reduceIte, reduceCtorEq, Nat.succ_ne_zero, elemsC, Int.reduceToNat, Nat.reducePow, j0, j1]) | (simp (disch := (first | omega | (simp only [AL, List.length_map]; omega))) only [AR, AL, ifT, ifF, take_all, List.length_cons, List.length_nil, Int.reduceToNat, Int.reducePow, Nat.reducePow, j0, j1]) | (refine wk_intro (by kernel_rfl) ?_) | (refine vf_of (by first | exact st) ?_))
end Go.Proofs.YtemnjalaincijaaGreat
namespace Go.Proofs.YtemnjalaincijaaGreat
open Go.Ev
theorem fix_Mul {a b c d w : Nat} (h1 : (lim a).length ≤ 100000000) (h2 : (lim b).length ≤ 100000000) (h3 : (lim c).length ≤ 100000000) (h4 : (lim d).length ≤ 100000000) (hw : w ≤ 1000000000) (h0 : 0 < w) : Go.Ev.Fn CX 60 [spanV a b, spanV c d, .int .i64 (w : Int)] (spanV (a * c / 2 ^ w) (b * d / 2 ^ w + 1)) := by
  have m1 := nat_MulL (N := a) (D := c) (by omega) (by omega)
  have m2 := nat_MulL (N := b) (D := d) (by omega) (by omega)
  have l1 := lim_len_mul (a := a) (b := c)
  have l2 := lim_len_mul (a := b) (b := d)
  have s1 := fix_shr (a := a * c) (m := w) (by omega) hw h0
  have s2 := fix_shr (a := b * d) (m := w) (by omega) hw h0
  have l3 := lim_len_mono (Nat.div_le_self (b * d) (2 ^ w))
  have n1 := fix_Next (a := b * d / 2 ^ w) (by omega)
  generalize a * c / 2 ^ w = x at *
  generalize b * d / 2 ^ w = y at *
  generalize a * c = u at *
  generalize b * d = v at *
  have e0 : (0 : Int) - (w : Int) = -(w : Int) := by omega
  refine Go.Ev.Fn.intro (fn := Tryz.f60) (body := (Tryz.f60).body.get!) (by kernel_rfl) (by kernel_rfl) (by kernel_rfl) (fun _ => rfl) (Nat.le_of_ble_eq_true (by kernel_rfl)) ?_; unfold Tryz.f60; simp only [Option.get!_some]
  repeat (first | (simp only [go_sem, Nat.reduceEqDiff, Nat.reduceAdd, Nat.reduceSub, Nat.reduceMul, Nat.reduceLeDiff, Nat.reduceLT, reduceIte, reduceCtorEq, Nat.succ_ne_zero, elemsC, Int.reduceToNat, Nat.reducePow, e0]) | (simp (disch := (first | omega | (simp only [AL, List.length_map]; omega))) only [AR, AL, ifT, ifF, take_all, List.length_cons, List.length_nil, Int.reduceToNat, Int.reducePow, Nat.reducePow, e0]) | (refine wk_intro (by kernel_rfl) ?_) | (refine vp_draw (id := 1) (l := [8, 10, 11, 16, 18, 19, 22]) (by kernel_rfl) ?_) | (refine vf_of (by first | exact m1 | exact s1 | exact m2 | exact s2 | exact n1) ?_))
end Go.Proofs.YtemnjalaincijaaGreat
namespace Go.Proofs.YtemnjalaincijaaGreat
open Go.Ev
theorem fix_Of {n d w : Nat} (h1 : (lim n).length ≤ 100000000) (h2 : (lim d).length ≤ 100000000) (hd : d ≠ 0) (hw : w ≤ 1000000000) : Go.Ev.Fn CX 177 [natV (lim n), natV (lim d), .int .i64 (w : Int)] (spanV (n * 2 ^ w / d) (n * 2 ^ w / d + 1)) := by
  have s1 := fix_shl (a := n) (m := w) (by omega) hw
  have l1 := lim_len_shl (a := n) (n := w)
  have o1 := fix_Over' (N := n * 2 ^ w) (D := d) hd (by omega) (by omega)
  have l3 := lim_len_mono (Nat.div_le_self (n * 2 ^ w) d)
  have n1 := fix_Next (a := n * 2 ^ w / d) (by omega)
  generalize n * 2 ^ w / d = x at *
  generalize n * 2 ^ w = y at *
  refine Go.Ev.Fn.intro (fn := Tryz.f177) (body := (Tryz.f177).body.get!) (by kernel_rfl) (by kernel_rfl) (by kernel_rfl) (fun _ => rfl) (Nat.le_of_ble_eq_true (by kernel_rfl)) ?_; unfold Tryz.f177; simp only [Option.get!_some]
  repeat (first | (simp only [go_sem, Nat.reduceEqDiff, Nat.reduceAdd, Nat.reduceSub, Nat.reduceMul, Nat.reduceLeDiff, Nat.reduceLT, reduceIte, reduceCtorEq, Nat.succ_ne_zero, elemsC, Int.reduceToNat, Nat.reducePow]) | (simp (disch := (first | omega | (simp only [AL, List.length_map]; omega))) only [AR, AL, ifT, ifF, take_all, List.length_cons, List.length_nil, Int.reduceToNat, Int.reducePow, Nat.reducePow]) | (refine wk_intro (by kernel_rfl) ?_) | (refine vf_of (by first | exact s1 | exact o1 | exact n1) ?_))
theorem fix_Floor {a b w p : Nat} (h1 : (lim a).length ≤ 100000000) (h2 : (lim b).length ≤ 100000000) (hp : p < w) (hw : w ≤ 1000000000) : Go.Ev.Fn CX 176 [spanV a b, .int .i64 (w : Int), .int .i64 (p : Int)] (.tup [natV (lim (a / 2 ^ (w - p))), .bool (decide (a / 2 ^ (w - p) = (b - 1) / 2 ^ (w - p)))]) := by
  have e0 : (p : Int) - (w : Int) = -((w - p : Nat) : Int) := by omega
  have l1 := lim_len1
  have s1 := fix_shr (a := a) (m := w - p) (by omega) (by omega) (by omega)
  have o := fix_One
  have m1 := fix_Less' (N := b) (D := 1) (by omega) (by omega)
  have l2 := lim_len_mono (Nat.sub_le b 1)
  have s2 := fix_shr (a := b - 1) (m := w - p) (by omega) (by omega) (by omega)
  have l3 := lim_len_mono (Nat.div_le_self a (2 ^ (w - p)))
  have l4 := lim_len_mono (Nat.div_le_self (b - 1) (2 ^ (w - p)))
  have c := nat_CmpL (N := a / 2 ^ (w - p)) (D := (b - 1) / 2 ^ (w - p)) (by omega) (by omega)
  generalize a / 2 ^ (w - p) = x at *
  generalize (b - 1) / 2 ^ (w - p) = y at *
  generalize b - 1 = b' at *
  have e1 : (cmpN x y == 0) = decide (x = y) := by
    rw [show (cmpN x y == 0) = decide (cmpN x y = 0) from by by_cases h : cmpN x y = 0 <;> simp [h]]
    exact decide_eq_decide.2 (by unfold cmpN; split <;> (try split) <;> omega)
  generalize cmpN x y = z at *
  generalize decide (x = y) = q at *
  generalize hk : w - p = k at *
  refine Go.Ev.Fn.intro (fn := Tryz.f176) (body := (Tryz.f176).body.get!) (by kernel_rfl) (by kernel_rfl) (by kernel_rfl) (fun _ => rfl) (Nat.le_of_ble_eq_true (by kernel_rfl)) ?_; unfold Tryz.f176; simp only [Option.get!_some]
  repeat (first | (simp only [go_sem, Nat.reduceEqDiff, Nat.reduceAdd, Nat.reduceSub, Nat.reduceMul, Nat.reduceLeDiff, Nat.reduceLT, reduceIte, reduceCtorEq, Nat.succ_ne_zero, elemsC, Int.reduceToNat, Nat.reducePow, e0, e1]) | (simp (disch := (first | omega | (simp only [AL, List.length_map]; omega))) only [AR, AL, ifT, ifF, take_all, List.length_cons, List.length_nil, Int.reduceToNat, Int.reducePow, Nat.reducePow, e0, e1]) | (refine wk_intro (by kernel_rfl) ?_) | (refine vp_draw (id := 2) (l := [18, 19, 20, 8, 24]) (by kernel_rfl) ?_) | (refine vf_of (by first | exact s1 | exact o | exact m1 | exact s2 | exact c) ?_))
end Go.Proofs.YtemnjalaincijaaGreat
namespace Go.Proofs.YtemnjalaincijaaGreat
open Go.Ev
end Go.Proofs.YtemnjalaincijaaGreat
namespace Go.Proofs.YtemnjalaincijaaGreat
open Go.Ev
end Go.Proofs.YtemnjalaincijaaGreat
namespace Go.Proofs.YtemnjalaincijaaGreat
open Go.Ev
end Go.Proofs.YtemnjalaincijaaGreat
namespace Go.Proofs.YtemnjalaincijaaGreat
open Go.Ev
theorem rat_Zero {v : SV} {q : Rat} {L : Nat} (hv : RatA v q L) (hL : 1 ≤ L) (hL2 : L ≤ 16777216) : Go.Ev.Fn CX 55 [v] (.bool (decide (q = 0))) := by
  have hN := rat_Norm hv (by omega)
  obtain ⟨s, n, d, rfl, -⟩ := hv
  by_cases h : q = 0
  · subst h
    rw [decide_eq_true rfl]
    rw [rv_zero] at hN
    refine Go.Ev.Fn.intro (fn := Tryz.f55) (body := (Tryz.f55).body.get!) (by kernel_rfl) (by kernel_rfl) (by kernel_rfl) (fun _ => rfl) (Nat.le_of_ble_eq_true (by kernel_rfl)) ?_; unfold Tryz.f55; simp only [Option.get!_some]
    repeat (first | (simp only [go_sem, Nat.reduceEqDiff, Nat.reduceAdd, Nat.reduceSub, Nat.reduceMul, Nat.reduceLeDiff, Nat.reduceLT, reduceIte, reduceCtorEq, Nat.succ_ne_zero, elemsC, Int.reduceToNat, Nat.reducePow]) | (simp (disch := (first | omega | (simp only [AL, List.length_map]; omega))) only [AR, AL, ifT, ifF, take_all, List.length_cons, List.length_nil, Int.reduceToNat, Int.reducePow, Nat.reducePow]) | (refine wk_intro (by kernel_rfl) ?_) | (refine vf_of (by first | exact hN) ?_))
  · have hp := lim_pos (N := q.num.natAbs) (fun e => h (num_zero.1 (by omega)))
    rw [decide_eq_false h]
    refine Go.Ev.Fn.intro (fn := Tryz.f55) (body := (Tryz.f55).body.get!) (by kernel_rfl) (by kernel_rfl) (by kernel_rfl) (fun _ => rfl) (Nat.le_of_ble_eq_true (by kernel_rfl)) ?_; unfold Tryz.f55; simp only [Option.get!_some]
    repeat (first | (simp only [go_sem, Nat.reduceEqDiff, Nat.reduceAdd, Nat.reduceSub, Nat.reduceMul, Nat.reduceLeDiff, Nat.reduceLT, reduceIte, reduceCtorEq, Nat.succ_ne_zero, elemsC, Int.reduceToNat, Nat.reducePow]) | (simp (disch := (first | omega | (simp only [AL, List.length_map]; omega))) only [AR, AL, ifT, ifF, take_all, List.length_cons, List.length_nil, Int.reduceToNat, Int.reducePow, Nat.reducePow]) | (refine wk_intro (by kernel_rfl) ?_) | (refine vf_of (by first | exact hN) ?_))
theorem ref2_Zero {v : SV} {q : Rat} {L : Nat} (hv : RatA v q L) (hL : 1 ≤ L) (hL2 : L ≤ 16777216) : Go.Ev.Fn CX 66 [v] (.bool (decide (q = 0))) := by
  have hN := ref2_Norm hv (by omega)
  obtain ⟨s, n, d, rfl, -⟩ := hv
  by_cases h : q = 0
  · subst h
    rw [decide_eq_true rfl]
    rw [rv_zero] at hN
    refine Go.Ev.Fn.intro (fn := Tryz.f66) (body := (Tryz.f66).body.get!) (by kernel_rfl) (by kernel_rfl) (by kernel_rfl) (fun _ => rfl) (Nat.le_of_ble_eq_true (by kernel_rfl)) ?_; unfold Tryz.f66; simp only [Option.get!_some]
    repeat (first | (simp only [go_sem, Nat.reduceEqDiff, Nat.reduceAdd, Nat.reduceSub, Nat.reduceMul, Nat.reduceLeDiff, Nat.reduceLT, reduceIte, reduceCtorEq, Nat.succ_ne_zero, elemsC, Int.reduceToNat, Nat.reducePow]) | (simp (disch := (first | omega | (simp only [AL, List.length_map]; omega))) only [AR, AL, ifT, ifF, take_all, List.length_cons, List.length_nil, Int.reduceToNat, Int.reducePow, Nat.reducePow]) | (refine wk_intro (by kernel_rfl) ?_) | (refine vf_of (by first | exact hN) ?_))
  · have hp := lim_pos (N := q.num.natAbs) (fun e => h (num_zero.1 (by omega)))
    rw [decide_eq_false h]
    refine Go.Ev.Fn.intro (fn := Tryz.f66) (body := (Tryz.f66).body.get!) (by kernel_rfl) (by kernel_rfl) (by kernel_rfl) (fun _ => rfl) (Nat.le_of_ble_eq_true (by kernel_rfl)) ?_; unfold Tryz.f66; simp only [Option.get!_some]
    repeat (first | (simp only [go_sem, Nat.reduceEqDiff, Nat.reduceAdd, Nat.reduceSub, Nat.reduceMul, Nat.reduceLeDiff, Nat.reduceLT, reduceIte, reduceCtorEq, Nat.succ_ne_zero, elemsC, Int.reduceToNat, Nat.reducePow]) | (simp (disch := (first | omega | (simp only [AL, List.length_map]; omega))) only [AR, AL, ifT, ifF, take_all, List.length_cons, List.length_nil, Int.reduceToNat, Int.reducePow, Nat.reducePow]) | (refine wk_intro (by kernel_rfl) ?_) | (refine vf_of (by first | exact hN) ?_))
end Go.Proofs.YtemnjalaincijaaGreat
namespace Go.Proofs.YtemnjalaincijaaGreat
open Go.Ev
abbrev ballR (a b : Rat) : SV := .agg [.bool (decide (a.num < 0)), natV (lim a.num.natAbs), natV (lim a.den), .bool (decide (b.num < 0)), natV (lim b.num.natAbs), natV (lim b.den)]
theorem ball_Of {v : SV} {q : Rat} {L : Nat} (hv : RatA v q L) (hL : L ≤ 1000000) : Go.Ev.Fn CX 56 [v] (ballR q q) := by
  have n1 := rat_Norm hv (by omega)
  obtain ⟨s, n, d, rfl, -⟩ := hv
  refine Go.Ev.Fn.intro (fn := Tryz.f56) (body := (Tryz.f56).body.get!) (by kernel_rfl) (by kernel_rfl) (by kernel_rfl) (fun _ => rfl) (Nat.le_of_ble_eq_true (by kernel_rfl)) ?_; unfold Tryz.f56; simp only [Option.get!_some]
  repeat (first | (simp only [go_sem, Nat.reduceEqDiff, Nat.reduceAdd, Nat.reduceSub, Nat.reduceMul, Nat.reduceLeDiff, Nat.reduceLT, reduceIte, reduceCtorEq, Nat.succ_ne_zero, elemsC, Int.reduceToNat, Nat.reducePow]) | (simp (disch := (first | omega | (simp only [AL, List.length_map]; omega))) only [AR, AL, ifT, ifF, take_all, List.length_cons, List.length_nil, Int.reduceToNat, Int.reducePow, Nat.reducePow]) | (refine wk_intro (by kernel_rfl) ?_) | (refine vp_draw (id := 1) (l := []) (by kernel_rfl) ?_) | (refine vf_of (by first | exact n1) ?_))
end Go.Proofs.YtemnjalaincijaaGreat
namespace Go.Proofs.YtemnjalaincijaaGreat
open Go.Ev
theorem mul_denE (D : Rat) : D * (D.den : Rat) = (D.num : Rat) := by
  have dn : (0 : Rat) < (D.den : Rat) := by exact_mod_cast Rat.den_pos (self := D)
  have := (Rat.mkRat_eq_div D.num D.den).symm.trans (Rat.mkRat_self D)
  have e := Rat.div_mul_cancel (a := (D.num : Rat)) (b := (D.den : Rat)) (by grind)
  rwa [this] at e
theorem fix_Rat {q : Rat} {w L : Nat} (hz : szR q L) (hL : L ≤ 1000) (hw : w ≤ 10000) : Go.Ev.Fn CX 128 [rv q, .int .i64 (w : Int)] (spanV (q.num.natAbs * 2 ^ w / q.den) (q.num.natAbs * 2 ^ w / q.den + 1)) := by
  obtain ⟨z1, z2⟩ := hz
  have o := fix_Of (n := q.num.natAbs) (d := q.den) (w := w) (by omega) (by omega) q.den_nz (by omega)
  generalize q.num.natAbs * 2 ^ w / q.den = x at *
  refine Go.Ev.Fn.intro (fn := Tryz.f128) (body := (Tryz.f128).body.get!) (by kernel_rfl) (by kernel_rfl) (by kernel_rfl) (fun _ => rfl) (Nat.le_of_ble_eq_true (by kernel_rfl)) ?_; unfold Tryz.f128; simp only [Option.get!_some]
  repeat (first | (simp only [go_sem, Nat.reduceEqDiff, Nat.reduceAdd, Nat.reduceSub, Nat.reduceMul, Nat.reduceLeDiff, Nat.reduceLT, reduceIte, reduceCtorEq, Nat.succ_ne_zero, elemsC, Int.reduceToNat, Nat.reducePow]) | (simp (disch := (first | omega | (simp only [AL, List.length_map]; omega))) only [AR, AL, ifT, ifF, take_all, List.length_cons, List.length_nil, Int.reduceToNat, Int.reducePow, Nat.reducePow]) | (refine wk_intro (by kernel_rfl) ?_) | (refine vf_of (by first | exact o) ?_))
theorem fix_Unit {w : Nat} (hw : w ≤ 1000000000) : Go.Ev.Fn CX 124 [.int .i64 (w : Int)] (spanV (2 ^ w) (2 ^ w + 1)) := by
  have o := fix_One
  have l1 := lim_len1
  have s := fix_shl (a := 1) (m := w) (by omega) (by omega)
  have l := lim_len_shl (a := 1) (n := w)
  rw [Nat.one_mul] at s l
  have n1 := fix_Next (a := 2 ^ w) (by omega)
  generalize 2 ^ w = P at *
  refine Go.Ev.Fn.intro (fn := Tryz.f124) (body := (Tryz.f124).body.get!) (by kernel_rfl) (by kernel_rfl) (by kernel_rfl) (fun _ => rfl) (Nat.le_of_ble_eq_true (by kernel_rfl)) ?_; unfold Tryz.f124; simp only [Option.get!_some]
  repeat (first | (simp only [go_sem, Nat.reduceEqDiff, Nat.reduceAdd, Nat.reduceSub, Nat.reduceMul, Nat.reduceLeDiff, Nat.reduceLT, reduceIte, reduceCtorEq, Nat.succ_ne_zero, elemsC, Int.reduceToNat, Nat.reducePow]) | (simp (disch := (first | omega | (simp only [AL, List.length_map]; omega))) only [AR, AL, ifT, ifF, take_all, List.length_cons, List.length_nil, Int.reduceToNat, Int.reducePow, Nat.reducePow]) | (refine wk_intro (by kernel_rfl) ?_) | (refine vf_of (by first | exact o | exact s | exact n1) ?_))
theorem fix_Told {a b w p : Nat} (ha : (lim a).length ≤ 10000) (hb : (lim b).length ≤ 10000) (hp : p < w) (hw : w ≤ 10000) : Go.Ev.Fn CX 63 [spanV a b, .int .i64 (w : Int), .int .i64 (p : Int)] (ballR (mkRat ((a / 2 ^ (w - p) : Nat) : Int) (2 ^ p)) (mkRat ((b / 2 ^ (w - p) + 1 : Nat) : Int) (2 ^ p))) := by
  have o := fix_One
  have l1 := lim_len1
  have sh := fix_shl (a := 1) (m := p) (by omega) (by omega)
  have lp := lim_len_shl (a := 1) (n := p)
  rw [Nat.one_mul] at sh lp
  have e0 : (p : Int) - (w : Int) = -((w - p : Nat) : Int) := by omega
  have s1 := fix_shr (a := a) (m := w - p) (by omega) (by omega) (by omega)
  have s2 := fix_shr (a := b) (m := w - p) (by omega) (by omega) (by omega)
  have l3 := lim_len_mono (Nat.div_le_self a (2 ^ (w - p)))
  have l4 := lim_len_mono (Nat.div_le_self b (2 ^ (w - p)))
  have n1 := fix_Next (a := b / 2 ^ (w - p)) (by omega)
  have l5 := lim_len_add (a := b / 2 ^ (w - p)) (b := 1) (L := 10000) (by omega) (by omega)
  have r1 := rat_OfL (s := false) (n := a / 2 ^ (w - p)) (d := 2 ^ p) (by omega) (by omega)
  have r2 := rat_OfL (s := false) (n := b / 2 ^ (w - p) + 1) (d := 2 ^ p) (by omega) (by omega)
  rw [show sgn false (a / 2 ^ (w - p)) = ((a / 2 ^ (w - p) : Nat) : Int) from rfl] at r1
  rw [show sgn false (b / 2 ^ (w - p) + 1) = ((b / 2 ^ (w - p) + 1 : Nat) : Int) from rfl] at r2
  generalize mkRat ((a / 2 ^ (w - p) : Nat) : Int) (2 ^ p) = q1 at *
  generalize mkRat ((b / 2 ^ (w - p) + 1 : Nat) : Int) (2 ^ p) = q2 at *
  generalize b / 2 ^ (w - p) + 1 = y' at *
  generalize a / 2 ^ (w - p) = x at *
  generalize b / 2 ^ (w - p) = y at *
  generalize 2 ^ p = P at *
  generalize hk : w - p = k at *
  refine Go.Ev.Fn.intro (fn := Tryz.f63) (body := (Tryz.f63).body.get!) (by kernel_rfl) (by kernel_rfl) (by kernel_rfl) (fun _ => rfl) (Nat.le_of_ble_eq_true (by kernel_rfl)) ?_; unfold Tryz.f63; simp only [Option.get!_some]
  repeat (first | (simp only [go_sem, Nat.reduceEqDiff, Nat.reduceAdd, Nat.reduceSub, Nat.reduceMul, Nat.reduceLeDiff, Nat.reduceLT, reduceIte, reduceCtorEq, Nat.succ_ne_zero, elemsC, Int.reduceToNat, Nat.reducePow, e0]) | (simp (disch := (first | omega | (simp only [AL, List.length_map]; omega))) only [AR, AL, ifT, ifF, take_all, List.length_cons, List.length_nil, Int.reduceToNat, Int.reducePow, Nat.reducePow, e0]) | (refine wk_intro (by kernel_rfl) ?_) | (refine vp_draw (id := 2) (l := [12, 16, 7, 20, 24, 25, 7]) (by kernel_rfl) ?_) | (refine vf_of (by first | exact o | exact sh | exact s1 | exact r1 | exact s2 | exact n1 | exact r2) ?_))
abbrev unN (q : Rat) (w : Nat) : Nat := q.num.natAbs * 2 ^ w / q.den
theorem fix_Ball {lo hi : Rat} {w L : Nat} (h1 : szR lo L) (h2 : szR hi L) (hL : L ≤ 1000) (hw : w ≤ 10000) : Go.Ev.Fn CX 64 [ballR lo hi, .int .i64 (w : Int)] (spanV (unN lo w) (unN hi w + 1)) := by
  have r1 : Go.Ev.Fn CX 128 [rv lo, .int .i64 (w : Int)] (spanV (unN lo w) (unN lo w + 1)) := fix_Rat h1 hL hw
  have r2 : Go.Ev.Fn CX 128 [rv hi, .int .i64 (w : Int)] (spanV (unN hi w) (unN hi w + 1)) := fix_Rat h2 hL hw
  generalize unN lo w = x at *
  generalize unN hi w = y at *
  refine Go.Ev.Fn.intro (fn := Tryz.f64) (body := (Tryz.f64).body.get!) (by kernel_rfl) (by kernel_rfl) (by kernel_rfl) (fun _ => rfl) (Nat.le_of_ble_eq_true (by kernel_rfl)) ?_; unfold Tryz.f64; simp only [Option.get!_some]
  repeat (first | (simp only [go_sem, Nat.reduceEqDiff, Nat.reduceAdd, Nat.reduceSub, Nat.reduceMul, Nat.reduceLeDiff, Nat.reduceLT, reduceIte, reduceCtorEq, Nat.succ_ne_zero, elemsC, Int.reduceToNat, Nat.reducePow]) | (simp (disch := (first | omega | (simp only [AL, List.length_map]; omega))) only [AR, AL, ifT, ifF, take_all, List.length_cons, List.length_nil, Int.reduceToNat, Int.reducePow, Nat.reducePow]) | (refine wk_intro (by kernel_rfl) ?_) | (refine vp_draw (id := 1) (l := []) (by kernel_rfl) ?_) | (refine vf_of (by first | exact r1 | exact r2) ?_))
theorem fix_Inverse {a b w : Nat} (h1 : (lim a).length ≤ 50000000) (h2 : (lim b).length ≤ 50000000) (ha : 0 < a) (hb : 0 < b) (hw : w ≤ 400000000) : Go.Ev.Fn CX 150 [spanV a b, .int .i64 (w : Int)] (spanV (2 ^ (2 * w) / b) (2 ^ (2 * w) / a + 1)) := by
  have o := fix_One
  have l1 := lim_len1
  have s := fix_shl (a := 1) (m := 2 * w) (by omega) (by omega)
  have l := lim_len_shl (a := 1) (n := 2 * w)
  rw [Nat.one_mul] at s l
  have o1 := fix_Over' (N := 2 ^ (2 * w)) (D := b) (by omega) (by omega) (by omega)
  have o2 := fix_Over' (N := 2 ^ (2 * w)) (D := a) (by omega) (by omega) (by omega)
  have l2 := lim_len_mono (Nat.div_le_self (2 ^ (2 * w)) a)
  have n1 := fix_Next (a := 2 ^ (2 * w) / a) (by omega)
  rw [show ((2 * w : Nat) : Int) = 2 * (w : Int) by omega] at s
  generalize 2 ^ (2 * w) / b = x at *
  generalize 2 ^ (2 * w) / a + 1 = y' at *
  generalize 2 ^ (2 * w) / a = y at *
  generalize 2 ^ (2 * w) = P at *
  refine Go.Ev.Fn.intro (fn := Tryz.f150) (body := (Tryz.f150).body.get!) (by kernel_rfl) (by kernel_rfl) (by kernel_rfl) (fun _ => rfl) (Nat.le_of_ble_eq_true (by kernel_rfl)) ?_; unfold Tryz.f150; simp only [Option.get!_some]
  repeat (first | (simp only [go_sem, Nat.reduceEqDiff, Nat.reduceAdd, Nat.reduceSub, Nat.reduceMul, Nat.reduceLeDiff, Nat.reduceLT, reduceIte, reduceCtorEq, Nat.succ_ne_zero, elemsC, Int.reduceToNat, Nat.reducePow]) | (simp (disch := (first | omega | (simp only [AL, List.length_map]; omega))) only [AR, AL, ifT, ifF, take_all, List.length_cons, List.length_nil, Int.reduceToNat, Int.reducePow, Nat.reducePow]) | (refine wk_intro (by kernel_rfl) ?_) | (refine vp_draw (id := 2) (l := [5, 12, 5, 16, 17]) (by kernel_rfl) ?_) | (refine vf_of (by first | exact o | exact s | exact o1 | exact o2 | exact n1) ?_))
theorem enc_inv {a b w : Nat} {q : Rat} (ha : 0 < a) (h : Enc w a b q) : Enc w (2 ^ (2 * w) / b) (2 ^ (2 * w) / a + 1) (1 / q) ∧ 0 < q := by
  obtain ⟨h1, h2⟩ := h
  have P := p2_pos w
  have aR : (0 : Rat) < (a : Rat) := by exact_mod_cast ha
  have qP : 0 < q * p2 w := by grind
  have q0 : 0 < q := by
    rcases Rat.le_total (a := q) (b := 0) with g | g
    · have := Rat.mul_le_mul_of_nonneg_right g (show 0 ≤ p2 w by grind)
      grind
    · by_cases e : q = 0
      · rw [e] at qP; grind
      · grind
  have bR : (0 : Rat) < (b : Rat) := by grind
  have hb : 0 < b := by exact_mod_cast bR
  have e0 : ((2 ^ (2 * w) : Nat) : Rat) = p2 w * p2 w := by
    show _ = ((2 ^ w : Nat) : Rat) * ((2 ^ w : Nat) : Rat)
    have : ((2 ^ w : Nat) : Rat) * ((2 ^ w : Nat) : Rat) = ((2 ^ w * 2 ^ w : Nat) : Rat) := by exact_mod_cast rfl
    rw [this, ← Nat.pow_add]
    congr 2
    omega
  have f := floor_le (a := 2 ^ (2 * w)) (d := b)
  have g := le_floor (a := 2 ^ (2 * w)) (d := a) ha
  rw [e0] at f g
  have iq : 1 / q * q = 1 := Rat.div_mul_cancel (by grind)
  have i0 : 0 ≤ 1 / q := by
    rcases Rat.le_total (a := 0) (b := 1 / q) with k | k
    · exact k
    · have := Rat.mul_le_mul_of_nonneg_right k (show 0 ≤ q by grind)
      grind
  generalize 1 / q = i at *
  refine ⟨⟨le_by bR ?_, le_by aR ?_⟩, q0⟩
  · -- x * b <= P * P = i * q * P * P <= i P * b
    have k1 := Rat.mul_le_mul_of_nonneg_left h2 (show 0 ≤ i * p2 w from Rat.mul_nonneg i0 (by grind))
    have k2 : i * p2 w * (q * p2 w) = p2 w * p2 w := by
      have : i * p2 w * (q * p2 w) = i * q * (p2 w * p2 w) := by grind
      rw [this, iq, Rat.one_mul]
    grind
  · have k1 := Rat.mul_le_mul_of_nonneg_left h1 (show 0 ≤ i * p2 w from Rat.mul_nonneg i0 (by grind))
    have k2 : i * p2 w * (q * p2 w) = p2 w * p2 w := by
      have : i * p2 w * (q * p2 w) = i * q * (p2 w * p2 w) := by grind
      rw [this, iq, Rat.one_mul]
    grind
theorem unN_le {q : Rat} (h0 : 0 ≤ q) (w : Nat) : ((unN q w : Nat) : Rat) ≤ q * p2 w ∧ q * p2 w ≤ ((unN q w + 1 : Nat) : Rat) := by
  have D : (0 : Rat) < (q.den : Rat) := by exact_mod_cast q.den_pos
  have f := floor_le (a := q.num.natAbs * 2 ^ w) (d := q.den)
  have g := le_floor (a := q.num.natAbs * 2 ^ w) (d := q.den) q.den_pos
  have e : ((q.num.natAbs * 2 ^ w : Nat) : Rat) = q * p2 w * (q.den : Rat) := by
    have c1 : ((q.num.natAbs * 2 ^ w : Nat) : Rat) = ((q.num.natAbs : Nat) : Rat) * p2 w := by exact_mod_cast rfl
    have h := mul_denE q
    have h2 : ((q.num.natAbs : Nat) : Rat) = (q.num : Rat) := by
      have : (q.num.natAbs : Int) = q.num := Int.natAbs_of_nonneg (Rat.num_nonneg.2 h0)
      rw [← this]; rfl
    rw [c1, h2, ← h]
    grind
  rw [e] at f g
  exact ⟨le_by D f, le_by D g⟩
theorem ball_enc {lo hi q : Rat} (h0 : 0 ≤ lo) (h1 : lo ≤ q) (h2 : q ≤ hi) (w : Nat) : Enc w (unN lo w) (unN hi w + 1) q := by
  have P := p2_pos w
  have a := (unN_le h0 w).1
  have b := (unN_le (show 0 ≤ hi by grind) w).2
  have c := Rat.mul_le_mul_of_nonneg_right h1 (show 0 ≤ p2 w by grind)
  have d := Rat.mul_le_mul_of_nonneg_right h2 (show 0 ≤ p2 w by grind)
  exact ⟨Rat.le_trans a c, Rat.le_trans d b⟩
end Go.Proofs.YtemnjalaincijaaGreat
namespace Go.Proofs.YtemnjalaincijaaGreat
open Go.Ev
end Go.Proofs.YtemnjalaincijaaGreat
namespace Go.Proofs.YtemnjalaincijaaGreat
open Go.Ev
end Go.Proofs.YtemnjalaincijaaGreat
namespace Go.Proofs.YtemnjalaincijaaGreat
open Go.Ev
end Go.Proofs.YtemnjalaincijaaGreat
namespace Go.Proofs.YtemnjalaincijaaGreat
open Go.Ev
end Go.Proofs.YtemnjalaincijaaGreat
namespace Go.Proofs.YtemnjalaincijaaGreat
open Go.Ev
end Go.Proofs.YtemnjalaincijaaGreat
namespace Go.Proofs.YtemnjalaincijaaGreat
open Go.Ev
abbrev intV (z : Int) : SV := .agg [.bool (decide (z < 0)), natV (lim z.natAbs)]
abbrev ivV (a b : Int) : SV := .agg [.bool (decide (a < 0)), natV (lim a.natAbs), .bool (decide (b < 0)), natV (lim b.natAbs)]
theorem lim_ne {n : Nat} : decide (0 < (lim n).length) = decide (n ≠ 0) := by
  by_cases h : n = 0
  · subst h; rw [lim_zero]; rfl
  · rw [decide_eq_true (lim_pos h), decide_eq_true h]
theorem ref4_Whole (n : Int) (h : -9223372036854775808 < n ∧ n < 9223372036854775808) : Go.Ev.Fn CX 143 [.int .i64 n] (intV n) := by
  by_cases h0 : n < 0
  · obtain ⟨m, rfl⟩ : ∃ m : Nat, n = -(m : Int) := ⟨n.natAbs, by omega⟩
    have o := ref1_Of m (by omega)
    rw [show intV (-(m : Int)) = .agg [.bool true, natV (lim m)] by show SV.agg [.bool (decide (-(m : Int) < 0)), natV (lim (-(m : Int)).natAbs)] = _; rw [decide_eq_true h0, Int.natAbs_neg, Int.natAbs_natCast]]
    have e0 : 0 - -(m : Int) = (m : Int) := by omega
    refine Go.Ev.Fn.intro (fn := Tryz.f143) (body := (Tryz.f143).body.get!) (by kernel_rfl) (by kernel_rfl) (by kernel_rfl) (fun _ => rfl) (Nat.le_of_ble_eq_true (by kernel_rfl)) ?_; unfold Tryz.f143; simp only [Option.get!_some]
    repeat (first | (simp only [go_sem, Nat.reduceEqDiff, Nat.reduceAdd, Nat.reduceSub, Nat.reduceMul, Nat.reduceLeDiff, Nat.reduceLT, reduceIte, reduceCtorEq, Nat.succ_ne_zero, elemsC, Int.reduceToNat, Nat.reducePow, e0]) | (simp (disch := (first | omega | (simp only [AL, List.length_map]; omega))) only [AR, AL, ifT, ifF, take_all, List.length_cons, List.length_nil, Int.reduceToNat, Int.reducePow, Nat.reducePow, e0]) | (refine wk_intro (by kernel_rfl) ?_) | (refine vf_of (by first | exact o) ?_))
  · obtain ⟨m, rfl⟩ : ∃ m : Nat, n = (m : Int) := ⟨n.natAbs, by omega⟩
    have o := ref1_Of m (by omega)
    rw [show intV (m : Int) = .agg [.bool false, natV (lim m)] by show SV.agg [.bool (decide ((m : Int) < 0)), natV (lim (m : Int).natAbs)] = _; rw [decide_eq_false h0, Int.natAbs_natCast]]
    refine Go.Ev.Fn.intro (fn := Tryz.f143) (body := (Tryz.f143).body.get!) (by kernel_rfl) (by kernel_rfl) (by kernel_rfl) (fun _ => rfl) (Nat.le_of_ble_eq_true (by kernel_rfl)) ?_; unfold Tryz.f143; simp only [Option.get!_some]
    repeat (first | (simp only [go_sem, Nat.reduceEqDiff, Nat.reduceAdd, Nat.reduceSub, Nat.reduceMul, Nat.reduceLeDiff, Nat.reduceLT, reduceIte, reduceCtorEq, Nat.succ_ne_zero, elemsC, Int.reduceToNat, Nat.reducePow]) | (simp (disch := (first | omega | (simp only [AL, List.length_map]; omega))) only [AR, AL, ifT, ifF, take_all, List.length_cons, List.length_nil, Int.reduceToNat, Int.reducePow, Nat.reducePow]) | (refine wk_intro (by kernel_rfl) ?_) | (refine vf_of (by first | exact o) ?_))
theorem ref4_Opp (z : Int) (h : (lim z.natAbs).length ≤ 1000000) : Go.Ev.Fn CX 187 [intV z] (intV (-z)) := by
  have e : intV (-z) = .agg [.bool (!decide (z < 0) && decide (0 < (lim z.natAbs).length)), natV (lim z.natAbs)] := by
    show SV.agg [.bool (decide (-z < 0)), natV (lim (-z).natAbs)] = _
    rw [lim_ne, Int.natAbs_neg]
    by_cases h1 : z < 0
    · rw [decide_eq_true h1, decide_eq_false (by omega)]; rfl
    · by_cases h2 : z = 0
      · rw [decide_eq_false h1, decide_eq_false (by omega), decide_eq_false (by omega)]; rfl
      · rw [decide_eq_false h1, decide_eq_true (by omega), decide_eq_true (by omega)]; rfl
  rw [e]
  by_cases h1 : z < 0
  · rw [decide_eq_true h1]
    refine Go.Ev.Fn.intro (fn := Tryz.f187) (body := (Tryz.f187).body.get!) (by kernel_rfl) (by kernel_rfl) (by kernel_rfl) (fun _ => rfl) (Nat.le_of_ble_eq_true (by kernel_rfl)) ?_; unfold Tryz.f187; simp only [Option.get!_some]
    repeat (first | (simp only [go_sem, Nat.reduceEqDiff, Nat.reduceAdd, Nat.reduceSub, Nat.reduceMul, Nat.reduceLeDiff, Nat.reduceLT, reduceIte, reduceCtorEq, Nat.succ_ne_zero, elemsC, Int.reduceToNat, Nat.reducePow, Bool.not_true, Bool.not_false, Bool.false_and, Bool.true_and]) | (simp (disch := (first | omega | (simp only [AL, List.length_map]; omega))) only [AR, AL, ifT, ifF, take_all, List.length_cons, List.length_nil, Int.reduceToNat, Int.reducePow, Nat.reducePow, Bool.not_true, Bool.not_false, Bool.false_and, Bool.true_and]) | (refine wk_intro (by kernel_rfl) ?_))
  · rw [decide_eq_false h1]
    refine Go.Ev.Fn.intro (fn := Tryz.f187) (body := (Tryz.f187).body.get!) (by kernel_rfl) (by kernel_rfl) (by kernel_rfl) (fun _ => rfl) (Nat.le_of_ble_eq_true (by kernel_rfl)) ?_; unfold Tryz.f187; simp only [Option.get!_some]
    repeat (first | (simp only [go_sem, Nat.reduceEqDiff, Nat.reduceAdd, Nat.reduceSub, Nat.reduceMul, Nat.reduceLeDiff, Nat.reduceLT, reduceIte, reduceCtorEq, Nat.succ_ne_zero, elemsC, Int.reduceToNat, Nat.reducePow, Bool.not_true, Bool.not_false, Bool.false_and, Bool.true_and]) | (simp (disch := (first | omega | (simp only [AL, List.length_map]; omega))) only [AR, AL, ifT, ifF, take_all, List.length_cons, List.length_nil, Int.reduceToNat, Int.reducePow, Nat.reducePow, Bool.not_true, Bool.not_false, Bool.false_and, Bool.true_and]) | (refine wk_intro (by kernel_rfl) ?_))
    rw [show decide (((lim z.natAbs).length : Int) > 0) = decide (0 < (lim z.natAbs).length) from decide_eq_decide.2 (by omega)]
end Go.Proofs.YtemnjalaincijaaGreat
