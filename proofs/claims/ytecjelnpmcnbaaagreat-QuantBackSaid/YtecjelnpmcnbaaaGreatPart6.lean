/- Part 6 of the proof: the evaluator, contracts of functions and their plain laws (joined by program). No condition. -/
import Derived.Test.YtecjelnpmcnbaaaGreatPart5
import Derived.KernelRfl
set_option linter.unusedVariables false
set_option linter.unusedSimpArgs false
set_option maxRecDepth 100000
namespace Go.Proofs.YtecjelnpmcnbaaaGreat
open Go.Ev
attribute [go_sem] List.head?_cons List.head?_nil
theorem nat_GcdL {N D : Nat} (hl : (lim N).length ≤ 536870912) (hm : (lim D).length ≤ 536870912) : Go.Ev.Fn CX 111 [natV (lim N), natV (lim D)] (natV (lim (N.gcd D))) := by
  have h := nat_Gcd (lim N) (lim D) (okL_lim _) (okL_lim _) hl hm
  rwa [wth_lim, wth_lim] at h
theorem nat_DivL {N D : Nat} (hD : D ≠ 0) (hl : (lim N).length ≤ 536870912) (hm : (lim D).length ≤ 536870912) : Go.Ev.Fn CX 112 [natV (lim N), natV (lim D)] (.tup [natV (lim (N / D)), natV (lim (N % D)), .bool true]) := by
  have h := nat_DivMod (lim N) (lim D) (okL_lim _) (okL_lim _) hl hm
  rwa [wth_lim, wth_lim, show remN N D = N % D from if_neg hD, decide_eq_true hD] at h
theorem nat_MulL {N D : Nat} (hl : (lim N).length ≤ 536870912) (hm : (lim D).length ≤ 536870912) : Go.Ev.Fn CX 105 [natV (lim N), natV (lim D)] (natV (lim (N * D))) := by
  have h := nat_Mul (lim N) (lim D) (okL_lim _) (okL_lim _) (by omega) (by omega)
  rwa [wth_lim, wth_lim] at h
theorem nat_AddL {N D : Nat} (hl : (lim N).length ≤ 536870912) (hm : (lim D).length ≤ 536870912) : Go.Ev.Fn CX 106 [natV (lim N), natV (lim D)] (natV (lim (N + D))) := by
  have h := nat_Add (lim N) (lim D) (okL_lim _) (okL_lim _) (by omega) (by omega)
  rwa [wth_lim, wth_lim] at h
theorem nat_SubL {N D : Nat} (hl : (lim N).length ≤ 536870912) (hm : (lim D).length ≤ 536870912) : Go.Ev.Fn CX 107 [natV (lim N), natV (lim D)] (.tup [natV (lim (N - D)), .bool (decide (D ≤ N))]) := by
  have h := nat_Sub (lim N) (lim D) (okL_lim _) (okL_lim _) (by omega) (by omega)
  rw [wth_lim, wth_lim] at h
  by_cases hlt : N < D
  · rw [if_pos hlt] at h
    rwa [show N - D = 0 by omega, lim_zero, decide_eq_false (by omega)]
  · rw [if_neg hlt] at h
    rwa [decide_eq_true (by omega : D ≤ N)]
theorem ref1_GcdL {N D : Nat} (hl : (lim N).length ≤ 16777216) (hm : (lim D).length ≤ 16777216) : Go.Ev.Fn CX 79 [natV (lim N), natV (lim D)] (natV (lim (N.gcd D))) := by
  have h := ref1_Gcd (lim N) (lim D) (okL_lim _) (okL_lim _) hl hm
  rwa [wth_lim, wth_lim] at h
theorem ref1_DivL {N D : Nat} (hD : D ≠ 0) (hl : (lim N).length ≤ 16777216) (hm : (lim D).length ≤ 16777216) : Go.Ev.Fn CX 80 [natV (lim N), natV (lim D)] (.tup [natV (lim (N / D)), natV (lim (N % D)), .bool true]) := by
  have h := ref1_DivMod (lim N) (lim D) (okL_lim _) (okL_lim _) hl hm
  rwa [wth_lim, wth_lim, show remN N D = N % D from if_neg hD, decide_eq_true hD] at h
theorem ref1_MulL {N D : Nat} (hl : (lim N).length ≤ 16777216) (hm : (lim D).length ≤ 16777216) : Go.Ev.Fn CX 72 [natV (lim N), natV (lim D)] (natV (lim (N * D))) := by
  have h := ref1_Mul (lim N) (lim D) (okL_lim _) (okL_lim _) (by omega) (by omega)
  rwa [wth_lim, wth_lim] at h
theorem ref1_AddL {N D : Nat} (hl : (lim N).length ≤ 16777216) (hm : (lim D).length ≤ 16777216) : Go.Ev.Fn CX 73 [natV (lim N), natV (lim D)] (natV (lim (N + D))) := by
  have h := ref1_Add (lim N) (lim D) (okL_lim _) (okL_lim _) (by omega) (by omega)
  rwa [wth_lim, wth_lim] at h
theorem ref1_SubL {N D : Nat} (hl : (lim N).length ≤ 16777216) (hm : (lim D).length ≤ 16777216) : Go.Ev.Fn CX 75 [natV (lim N), natV (lim D)] (.tup [natV (lim (N - D)), .bool (decide (D ≤ N))]) := by
  have h := ref1_Sub (lim N) (lim D) (okL_lim _) (okL_lim _) (by omega) (by omega)
  rwa [wth_lim, wth_lim] at h
theorem ref1_CmpL {N D : Nat} (hl : (lim N).length ≤ 16777216) (hm : (lim D).length ≤ 16777216) : Go.Ev.Fn CX 74 [natV (lim N), natV (lim D)] (.int .i64 (cmpN N D)) := by
  have h := ref1_Cmp (lim N) (lim D) (okL_lim _) (okL_lim _) (by omega) (by omega)
  rwa [wth_lim, wth_lim] at h
theorem nat_CmpL {N D : Nat} (hl : (lim N).length ≤ 536870912) (hm : (lim D).length ≤ 536870912) : Go.Ev.Fn CX 147 [natV (lim N), natV (lim D)] (.int .i64 (cmpN N D)) := by
  have h := nat_Cmp (lim N) (lim D) (okL_lim _) (okL_lim _) (by omega) (by omega)
  rwa [wth_lim, wth_lim] at h
theorem lim_pos {N : Nat} (h : N ≠ 0) : 0 < (lim N).length := List.length_pos_iff.2 (fun e => h (lim_eq_nil.1 e))
theorem rat_Of (s : Bool) (n d : List Nat) (hn : okL n) (hd : okL d) (hl : n.length ≤ 536870912) (hm : d.length ≤ 536870912) :
    Go.Ev.Fn CX 66 [.bool s, natV n, natV d] (rv (mkRat (sgn s (wth n)) (wth d))) := by
  refine Go.Ev.Fn.intro (fn := Tryz.f66) (body := (Tryz.f66).body.get!) (by kernel_rfl) (by kernel_rfl) (by kernel_rfl) (fun _ => rfl) (Nat.le_of_ble_eq_true (by kernel_rfl)) ?_; unfold Tryz.f66; simp only [Option.get!_some]
  have lx := lim_length_le hn
  have ly := lim_length_le hd
  repeat (first | (simp only [go_sem, Nat.reduceEqDiff, Nat.reduceAdd, Nat.reduceSub, Nat.reduceMul, Nat.reduceLeDiff, Nat.reduceLT, reduceIte, reduceCtorEq, Nat.succ_ne_zero, elemsC, Int.reduceToNat, Nat.reducePow]) | (simp (disch := (first | omega | (simp only [AL, List.length_map]; omega))) only [AR, AL, ifT, ifF, take_all, List.length_cons, List.length_nil, Int.reduceToNat, Int.reducePow, Nat.reducePow]) | (refine wk_intro (by kernel_rfl) ?_) | (refine vp_draw (l := []) (by kernel_rfl) ?_))
  refine vf_of (nat_Trim n hn (by omega)) ?_; repeat (first | (simp only [go_sem, Nat.reduceEqDiff, Nat.reduceAdd, Nat.reduceSub, Nat.reduceMul, Nat.reduceLeDiff, Nat.reduceLT, reduceIte, reduceCtorEq, Nat.succ_ne_zero, elemsC, Int.reduceToNat, Nat.reducePow]) | (simp (disch := (first | omega | (simp only [AL, List.length_map]; omega))) only [AR, AL, ifT, ifF, take_all, List.length_cons, List.length_nil, Int.reduceToNat, Int.reducePow, Nat.reducePow]) | (refine wk_intro (by kernel_rfl) ?_) | (refine vp_draw (l := []) (by kernel_rfl) ?_))
  refine vf_of (nat_Trim d hd (by omega)) ?_; repeat (first | (simp only [go_sem, Nat.reduceEqDiff, Nat.reduceAdd, Nat.reduceSub, Nat.reduceMul, Nat.reduceLeDiff, Nat.reduceLT, reduceIte, reduceCtorEq, Nat.succ_ne_zero, elemsC, Int.reduceToNat, Nat.reducePow]) | (simp (disch := (first | omega | (simp only [AL, List.length_map]; omega))) only [AR, AL, ifT, ifF, take_all, List.length_cons, List.length_nil, Int.reduceToNat, Int.reducePow, Nat.reducePow]) | (refine wk_intro (by kernel_rfl) ?_) | (refine vp_draw (l := []) (by kernel_rfl) ?_))
  generalize wth n = N at *
  generalize wth d = D at *
  have oN := okL_lim N
  have oD := okL_lim D
  by_cases h : N = 0 ∨ D = 0
  · rw [mk_zero s h, rv_zero]
    have o1 := nat_Of 1 (by omega)
    rw [lim_one] at o1
    by_cases hN : N = 0
    · have h0 : (lim N).length = 0 := by rw [hN, lim_zero]; rfl
      repeat (first | (simp only [go_sem, Nat.reduceEqDiff, Nat.reduceAdd, Nat.reduceSub, Nat.reduceMul, Nat.reduceLeDiff, Nat.reduceLT, reduceIte, reduceCtorEq, Nat.succ_ne_zero, elemsC, Int.reduceToNat, Nat.reducePow]) | (simp (disch := (first | omega | (simp only [AL, List.length_map]; omega))) only [AR, AL, ifT, ifF, take_all, List.length_cons, List.length_nil, Int.reduceToNat, Int.reducePow, Nat.reducePow]) | (refine wk_intro (by kernel_rfl) ?_) | (refine vp_draw (l := []) (by kernel_rfl) ?_) | (refine vf_of (by first | exact o1) ?_))
      rfl
    · have h0 : (lim D).length = 0 := by rw [h.resolve_left hN, lim_zero]; rfl
      have h1 := lim_pos hN
      repeat (first | (simp only [go_sem, Nat.reduceEqDiff, Nat.reduceAdd, Nat.reduceSub, Nat.reduceMul, Nat.reduceLeDiff, Nat.reduceLT, reduceIte, reduceCtorEq, Nat.succ_ne_zero, elemsC, Int.reduceToNat, Nat.reducePow]) | (simp (disch := (first | omega | (simp only [AL, List.length_map]; omega))) only [AR, AL, ifT, ifF, take_all, List.length_cons, List.length_nil, Int.reduceToNat, Int.reducePow, Nat.reducePow]) | (refine wk_intro (by kernel_rfl) ?_) | (refine vp_draw (l := []) (by kernel_rfl) ?_) | (refine vf_of (by first | exact o1) ?_))
      rfl
  · have hN : N ≠ 0 := fun e => h (.inl e)
    have hD : D ≠ 0 := fun e => h (.inr e)
    rw [mk_parts s hN hD]
    have h1 := lim_pos hN
    have h2 := lim_pos hD
    have hg : N.gcd D ≠ 0 := Nat.ne_of_gt (Nat.gcd_pos_of_pos_left _ (by omega))
    have h3 := lim_len_mono (Nat.gcd_le_left D (by omega : 0 < N))
    repeat (first | (simp only [go_sem, Nat.reduceEqDiff, Nat.reduceAdd, Nat.reduceSub, Nat.reduceMul, Nat.reduceLeDiff, Nat.reduceLT, reduceIte, reduceCtorEq, Nat.succ_ne_zero, elemsC, Int.reduceToNat, Nat.reducePow]) | (simp (disch := (first | omega | (simp only [AL, List.length_map]; omega))) only [AR, AL, ifT, ifF, take_all, List.length_cons, List.length_nil, Int.reduceToNat, Int.reducePow, Nat.reducePow]) | (refine wk_intro (by kernel_rfl) ?_) | (refine vp_draw (l := []) (by kernel_rfl) ?_))
    refine vf_of (nat_GcdL (by omega) (by omega)) ?_; repeat (first | (simp only [go_sem, Nat.reduceEqDiff, Nat.reduceAdd, Nat.reduceSub, Nat.reduceMul, Nat.reduceLeDiff, Nat.reduceLT, reduceIte, reduceCtorEq, Nat.succ_ne_zero, elemsC, Int.reduceToNat, Nat.reducePow]) | (simp (disch := (first | omega | (simp only [AL, List.length_map]; omega))) only [AR, AL, ifT, ifF, take_all, List.length_cons, List.length_nil, Int.reduceToNat, Int.reducePow, Nat.reducePow]) | (refine wk_intro (by kernel_rfl) ?_) | (refine vp_draw (l := []) (by kernel_rfl) ?_))
    refine vf_of (nat_DivL hg (by omega) (by omega)) ?_; repeat (first | (simp only [go_sem, Nat.reduceEqDiff, Nat.reduceAdd, Nat.reduceSub, Nat.reduceMul, Nat.reduceLeDiff, Nat.reduceLT, reduceIte, reduceCtorEq, Nat.succ_ne_zero, elemsC, Int.reduceToNat, Nat.reducePow]) | (simp (disch := (first | omega | (simp only [AL, List.length_map]; omega))) only [AR, AL, ifT, ifF, take_all, List.length_cons, List.length_nil, Int.reduceToNat, Int.reducePow, Nat.reducePow]) | (refine wk_intro (by kernel_rfl) ?_) | (refine vp_draw (l := []) (by kernel_rfl) ?_))
    refine vf_of (nat_DivL hg (by omega) (by omega)) ?_; repeat (first | (simp only [go_sem, Nat.reduceEqDiff, Nat.reduceAdd, Nat.reduceSub, Nat.reduceMul, Nat.reduceLeDiff, Nat.reduceLT, reduceIte, reduceCtorEq, Nat.succ_ne_zero, elemsC, Int.reduceToNat, Nat.reducePow]) | (simp (disch := (first | omega | (simp only [AL, List.length_map]; omega))) only [AR, AL, ifT, ifF, take_all, List.length_cons, List.length_nil, Int.reduceToNat, Int.reducePow, Nat.reducePow]) | (refine wk_intro (by kernel_rfl) ?_) | (refine vp_draw (l := []) (by kernel_rfl) ?_))
theorem rat_Norm {v : SV} {q : Rat} {L : Nat} (h : RatA v q L) (hL : L ≤ 536870912) : Go.Ev.Fn CX 61 [v] (rv q) := by
  obtain ⟨s, n, d, rfl, hn, hd, hl, hm, rfl⟩ := h
  refine Go.Ev.Fn.intro (fn := Tryz.f61) (body := (Tryz.f61).body.get!) (by kernel_rfl) (by kernel_rfl) (by kernel_rfl) (fun _ => rfl) (Nat.le_of_ble_eq_true (by kernel_rfl)) ?_; unfold Tryz.f61; simp only [Option.get!_some]
  repeat (first | (simp only [go_sem, Nat.reduceEqDiff, Nat.reduceAdd, Nat.reduceSub, Nat.reduceMul, Nat.reduceLeDiff, Nat.reduceLT, reduceIte, reduceCtorEq, Nat.succ_ne_zero, elemsC, Int.reduceToNat, Nat.reducePow]) | (simp (disch := (first | omega | (simp only [AL, List.length_map]; omega))) only [AR, AL, ifT, ifF, take_all, List.length_cons, List.length_nil, Int.reduceToNat, Int.reducePow, Nat.reducePow]) | (refine wk_intro (by kernel_rfl) ?_) | (refine vp_draw (l := []) (by kernel_rfl) ?_))
  refine vf_of (rat_Of s n d hn hd (by omega) (by omega)) ?_; repeat (first | (simp only [go_sem, Nat.reduceEqDiff, Nat.reduceAdd, Nat.reduceSub, Nat.reduceMul, Nat.reduceLeDiff, Nat.reduceLT, reduceIte, reduceCtorEq, Nat.succ_ne_zero, elemsC, Int.reduceToNat, Nat.reducePow]) | (simp (disch := (first | omega | (simp only [AL, List.length_map]; omega))) only [AR, AL, ifT, ifF, take_all, List.length_cons, List.length_nil, Int.reduceToNat, Int.reducePow, Nat.reducePow]) | (refine wk_intro (by kernel_rfl) ?_) | (refine vp_draw (l := []) (by kernel_rfl) ?_))
theorem int_u64 {n : Int} (h : -9223372036854775808 ≤ n ∧ n < 9223372036854775808) : IntKind.u64.wrap n = ((if n < 0 then 18446744073709551616 - n.natAbs else n.natAbs : Nat) : Int) := by
  rw [IntKind.wrap_u64]
  split <;> omega
theorem rat_Int (n : Int) (h : -9223372036854775808 ≤ n ∧ n < 9223372036854775808) : Go.Ev.Fn CX 23 [.int .i64 n] (rv (n : Rat)) := by
  refine Go.Ev.Fn.intro (fn := Tryz.f23) (body := (Tryz.f23).body.get!) (by kernel_rfl) (by kernel_rfl) (by kernel_rfl) (fun _ => rfl) (Nat.le_of_ble_eq_true (by kernel_rfl)) ?_; unfold Tryz.f23; simp only [Option.get!_some]
  have o1 := nat_Of 1 (by omega)
  have oN := nat_Of n.natAbs (by omega)
  have e1 := int_u64 h
  show WP CX _ _ (RQ _ _ (ratV (decide (n < 0)) (lim n.natAbs) (lim 1)))
  by_cases h0 : n < 0
  · rw [if_pos h0] at e1
    have e2 : IntKind.u64.wrap (0 - ((18446744073709551616 - n.natAbs : Nat) : Int)) = (n.natAbs : Int) := by rw [IntKind.wrap_u64]; omega
    repeat (first | (simp only [go_sem, Nat.reduceEqDiff, Nat.reduceAdd, Nat.reduceSub, Nat.reduceMul, Nat.reduceLeDiff, Nat.reduceLT, reduceIte, reduceCtorEq, Nat.succ_ne_zero, elemsC, Int.reduceToNat, Nat.reducePow, e1, e2]) | (simp (disch := (first | omega | (simp only [AL, List.length_map]; omega))) only [AR, AL, ifT, ifF, take_all, List.length_cons, List.length_nil, Int.reduceToNat, Int.reducePow, Nat.reducePow, e1, e2]) | (refine wk_intro (by kernel_rfl) ?_) | (refine vp_draw (l := []) (by kernel_rfl) ?_) | (refine vf_of (by first | exact oN | exact o1) ?_))
  · rw [if_neg h0] at e1
    repeat (first | (simp only [go_sem, Nat.reduceEqDiff, Nat.reduceAdd, Nat.reduceSub, Nat.reduceMul, Nat.reduceLeDiff, Nat.reduceLT, reduceIte, reduceCtorEq, Nat.succ_ne_zero, elemsC, Int.reduceToNat, Nat.reducePow, e1]) | (simp (disch := (first | omega | (simp only [AL, List.length_map]; omega))) only [AR, AL, ifT, ifF, take_all, List.length_cons, List.length_nil, Int.reduceToNat, Int.reducePow, Nat.reducePow, e1]) | (refine wk_intro (by kernel_rfl) ?_) | (refine vp_draw (l := []) (by kernel_rfl) ?_) | (refine vf_of (by first | exact oN | exact o1) ?_))
end Go.Proofs.YtecjelnpmcnbaaaGreat
namespace Go.Proofs.YtecjelnpmcnbaaaGreat
open Go.Ev
theorem rat_OfL {s : Bool} {n d : Nat} (hl : (lim n).length ≤ 536870912) (hm : (lim d).length ≤ 536870912) :
    Go.Ev.Fn CX 66 [.bool s, natV (lim n), natV (lim d)] (rv (mkRat (sgn s n) d)) := by
  have h := rat_Of s (lim n) (lim d) (okL_lim _) (okL_lim _) hl hm
  rwa [wth_lim, wth_lim] at h
theorem mul_parts (q r : Rat) : mkRat (sgn (!(decide (q.num < 0) == decide (r.num < 0))) (q.num.natAbs * r.num.natAbs)) (q.den * r.den) = q * r := by
  have h := sgn_mul q.num r.num
  rw [show (!(decide (q.num < 0) == decide (r.num < 0))) = (decide (q.num < 0) != decide (r.num < 0)) from rfl, h, ← Rat.mkRat_mul_mkRat, Rat.mkRat_self, Rat.mkRat_self]
theorem rat_Mul {v w : SV} {q r : Rat} {L M : Nat} (hv : RatA v q L) (hw : RatA w r M) (hL : 1 ≤ L) (hM : 1 ≤ M) (h : L + M ≤ 268435456) : Go.Ev.Fn CX 58 [v, w] (rv (q * r)) := by
  have hnv := rat_Norm hv (by omega)
  have hnw := rat_Norm hw (by omega)
  obtain ⟨z1, z2⟩ := szR_of hv hL
  obtain ⟨y1, y2⟩ := szR_of hw hM
  have g1 := lim_len_mul (a := q.num.natAbs) (b := r.num.natAbs)
  have g2 := lim_len_mul (a := q.den) (b := r.den)
  have hOf := rat_OfL (s := !(decide (q.num < 0) == decide (r.num < 0))) (n := q.num.natAbs * r.num.natAbs) (d := q.den * r.den) (by omega) (by omega)
  rw [mul_parts] at hOf
  obtain ⟨s, n, d, rfl, -⟩ := hv
  obtain ⟨s', n', d', rfl, -⟩ := hw
  refine Go.Ev.Fn.intro (fn := Tryz.f58) (body := (Tryz.f58).body.get!) (by kernel_rfl) (by kernel_rfl) (by kernel_rfl) (fun _ => rfl) (Nat.le_of_ble_eq_true (by kernel_rfl)) ?_; unfold Tryz.f58; simp only [Option.get!_some]
  repeat (first | (simp only [go_sem, Nat.reduceEqDiff, Nat.reduceAdd, Nat.reduceSub, Nat.reduceMul, Nat.reduceLeDiff, Nat.reduceLT, reduceIte, reduceCtorEq, Nat.succ_ne_zero, elemsC, Int.reduceToNat, Nat.reducePow]) | (simp (disch := (first | omega | (simp only [AL, List.length_map]; omega))) only [AR, AL, ifT, ifF, take_all, List.length_cons, List.length_nil, Int.reduceToNat, Int.reducePow, Nat.reducePow]) | (refine wk_intro (by kernel_rfl) ?_) | (refine vp_draw (id := 1) (l := []) (by kernel_rfl) ?_) | (refine vp_draw (id := 2) (l := [15, 17, 20, 22, 18, 23]) (by kernel_rfl) ?_) | (refine vf_of (by first | exact hnv | exact hnw) ?_))
  refine vf_of (nat_MulL (by omega) (by omega)) ?_; repeat (first | (simp only [go_sem, Nat.reduceEqDiff, Nat.reduceAdd, Nat.reduceSub, Nat.reduceMul, Nat.reduceLeDiff, Nat.reduceLT, reduceIte, reduceCtorEq, Nat.succ_ne_zero, elemsC, Int.reduceToNat, Nat.reducePow]) | (simp (disch := (first | omega | (simp only [AL, List.length_map]; omega))) only [AR, AL, ifT, ifF, take_all, List.length_cons, List.length_nil, Int.reduceToNat, Int.reducePow, Nat.reducePow]) | (refine wk_intro (by kernel_rfl) ?_) | (refine vp_draw (id := 1) (l := []) (by kernel_rfl) ?_) | (refine vp_draw (id := 2) (l := [15, 17, 20, 22, 18, 23]) (by kernel_rfl) ?_))
  refine vf_of (nat_MulL (by omega) (by omega)) ?_; repeat (first | (simp only [go_sem, Nat.reduceEqDiff, Nat.reduceAdd, Nat.reduceSub, Nat.reduceMul, Nat.reduceLeDiff, Nat.reduceLT, reduceIte, reduceCtorEq, Nat.succ_ne_zero, elemsC, Int.reduceToNat, Nat.reducePow]) | (simp (disch := (first | omega | (simp only [AL, List.length_map]; omega))) only [AR, AL, ifT, ifF, take_all, List.length_cons, List.length_nil, Int.reduceToNat, Int.reducePow, Nat.reducePow]) | (refine wk_intro (by kernel_rfl) ?_) | (refine vp_draw (id := 1) (l := []) (by kernel_rfl) ?_) | (refine vp_draw (id := 2) (l := [15, 17, 20, 22, 18, 23]) (by kernel_rfl) ?_))
  refine vf_of (hOf) ?_; repeat (first | (simp only [go_sem, Nat.reduceEqDiff, Nat.reduceAdd, Nat.reduceSub, Nat.reduceMul, Nat.reduceLeDiff, Nat.reduceLT, reduceIte, reduceCtorEq, Nat.succ_ne_zero, elemsC, Int.reduceToNat, Nat.reducePow]) | (simp (disch := (first | omega | (simp only [AL, List.length_map]; omega))) only [AR, AL, ifT, ifF, take_all, List.length_cons, List.length_nil, Int.reduceToNat, Int.reducePow, Nat.reducePow]) | (refine wk_intro (by kernel_rfl) ?_) | (refine vp_draw (id := 1) (l := []) (by kernel_rfl) ?_) | (refine vp_draw (id := 2) (l := [15, 17, 20, 22, 18, 23]) (by kernel_rfl) ?_))
theorem sgn_mul_nat (s : Bool) (a b : Nat) : sgn s a * (b : Int) = sgn s (a * b) := by
  unfold sgn
  split
  · rw [Int.neg_mul, Int.natCast_mul]
  · rw [Int.natCast_mul]
theorem add_parts (q r : Rat) : q + r = mkRat (sgn (decide (q.num < 0)) (q.num.natAbs * r.den) + sgn (decide (r.num < 0)) (r.num.natAbs * q.den)) (q.den * r.den) := by
  conv => lhs; rw [← Rat.mkRat_self q, ← Rat.mkRat_self r, Rat.mkRat_add_mkRat _ _ q.den_nz r.den_nz]
  congr 1
  rw [← sgn_mul_nat, ← sgn_mul_nat, sgn_self, sgn_self]
theorem add_same (q r : Rat) (h : decide (q.num < 0) = decide (r.num < 0)) : mkRat (sgn (decide (q.num < 0)) (q.num.natAbs * r.den + r.num.natAbs * q.den)) (q.den * r.den) = q + r := by
  rw [add_parts, ← h]
  congr 1
  unfold sgn
  split <;> omega
theorem add_ge (q r : Rat) (h : ¬ decide (q.num < 0) = decide (r.num < 0)) (h2 : r.num.natAbs * q.den ≤ q.num.natAbs * r.den) : mkRat (sgn (decide (q.num < 0)) (q.num.natAbs * r.den - r.num.natAbs * q.den)) (q.den * r.den) = q + r := by
  rw [add_parts]
  congr 1
  have e : decide (r.num < 0) = !decide (q.num < 0) := by
    revert h
    cases decide (q.num < 0) <;> cases decide (r.num < 0) <;> simp
  rw [e]
  generalize q.num.natAbs * r.den = X at *
  generalize r.num.natAbs * q.den = Y at *
  unfold sgn
  cases decide (q.num < 0)
  · simp; omega
  · simp; omega
theorem add_lt (q r : Rat) (h : ¬ decide (q.num < 0) = decide (r.num < 0)) (h2 : q.num.natAbs * r.den < r.num.natAbs * q.den) : mkRat (sgn (decide (r.num < 0)) (r.num.natAbs * q.den - q.num.natAbs * r.den)) (q.den * r.den) = q + r := by
  have h3 := add_ge r q (fun e => h e.symm) (Nat.le_of_lt h2)
  rw [Nat.mul_comm r.den, Rat.add_comm r q] at h3
  exact h3
theorem beq_bool (a b : Bool) : (a == b) = decide (a = b) := by cases a <;> cases b <;> rfl
theorem lim_len_add2 {a b L : Nat} (ha : (lim a).length ≤ L) (hb : (lim b).length ≤ L) : (lim (a + b)).length ≤ L + 1 := lim_len_add ha hb
theorem rat_Add {v w : SV} {q r : Rat} {L M : Nat} (hv : RatA v q L) (hw : RatA w r M) (hL : 1 ≤ L) (hM : 1 ≤ M) (h : L + M ≤ 268435456) : Go.Ev.Fn CX 59 [v, w] (rv (q + r)) := by
  have hnv := rat_Norm hv (by omega)
  have hnw := rat_Norm hw (by omega)
  obtain ⟨z1, z2⟩ := szR_of hv hL
  obtain ⟨y1, y2⟩ := szR_of hw hM
  have g1 := lim_len_mul (a := q.num.natAbs) (b := r.den)
  have g2 := lim_len_mul (a := r.num.natAbs) (b := q.den)
  have g3 := lim_len_mul (a := q.den) (b := r.den)
  have g4 := lim_len_add2 (a := q.num.natAbs * r.den) (b := r.num.natAbs * q.den) (L := L + M) (by omega) (by omega)
  have g5 := lim_len_mono (Nat.sub_le (q.num.natAbs * r.den) (r.num.natAbs * q.den))
  have g6 := lim_len_mono (Nat.sub_le (r.num.natAbs * q.den) (q.num.natAbs * r.den))
  obtain ⟨s, n, d, rfl, -⟩ := hv
  obtain ⟨s', n', d', rfl, -⟩ := hw
  have hbb := beq_bool (decide (q.num < 0)) (decide (r.num < 0))
  refine Go.Ev.Fn.intro (fn := Tryz.f59) (body := (Tryz.f59).body.get!) (by kernel_rfl) (by kernel_rfl) (by kernel_rfl) (fun _ => rfl) (Nat.le_of_ble_eq_true (by kernel_rfl)) ?_; unfold Tryz.f59; simp only [Option.get!_some]
  repeat (first | (simp only [go_sem, Nat.reduceEqDiff, Nat.reduceAdd, Nat.reduceSub, Nat.reduceMul, Nat.reduceLeDiff, Nat.reduceLT, reduceIte, reduceCtorEq, Nat.succ_ne_zero, elemsC, Int.reduceToNat, Nat.reducePow]) | (simp (disch := (first | omega | (simp only [AL, List.length_map]; omega))) only [AR, AL, ifT, ifF, take_all, List.length_cons, List.length_nil, Int.reduceToNat, Int.reducePow, Nat.reducePow]) | (refine wk_intro (by kernel_rfl) ?_) | (refine vp_draw (id := 1) (l := []) (by kernel_rfl) ?_) | (refine vp_draw (id := 2) (l := [17, 19, 22, 24, 27, 29]) (by kernel_rfl) ?_) | (refine vp_draw (id := 4) (l := [5, 6, 40, 7]) (by kernel_rfl) ?_) | (refine vf_of (by first | exact hnv | exact hnw) ?_))
  refine vf_of (nat_MulL (by omega) (by omega)) ?_; repeat (first | (simp only [go_sem, Nat.reduceEqDiff, Nat.reduceAdd, Nat.reduceSub, Nat.reduceMul, Nat.reduceLeDiff, Nat.reduceLT, reduceIte, reduceCtorEq, Nat.succ_ne_zero, elemsC, Int.reduceToNat, Nat.reducePow]) | (simp (disch := (first | omega | (simp only [AL, List.length_map]; omega))) only [AR, AL, ifT, ifF, take_all, List.length_cons, List.length_nil, Int.reduceToNat, Int.reducePow, Nat.reducePow]) | (refine wk_intro (by kernel_rfl) ?_) | (refine vp_draw (id := 1) (l := []) (by kernel_rfl) ?_) | (refine vp_draw (id := 2) (l := [17, 19, 22, 24, 27, 29]) (by kernel_rfl) ?_) | (refine vp_draw (id := 4) (l := [5, 6, 40, 7]) (by kernel_rfl) ?_))
  refine vf_of (nat_MulL (by omega) (by omega)) ?_; repeat (first | (simp only [go_sem, Nat.reduceEqDiff, Nat.reduceAdd, Nat.reduceSub, Nat.reduceMul, Nat.reduceLeDiff, Nat.reduceLT, reduceIte, reduceCtorEq, Nat.succ_ne_zero, elemsC, Int.reduceToNat, Nat.reducePow]) | (simp (disch := (first | omega | (simp only [AL, List.length_map]; omega))) only [AR, AL, ifT, ifF, take_all, List.length_cons, List.length_nil, Int.reduceToNat, Int.reducePow, Nat.reducePow]) | (refine wk_intro (by kernel_rfl) ?_) | (refine vp_draw (id := 1) (l := []) (by kernel_rfl) ?_) | (refine vp_draw (id := 2) (l := [17, 19, 22, 24, 27, 29]) (by kernel_rfl) ?_) | (refine vp_draw (id := 4) (l := [5, 6, 40, 7]) (by kernel_rfl) ?_))
  refine vf_of (nat_MulL (by omega) (by omega)) ?_; repeat (first | (simp only [go_sem, Nat.reduceEqDiff, Nat.reduceAdd, Nat.reduceSub, Nat.reduceMul, Nat.reduceLeDiff, Nat.reduceLT, reduceIte, reduceCtorEq, Nat.succ_ne_zero, elemsC, Int.reduceToNat, Nat.reducePow, hbb]) | (simp (disch := (first | omega | (simp only [AL, List.length_map]; omega))) only [AR, AL, ifT, ifF, take_all, List.length_cons, List.length_nil, Int.reduceToNat, Int.reducePow, Nat.reducePow, hbb]) | (refine wk_intro (by kernel_rfl) ?_) | (refine vp_draw (id := 1) (l := []) (by kernel_rfl) ?_) | (refine vp_draw (id := 2) (l := [17, 19, 22, 24, 27, 29]) (by kernel_rfl) ?_) | (refine vp_draw (id := 4) (l := [5, 6, 40, 7]) (by kernel_rfl) ?_))
  by_cases hs : decide (q.num < 0) = decide (r.num < 0)
  · have hOf := rat_OfL (s := decide (q.num < 0)) (n := q.num.natAbs * r.den + r.num.natAbs * q.den) (d := q.den * r.den) (by omega) (by omega)
    rw [add_same q r hs] at hOf
    rw [decide_eq_true hs]
    repeat (first | (simp only [go_sem, Nat.reduceEqDiff, Nat.reduceAdd, Nat.reduceSub, Nat.reduceMul, Nat.reduceLeDiff, Nat.reduceLT, reduceIte, reduceCtorEq, Nat.succ_ne_zero, elemsC, Int.reduceToNat, Nat.reducePow]) | (simp (disch := (first | omega | (simp only [AL, List.length_map]; omega))) only [AR, AL, ifT, ifF, take_all, List.length_cons, List.length_nil, Int.reduceToNat, Int.reducePow, Nat.reducePow]) | (refine wk_intro (by kernel_rfl) ?_) | (refine vp_draw (id := 1) (l := []) (by kernel_rfl) ?_) | (refine vp_draw (id := 2) (l := [17, 19, 22, 24, 27, 29]) (by kernel_rfl) ?_) | (refine vp_draw (id := 4) (l := [5, 6, 40, 7]) (by kernel_rfl) ?_))
    refine vf_of (nat_AddL (by omega) (by omega)) ?_; repeat (first | (simp only [go_sem, Nat.reduceEqDiff, Nat.reduceAdd, Nat.reduceSub, Nat.reduceMul, Nat.reduceLeDiff, Nat.reduceLT, reduceIte, reduceCtorEq, Nat.succ_ne_zero, elemsC, Int.reduceToNat, Nat.reducePow]) | (simp (disch := (first | omega | (simp only [AL, List.length_map]; omega))) only [AR, AL, ifT, ifF, take_all, List.length_cons, List.length_nil, Int.reduceToNat, Int.reducePow, Nat.reducePow]) | (refine wk_intro (by kernel_rfl) ?_) | (refine vp_draw (id := 1) (l := []) (by kernel_rfl) ?_) | (refine vp_draw (id := 2) (l := [17, 19, 22, 24, 27, 29]) (by kernel_rfl) ?_) | (refine vp_draw (id := 4) (l := [5, 6, 40, 7]) (by kernel_rfl) ?_))
    refine vf_of (hOf) ?_; repeat (first | (simp only [go_sem, Nat.reduceEqDiff, Nat.reduceAdd, Nat.reduceSub, Nat.reduceMul, Nat.reduceLeDiff, Nat.reduceLT, reduceIte, reduceCtorEq, Nat.succ_ne_zero, elemsC, Int.reduceToNat, Nat.reducePow]) | (simp (disch := (first | omega | (simp only [AL, List.length_map]; omega))) only [AR, AL, ifT, ifF, take_all, List.length_cons, List.length_nil, Int.reduceToNat, Int.reducePow, Nat.reducePow]) | (refine wk_intro (by kernel_rfl) ?_) | (refine vp_draw (id := 1) (l := []) (by kernel_rfl) ?_) | (refine vp_draw (id := 2) (l := [17, 19, 22, 24, 27, 29]) (by kernel_rfl) ?_) | (refine vp_draw (id := 4) (l := [5, 6, 40, 7]) (by kernel_rfl) ?_))
  · rw [decide_eq_false hs]
    repeat (first | (simp only [go_sem, Nat.reduceEqDiff, Nat.reduceAdd, Nat.reduceSub, Nat.reduceMul, Nat.reduceLeDiff, Nat.reduceLT, reduceIte, reduceCtorEq, Nat.succ_ne_zero, elemsC, Int.reduceToNat, Nat.reducePow]) | (simp (disch := (first | omega | (simp only [AL, List.length_map]; omega))) only [AR, AL, ifT, ifF, take_all, List.length_cons, List.length_nil, Int.reduceToNat, Int.reducePow, Nat.reducePow]) | (refine wk_intro (by kernel_rfl) ?_) | (refine vp_draw (id := 1) (l := []) (by kernel_rfl) ?_) | (refine vp_draw (id := 2) (l := [17, 19, 22, 24, 27, 29]) (by kernel_rfl) ?_) | (refine vp_draw (id := 4) (l := [5, 6, 40, 7]) (by kernel_rfl) ?_))
    refine vf_of (nat_SubL (by omega) (by omega)) ?_; repeat (first | (simp only [go_sem, Nat.reduceEqDiff, Nat.reduceAdd, Nat.reduceSub, Nat.reduceMul, Nat.reduceLeDiff, Nat.reduceLT, reduceIte, reduceCtorEq, Nat.succ_ne_zero, elemsC, Int.reduceToNat, Nat.reducePow]) | (simp (disch := (first | omega | (simp only [AL, List.length_map]; omega))) only [AR, AL, ifT, ifF, take_all, List.length_cons, List.length_nil, Int.reduceToNat, Int.reducePow, Nat.reducePow]) | (refine wk_intro (by kernel_rfl) ?_) | (refine vp_draw (id := 1) (l := []) (by kernel_rfl) ?_) | (refine vp_draw (id := 2) (l := [17, 19, 22, 24, 27, 29]) (by kernel_rfl) ?_) | (refine vp_draw (id := 4) (l := [5, 6, 40, 7]) (by kernel_rfl) ?_))
    by_cases h2 : r.num.natAbs * q.den ≤ q.num.natAbs * r.den
    · have hOf := rat_OfL (s := decide (q.num < 0)) (n := q.num.natAbs * r.den - r.num.natAbs * q.den) (d := q.den * r.den) (by omega) (by omega)
      rw [add_ge q r hs h2] at hOf
      rw [decide_eq_true h2]
      repeat (first | (simp only [go_sem, Nat.reduceEqDiff, Nat.reduceAdd, Nat.reduceSub, Nat.reduceMul, Nat.reduceLeDiff, Nat.reduceLT, reduceIte, reduceCtorEq, Nat.succ_ne_zero, elemsC, Int.reduceToNat, Nat.reducePow]) | (simp (disch := (first | omega | (simp only [AL, List.length_map]; omega))) only [AR, AL, ifT, ifF, take_all, List.length_cons, List.length_nil, Int.reduceToNat, Int.reducePow, Nat.reducePow]) | (refine wk_intro (by kernel_rfl) ?_) | (refine vp_draw (id := 1) (l := []) (by kernel_rfl) ?_) | (refine vp_draw (id := 2) (l := [17, 19, 22, 24, 27, 29]) (by kernel_rfl) ?_) | (refine vp_draw (id := 4) (l := [5, 6, 40, 7]) (by kernel_rfl) ?_) | (refine vf_of (by first | exact hOf) ?_))
    · have hOf := rat_OfL (s := decide (r.num < 0)) (n := r.num.natAbs * q.den - q.num.natAbs * r.den) (d := q.den * r.den) (by omega) (by omega)
      rw [add_lt q r hs (by omega)] at hOf
      rw [decide_eq_false h2]
      repeat (first | (simp only [go_sem, Nat.reduceEqDiff, Nat.reduceAdd, Nat.reduceSub, Nat.reduceMul, Nat.reduceLeDiff, Nat.reduceLT, reduceIte, reduceCtorEq, Nat.succ_ne_zero, elemsC, Int.reduceToNat, Nat.reducePow]) | (simp (disch := (first | omega | (simp only [AL, List.length_map]; omega))) only [AR, AL, ifT, ifF, take_all, List.length_cons, List.length_nil, Int.reduceToNat, Int.reducePow, Nat.reducePow]) | (refine wk_intro (by kernel_rfl) ?_) | (refine vp_draw (id := 1) (l := []) (by kernel_rfl) ?_) | (refine vp_draw (id := 2) (l := [17, 19, 22, 24, 27, 29]) (by kernel_rfl) ?_) | (refine vp_draw (id := 4) (l := [5, 6, 40, 7]) (by kernel_rfl) ?_))
      refine vf_of (nat_SubL (by omega) (by omega)) ?_; repeat (first | (simp only [go_sem, Nat.reduceEqDiff, Nat.reduceAdd, Nat.reduceSub, Nat.reduceMul, Nat.reduceLeDiff, Nat.reduceLT, reduceIte, reduceCtorEq, Nat.succ_ne_zero, elemsC, Int.reduceToNat, Nat.reducePow]) | (simp (disch := (first | omega | (simp only [AL, List.length_map]; omega))) only [AR, AL, ifT, ifF, take_all, List.length_cons, List.length_nil, Int.reduceToNat, Int.reducePow, Nat.reducePow]) | (refine wk_intro (by kernel_rfl) ?_) | (refine vp_draw (id := 1) (l := []) (by kernel_rfl) ?_) | (refine vp_draw (id := 2) (l := [17, 19, 22, 24, 27, 29]) (by kernel_rfl) ?_) | (refine vp_draw (id := 4) (l := [5, 6, 40, 7]) (by kernel_rfl) ?_))
      refine vf_of (hOf) ?_; repeat (first | (simp only [go_sem, Nat.reduceEqDiff, Nat.reduceAdd, Nat.reduceSub, Nat.reduceMul, Nat.reduceLeDiff, Nat.reduceLT, reduceIte, reduceCtorEq, Nat.succ_ne_zero, elemsC, Int.reduceToNat, Nat.reducePow]) | (simp (disch := (first | omega | (simp only [AL, List.length_map]; omega))) only [AR, AL, ifT, ifF, take_all, List.length_cons, List.length_nil, Int.reduceToNat, Int.reducePow, Nat.reducePow]) | (refine wk_intro (by kernel_rfl) ?_) | (refine vp_draw (id := 1) (l := []) (by kernel_rfl) ?_) | (refine vp_draw (id := 2) (l := [17, 19, 22, 24, 27, 29]) (by kernel_rfl) ?_) | (refine vp_draw (id := 4) (l := [5, 6, 40, 7]) (by kernel_rfl) ?_))
theorem neg_parts (q : Rat) : rv (-q) = ratV (!decide (q.num < 0) && decide (0 < (lim q.num.natAbs).length)) (lim q.num.natAbs) (lim q.den) := by
  show ratV (decide ((-q).num < 0)) (lim (-q).num.natAbs) (lim (-q).den) = _
  rw [Rat.neg_num, Rat.neg_den, Int.natAbs_neg]
  congr 3
  by_cases h : q.num = 0
  · rw [h]; rfl
  · have h1 := lim_pos (N := q.num.natAbs) (by omega)
    rw [decide_eq_true h1, Bool.and_true]
    by_cases h2 : q.num < 0
    · rw [decide_eq_true h2, decide_eq_false (by omega)]; rfl
    · rw [decide_eq_false h2, decide_eq_true (by omega)]; rfl
theorem rat_signed (s t : Bool) (n d : List Nat) (hn : n.length ≤ 1099511627776) : Go.Ev.Fn CX 145 [.bool s, ratV t n d] (ratV (s && decide (0 < n.length)) n d) := by
  refine Go.Ev.Fn.intro (fn := Tryz.f145) (body := (Tryz.f145).body.get!) (by kernel_rfl) (by kernel_rfl) (by kernel_rfl) (fun _ => rfl) (Nat.le_of_ble_eq_true (by kernel_rfl)) ?_; unfold Tryz.f145; simp only [Option.get!_some]
  cases s
  · repeat (first | (simp only [go_sem, Nat.reduceEqDiff, Nat.reduceAdd, Nat.reduceSub, Nat.reduceMul, Nat.reduceLeDiff, Nat.reduceLT, reduceIte, reduceCtorEq, Nat.succ_ne_zero, elemsC, Int.reduceToNat, Nat.reducePow]) | (simp (disch := (first | omega | (simp only [AL, List.length_map]; omega))) only [AR, AL, ifT, ifF, take_all, List.length_cons, List.length_nil, Int.reduceToNat, Int.reducePow, Nat.reducePow]) | (refine wk_intro (by kernel_rfl) ?_))
    rfl
  · by_cases h : 0 < n.length
    · rw [decide_eq_true h]
      repeat (first | (simp only [go_sem, Nat.reduceEqDiff, Nat.reduceAdd, Nat.reduceSub, Nat.reduceMul, Nat.reduceLeDiff, Nat.reduceLT, reduceIte, reduceCtorEq, Nat.succ_ne_zero, elemsC, Int.reduceToNat, Nat.reducePow]) | (simp (disch := (first | omega | (simp only [AL, List.length_map]; omega))) only [AR, AL, ifT, ifF, take_all, List.length_cons, List.length_nil, Int.reduceToNat, Int.reducePow, Nat.reducePow]) | (refine wk_intro (by kernel_rfl) ?_))
    · rw [decide_eq_false h]
      repeat (first | (simp only [go_sem, Nat.reduceEqDiff, Nat.reduceAdd, Nat.reduceSub, Nat.reduceMul, Nat.reduceLeDiff, Nat.reduceLT, reduceIte, reduceCtorEq, Nat.succ_ne_zero, elemsC, Int.reduceToNat, Nat.reducePow]) | (simp (disch := (first | omega | (simp only [AL, List.length_map]; omega))) only [AR, AL, ifT, ifF, take_all, List.length_cons, List.length_nil, Int.reduceToNat, Int.reducePow, Nat.reducePow]) | (refine wk_intro (by kernel_rfl) ?_))
theorem rat_Neg {v : SV} {q : Rat} {L : Nat} (hv : RatA v q L) (hL : 1 ≤ L) (h : L ≤ 268435456) : Go.Ev.Fn CX 103 [v] (rv (-q)) := by
  have hnv := rat_Norm hv (by omega)
  obtain ⟨z1, z2⟩ := szR_of hv hL
  have hs := rat_signed (!decide (q.num < 0)) (decide (q.num < 0)) (lim q.num.natAbs) (lim q.den) (by omega)
  rw [← neg_parts] at hs
  obtain ⟨s, n, d, rfl, -⟩ := hv
  refine Go.Ev.Fn.intro (fn := Tryz.f103) (body := (Tryz.f103).body.get!) (by kernel_rfl) (by kernel_rfl) (by kernel_rfl) (fun _ => rfl) (Nat.le_of_ble_eq_true (by kernel_rfl)) ?_; unfold Tryz.f103; simp only [Option.get!_some]
  repeat (first | (simp only [go_sem, Nat.reduceEqDiff, Nat.reduceAdd, Nat.reduceSub, Nat.reduceMul, Nat.reduceLeDiff, Nat.reduceLT, reduceIte, reduceCtorEq, Nat.succ_ne_zero, elemsC, Int.reduceToNat, Nat.reducePow]) | (simp (disch := (first | omega | (simp only [AL, List.length_map]; omega))) only [AR, AL, ifT, ifF, take_all, List.length_cons, List.length_nil, Int.reduceToNat, Int.reducePow, Nat.reducePow]) | (refine wk_intro (by kernel_rfl) ?_) | (refine vf_of (by first | exact hnv | exact hs) ?_))
theorem szR_neg {q : Rat} {L : Nat} (h : szR q L) : szR (-q) L := by
  unfold szR
  rw [Rat.neg_num, Rat.neg_den, Int.natAbs_neg]
  exact h
theorem rat_Sub {v w : SV} {q r : Rat} {L M : Nat} (hv : RatA v q L) (hw : RatA w r M) (hL : 1 ≤ L) (hM : 1 ≤ M) (h : L + M ≤ 268435456) : Go.Ev.Fn CX 56 [v, w] (rv (q - r)) := by
  have hN := rat_Neg hw hM (by omega)
  have hA := rat_Add hv (RatA_rv (szR_neg (szR_of hw hM))) hL hM h
  rw [← Rat.sub_eq_add_neg] at hA
  obtain ⟨s, n, d, rfl, -⟩ := hv
  obtain ⟨s', n', d', rfl, -⟩ := hw
  refine Go.Ev.Fn.intro (fn := Tryz.f56) (body := (Tryz.f56).body.get!) (by kernel_rfl) (by kernel_rfl) (by kernel_rfl) (fun _ => rfl) (Nat.le_of_ble_eq_true (by kernel_rfl)) ?_; unfold Tryz.f56; simp only [Option.get!_some]
  repeat (first | (simp only [go_sem, Nat.reduceEqDiff, Nat.reduceAdd, Nat.reduceSub, Nat.reduceMul, Nat.reduceLeDiff, Nat.reduceLT, reduceIte, reduceCtorEq, Nat.succ_ne_zero, elemsC, Int.reduceToNat, Nat.reducePow]) | (simp (disch := (first | omega | (simp only [AL, List.length_map]; omega))) only [AR, AL, ifT, ifF, take_all, List.length_cons, List.length_nil, Int.reduceToNat, Int.reducePow, Nat.reducePow]) | (refine wk_intro (by kernel_rfl) ?_) | (refine vp_draw (id := 1) (l := []) (by kernel_rfl) ?_) | (refine vf_of (by first | exact hN | exact hA) ?_))
theorem num_zero {q : Rat} : q.num = 0 ↔ q = 0 := Rat.num_eq_zero
theorem div_parts {q r : Rat} (hr : r ≠ 0) : q / r = q * mkRat (sgn (decide (r.num < 0)) r.den) r.num.natAbs := by
  rw [Rat.div_def]
  congr 1
  rw [Rat.inv_def]
  have h0 : r.num ≠ 0 := fun e => hr (num_zero.1 e)
  by_cases h : r.num < 0
  · rw [decide_eq_true h]
    obtain ⟨k, hk⟩ : ∃ k : Nat, r.num = Int.negSucc k := ⟨r.num.natAbs - 1, by omega⟩
    rw [hk, show (Int.negSucc k).natAbs = k + 1 from rfl]
    show Rat.normalize (-(r.den : Int)) (k + 1) (Nat.succ_ne_zero k) = mkRat (-(r.den : Int)) (k + 1)
    rw [Rat.normalize_eq_mkRat]
  · rw [decide_eq_false h]
    obtain ⟨m, hm⟩ : ∃ m : Nat, r.num = (m : Int) := ⟨r.num.natAbs, by omega⟩
    rw [hm, Int.natAbs_natCast, Rat.divInt_ofNat]
    rfl
theorem rat_Div {v w : SV} {q r : Rat} {L M : Nat} (hv : RatA v q L) (hw : RatA w r M) (hL : 1 ≤ L) (hM : 1 ≤ M) (h : L + M ≤ 268435456) : Go.Ev.Fn CX 108 [v, w] (.tup [rv (q / r), .bool (decide (r ≠ 0))]) := by
  have hnw := rat_Norm hw (by omega)
  obtain ⟨y1, y2⟩ := szR_of hw hM
  have h0 := rat_Int 0 (by omega)
  have hMul : r ≠ 0 → _ := fun hr => rat_Mul (w := ratV (decide (r.num < 0)) (lim r.den) (lim r.num.natAbs)) hv ⟨_, _, _, rfl, okL_lim _, okL_lim _, y2, y1, by rw [wth_lim, wth_lim]⟩ hL hM h
  obtain ⟨s, n, d, rfl, -⟩ := hv
  obtain ⟨s', n', d', rfl, -⟩ := hw
  refine Go.Ev.Fn.intro (fn := Tryz.f108) (body := (Tryz.f108).body.get!) (by kernel_rfl) (by kernel_rfl) (by kernel_rfl) (fun _ => rfl) (Nat.le_of_ble_eq_true (by kernel_rfl)) ?_; unfold Tryz.f108; simp only [Option.get!_some]
  by_cases hr : r = 0
  · have hl : (lim r.num.natAbs).length = 0 := by rw [num_zero.2 hr]; simp [lim_zero]
    rw [decide_eq_false (fun e => e hr), hr, Rat.div_def, Rat.inv_zero, Rat.mul_zero]
    subst hr
    repeat (first | (simp only [go_sem, Nat.reduceEqDiff, Nat.reduceAdd, Nat.reduceSub, Nat.reduceMul, Nat.reduceLeDiff, Nat.reduceLT, reduceIte, reduceCtorEq, Nat.succ_ne_zero, elemsC, Int.reduceToNat, Nat.reducePow]) | (simp (disch := (first | omega | (simp only [AL, List.length_map]; omega))) only [AR, AL, ifT, ifF, take_all, List.length_cons, List.length_nil, Int.reduceToNat, Int.reducePow, Nat.reducePow]) | (refine wk_intro (by kernel_rfl) ?_) | (refine vf_of (by first | exact hnw | exact h0) ?_))
    rfl
  · have hl := lim_pos (N := r.num.natAbs) (fun e => hr (num_zero.1 (by omega)))
    have hMul := hMul hr
    rw [← div_parts hr] at hMul
    rw [decide_eq_true hr]
    repeat (first | (simp only [go_sem, Nat.reduceEqDiff, Nat.reduceAdd, Nat.reduceSub, Nat.reduceMul, Nat.reduceLeDiff, Nat.reduceLT, reduceIte, reduceCtorEq, Nat.succ_ne_zero, elemsC, Int.reduceToNat, Nat.reducePow]) | (simp (disch := (first | omega | (simp only [AL, List.length_map]; omega))) only [AR, AL, ifT, ifF, take_all, List.length_cons, List.length_nil, Int.reduceToNat, Int.reducePow, Nat.reducePow]) | (refine wk_intro (by kernel_rfl) ?_) | (refine vf_of (by first | exact hnw | exact hMul) ?_))
end Go.Proofs.YtecjelnpmcnbaaaGreat
namespace Go.Proofs.YtecjelnpmcnbaaaGreat
open Go.Ev
theorem ref2_Norm {v : SV} {q : Rat} {L : Nat} (h : RatA v q L) (hL : L ≤ 16777216) : Go.Ev.Fn CX 41 [v] (rv q) := by
  obtain ⟨s, n, d, rfl, hn, hd, hl, hm, rfl⟩ := h
  have lx := lim_length_le hn
  have ly := lim_length_le hd
  have tn := ref1_Trim n hn (by omega)
  have td := ref1_Trim d hd (by omega)
  refine Go.Ev.Fn.intro (fn := Tryz.f41) (body := (Tryz.f41).body.get!) (by kernel_rfl) (by kernel_rfl) (by kernel_rfl) (fun _ => rfl) (Nat.le_of_ble_eq_true (by kernel_rfl)) ?_; unfold Tryz.f41; simp only [Option.get!_some]
  generalize wth n = N at *
  generalize wth d = D at *
  repeat (first | (simp only [go_sem, Nat.reduceEqDiff, Nat.reduceAdd, Nat.reduceSub, Nat.reduceMul, Nat.reduceLeDiff, Nat.reduceLT, reduceIte, reduceCtorEq, Nat.succ_ne_zero, elemsC, Int.reduceToNat, Nat.reducePow]) | (simp (disch := (first | omega | (simp only [AL, List.length_map]; omega))) only [AR, AL, ifT, ifF, take_all, List.length_cons, List.length_nil, Int.reduceToNat, Int.reducePow, Nat.reducePow]) | (refine wk_intro (by kernel_rfl) ?_) | (refine vp_draw (id := 1) (l := [7, 10]) (by kernel_rfl) ?_) | (refine vf_of (by first | exact tn | exact td) ?_))
  by_cases h : N = 0 ∨ D = 0
  · rw [mk_zero s h, rv_zero]
    by_cases hD : D = 0
    · have h0 : (lim D).length = 0 := by rw [hD, lim_zero]; rfl
      repeat (first | (simp only [go_sem, Nat.reduceEqDiff, Nat.reduceAdd, Nat.reduceSub, Nat.reduceMul, Nat.reduceLeDiff, Nat.reduceLT, reduceIte, reduceCtorEq, Nat.succ_ne_zero, elemsC, Int.reduceToNat, Nat.reducePow]) | (simp (disch := (first | omega | (simp only [AL, List.length_map]; omega))) only [AR, AL, ifT, ifF, take_all, List.length_cons, List.length_nil, Int.reduceToNat, Int.reducePow, Nat.reducePow]) | (refine wk_intro (by kernel_rfl) ?_) | (refine vp_draw (id := 1) (l := [7, 10]) (by kernel_rfl) ?_))
      rfl
    · have h0 : (lim N).length = 0 := by rw [h.resolve_right hD, lim_zero]; rfl
      have h1 := lim_pos hD
      repeat (first | (simp only [go_sem, Nat.reduceEqDiff, Nat.reduceAdd, Nat.reduceSub, Nat.reduceMul, Nat.reduceLeDiff, Nat.reduceLT, reduceIte, reduceCtorEq, Nat.succ_ne_zero, elemsC, Int.reduceToNat, Nat.reducePow]) | (simp (disch := (first | omega | (simp only [AL, List.length_map]; omega))) only [AR, AL, ifT, ifF, take_all, List.length_cons, List.length_nil, Int.reduceToNat, Int.reducePow, Nat.reducePow]) | (refine wk_intro (by kernel_rfl) ?_) | (refine vp_draw (id := 1) (l := [7, 10]) (by kernel_rfl) ?_))
      rfl
  · have hN : N ≠ 0 := fun e => h (.inl e)
    have hD : D ≠ 0 := fun e => h (.inr e)
    rw [mk_parts s hN hD]
    have h1 := lim_pos hN
    have h2 := lim_pos hD
    have hg : N.gcd D ≠ 0 := Nat.ne_of_gt (Nat.gcd_pos_of_pos_left _ (by omega))
    have h3 := lim_len_mono (Nat.gcd_le_left D (by omega : 0 < N))
    repeat (first | (simp only [go_sem, Nat.reduceEqDiff, Nat.reduceAdd, Nat.reduceSub, Nat.reduceMul, Nat.reduceLeDiff, Nat.reduceLT, reduceIte, reduceCtorEq, Nat.succ_ne_zero, elemsC, Int.reduceToNat, Nat.reducePow]) | (simp (disch := (first | omega | (simp only [AL, List.length_map]; omega))) only [AR, AL, ifT, ifF, take_all, List.length_cons, List.length_nil, Int.reduceToNat, Int.reducePow, Nat.reducePow]) | (refine wk_intro (by kernel_rfl) ?_) | (refine vp_draw (id := 1) (l := [7, 10]) (by kernel_rfl) ?_))
    refine vf_of (ref1_GcdL (by omega) (by omega)) ?_; repeat (first | (simp only [go_sem, Nat.reduceEqDiff, Nat.reduceAdd, Nat.reduceSub, Nat.reduceMul, Nat.reduceLeDiff, Nat.reduceLT, reduceIte, reduceCtorEq, Nat.succ_ne_zero, elemsC, Int.reduceToNat, Nat.reducePow]) | (simp (disch := (first | omega | (simp only [AL, List.length_map]; omega))) only [AR, AL, ifT, ifF, take_all, List.length_cons, List.length_nil, Int.reduceToNat, Int.reducePow, Nat.reducePow]) | (refine wk_intro (by kernel_rfl) ?_) | (refine vp_draw (id := 1) (l := [7, 10]) (by kernel_rfl) ?_))
    refine vf_of (ref1_DivL hg (by omega) (by omega)) ?_; repeat (first | (simp only [go_sem, Nat.reduceEqDiff, Nat.reduceAdd, Nat.reduceSub, Nat.reduceMul, Nat.reduceLeDiff, Nat.reduceLT, reduceIte, reduceCtorEq, Nat.succ_ne_zero, elemsC, Int.reduceToNat, Nat.reducePow]) | (simp (disch := (first | omega | (simp only [AL, List.length_map]; omega))) only [AR, AL, ifT, ifF, take_all, List.length_cons, List.length_nil, Int.reduceToNat, Int.reducePow, Nat.reducePow]) | (refine wk_intro (by kernel_rfl) ?_) | (refine vp_draw (id := 1) (l := [7, 10]) (by kernel_rfl) ?_))
    refine vf_of (ref1_DivL hg (by omega) (by omega)) ?_; repeat (first | (simp only [go_sem, Nat.reduceEqDiff, Nat.reduceAdd, Nat.reduceSub, Nat.reduceMul, Nat.reduceLeDiff, Nat.reduceLT, reduceIte, reduceCtorEq, Nat.succ_ne_zero, elemsC, Int.reduceToNat, Nat.reducePow]) | (simp (disch := (first | omega | (simp only [AL, List.length_map]; omega))) only [AR, AL, ifT, ifF, take_all, List.length_cons, List.length_nil, Int.reduceToNat, Int.reducePow, Nat.reducePow]) | (refine wk_intro (by kernel_rfl) ?_) | (refine vp_draw (id := 1) (l := [7, 10]) (by kernel_rfl) ?_))
theorem ref2_Of (s : Bool) (n d : List Nat) (hn : okL n) (hd : okL d) (hl : n.length ≤ 16777216) (hm : d.length ≤ 16777216) :
    Go.Ev.Fn CX 14 [.bool s, natV n, natV d] (rv (mkRat (sgn s (wth n)) (wth d))) := by
  have hN := ref2_Norm (v := ratV s n d) (L := 16777216) ⟨s, n, d, rfl, hn, hd, hl, hm, rfl⟩ (by omega)
  refine Go.Ev.Fn.intro (fn := Tryz.f14) (body := (Tryz.f14).body.get!) (by kernel_rfl) (by kernel_rfl) (by kernel_rfl) (fun _ => rfl) (Nat.le_of_ble_eq_true (by kernel_rfl)) ?_; unfold Tryz.f14; simp only [Option.get!_some]
  repeat (first | (simp only [go_sem, Nat.reduceEqDiff, Nat.reduceAdd, Nat.reduceSub, Nat.reduceMul, Nat.reduceLeDiff, Nat.reduceLT, reduceIte, reduceCtorEq, Nat.succ_ne_zero, elemsC, Int.reduceToNat, Nat.reducePow]) | (simp (disch := (first | omega | (simp only [AL, List.length_map]; omega))) only [AR, AL, ifT, ifF, take_all, List.length_cons, List.length_nil, Int.reduceToNat, Int.reducePow, Nat.reducePow]) | (refine wk_intro (by kernel_rfl) ?_) | (refine vf_of (by first | exact hN) ?_))
theorem ref2_OfL {s : Bool} {n d : Nat} (hl : (lim n).length ≤ 16777216) (hm : (lim d).length ≤ 16777216) :
    Go.Ev.Fn CX 14 [.bool s, natV (lim n), natV (lim d)] (rv (mkRat (sgn s n) d)) := by
  have h := ref2_Of s (lim n) (lim d) (okL_lim _) (okL_lim _) hl hm
  rwa [wth_lim, wth_lim] at h
theorem ref2_Mul {v w : SV} {q r : Rat} {L M : Nat} (hv : RatA v q L) (hw : RatA w r M) (hL : 1 ≤ L) (hM : 1 ≤ M) (h : L + M ≤ 8388608) : Go.Ev.Fn CX 52 [v, w] (rv (q * r)) := by
  have hnv := ref2_Norm hv (by omega)
  have hnw := ref2_Norm hw (by omega)
  obtain ⟨z1, z2⟩ := szR_of hv hL
  obtain ⟨y1, y2⟩ := szR_of hw hM
  have g1 := lim_len_mul (a := q.num.natAbs) (b := r.num.natAbs)
  have g2 := lim_len_mul (a := q.den) (b := r.den)
  have hOf := ref2_OfL (s := !(decide (q.num < 0) == decide (r.num < 0))) (n := q.num.natAbs * r.num.natAbs) (d := q.den * r.den) (by omega) (by omega)
  rw [mul_parts] at hOf
  obtain ⟨s, n, d, rfl, -⟩ := hv
  obtain ⟨s', n', d', rfl, -⟩ := hw
  refine Go.Ev.Fn.intro (fn := Tryz.f52) (body := (Tryz.f52).body.get!) (by kernel_rfl) (by kernel_rfl) (by kernel_rfl) (fun _ => rfl) (Nat.le_of_ble_eq_true (by kernel_rfl)) ?_; unfold Tryz.f52; simp only [Option.get!_some]
  repeat (first | (simp only [go_sem, Nat.reduceEqDiff, Nat.reduceAdd, Nat.reduceSub, Nat.reduceMul, Nat.reduceLeDiff, Nat.reduceLT, reduceIte, reduceCtorEq, Nat.succ_ne_zero, elemsC, Int.reduceToNat, Nat.reducePow]) | (simp (disch := (first | omega | (simp only [AL, List.length_map]; omega))) only [AR, AL, ifT, ifF, take_all, List.length_cons, List.length_nil, Int.reduceToNat, Int.reducePow, Nat.reducePow]) | (refine wk_intro (by kernel_rfl) ?_) | (refine vp_draw (id := 1) (l := []) (by kernel_rfl) ?_) | (refine vp_draw (id := 2) (l := [17, 19, 22, 24, 20, 25]) (by kernel_rfl) ?_) | (refine vf_of (by first | exact hnv | exact hnw) ?_))
  refine vf_of (ref1_MulL (by omega) (by omega)) ?_; repeat (first | (simp only [go_sem, Nat.reduceEqDiff, Nat.reduceAdd, Nat.reduceSub, Nat.reduceMul, Nat.reduceLeDiff, Nat.reduceLT, reduceIte, reduceCtorEq, Nat.succ_ne_zero, elemsC, Int.reduceToNat, Nat.reducePow]) | (simp (disch := (first | omega | (simp only [AL, List.length_map]; omega))) only [AR, AL, ifT, ifF, take_all, List.length_cons, List.length_nil, Int.reduceToNat, Int.reducePow, Nat.reducePow]) | (refine wk_intro (by kernel_rfl) ?_) | (refine vp_draw (id := 1) (l := []) (by kernel_rfl) ?_) | (refine vp_draw (id := 2) (l := [17, 19, 22, 24, 20, 25]) (by kernel_rfl) ?_))
  refine vf_of (ref1_MulL (by omega) (by omega)) ?_; repeat (first | (simp only [go_sem, Nat.reduceEqDiff, Nat.reduceAdd, Nat.reduceSub, Nat.reduceMul, Nat.reduceLeDiff, Nat.reduceLT, reduceIte, reduceCtorEq, Nat.succ_ne_zero, elemsC, Int.reduceToNat, Nat.reducePow]) | (simp (disch := (first | omega | (simp only [AL, List.length_map]; omega))) only [AR, AL, ifT, ifF, take_all, List.length_cons, List.length_nil, Int.reduceToNat, Int.reducePow, Nat.reducePow]) | (refine wk_intro (by kernel_rfl) ?_) | (refine vp_draw (id := 1) (l := []) (by kernel_rfl) ?_) | (refine vp_draw (id := 2) (l := [17, 19, 22, 24, 20, 25]) (by kernel_rfl) ?_))
  refine vf_of (hOf) ?_; repeat (first | (simp only [go_sem, Nat.reduceEqDiff, Nat.reduceAdd, Nat.reduceSub, Nat.reduceMul, Nat.reduceLeDiff, Nat.reduceLT, reduceIte, reduceCtorEq, Nat.succ_ne_zero, elemsC, Int.reduceToNat, Nat.reducePow]) | (simp (disch := (first | omega | (simp only [AL, List.length_map]; omega))) only [AR, AL, ifT, ifF, take_all, List.length_cons, List.length_nil, Int.reduceToNat, Int.reducePow, Nat.reducePow]) | (refine wk_intro (by kernel_rfl) ?_) | (refine vp_draw (id := 1) (l := []) (by kernel_rfl) ?_) | (refine vp_draw (id := 2) (l := [17, 19, 22, 24, 20, 25]) (by kernel_rfl) ?_))
theorem ref2_limbs (a b : List Nat) (ha : a.length ≤ 274877906944) (hb : b.length ≤ 274877906944) : Go.Ev.Fn CX 118 [natV a, natV b] (.bool (decide (a = b))) := by
  refine Go.Ev.Fn.intro (fn := Tryz.f118) (body := (Tryz.f118).body.get!) (by kernel_rfl) (by kernel_rfl) (by kernel_rfl) (fun _ => rfl) (Nat.le_of_ble_eq_true (by kernel_rfl)) ?_; unfold Tryz.f118; simp only [Option.get!_some]
  by_cases hl : a.length = b.length
  · repeat (first | (simp only [go_sem, Nat.reduceEqDiff, Nat.reduceAdd, Nat.reduceSub, Nat.reduceMul, Nat.reduceLeDiff, Nat.reduceLT, reduceIte, reduceCtorEq, Nat.succ_ne_zero, elemsC, Int.reduceToNat, Nat.reducePow]) | (simp (disch := (first | omega | (simp only [AL, List.length_map]; omega))) only [AR, AL, ifT, ifF, take_all, List.length_cons, List.length_nil, Int.reduceToNat, Int.reducePow, Nat.reducePow]) | (refine wk_intro (by kernel_rfl) ?_) | (refine vp_draw (id := 6) (l := []) (by kernel_rfl) ?_))
    refine vp_loop_inv (fun s => s.tmp 0 = .sv (natV a) ∧ s.tmp 1 = .sv (natV b) ∧ ∃ i : Nat, s.tmp 5 = .sv (.int .i64 i) ∧ i ≤ a.length ∧ a.take i = b.take i) (fun s => match s.tmp 5 with | .sv (.int _ i) => a.length - i.toNat | _ => 0) ⟨rfl, rfl, 0, rfl, by omega, rfl⟩ ?_
    rintro s ⟨i0, i1, i, i5, hi, ht⟩
    by_cases hend : i = a.length
    · subst hend
      rw [List.take_length, hl, List.take_length] at ht
      rw [decide_eq_true ht]
      repeat (first | (simp only [go_sem, Nat.reduceEqDiff, Nat.reduceAdd, Nat.reduceSub, Nat.reduceMul, Nat.reduceLeDiff, Nat.reduceLT, reduceIte, reduceCtorEq, Nat.succ_ne_zero, elemsC, Int.reduceToNat, Nat.reducePow, i0, i1, i5]) | (simp (disch := (first | omega | (simp only [AL, List.length_map]; omega))) only [AR, AL, ifT, ifF, take_all, List.length_cons, List.length_nil, Int.reduceToNat, Int.reducePow, Nat.reducePow, i0, i1, i5]) | (refine wk_intro (by kernel_rfl) ?_) | (refine vp_draw (id := 6) (l := []) (by kernel_rfl) ?_))
    · have e : ∀ c : List Nat, i < c.length → c.take (i + 1) = c.take i ++ [c.getD i 0] := by
        intro c hc
        rw [List.take_add_one, List.getD_eq_getElem?_getD, List.getElem?_eq_getElem hc]
        rfl
      by_cases hx : a.getD i 0 = b.getD i 0
      · repeat (first | (simp only [go_sem, Nat.reduceEqDiff, Nat.reduceAdd, Nat.reduceSub, Nat.reduceMul, Nat.reduceLeDiff, Nat.reduceLT, reduceIte, reduceCtorEq, Nat.succ_ne_zero, elemsC, Int.reduceToNat, Nat.reducePow, i0, i1, i5]) | (simp (disch := (first | omega | (simp only [AL, List.length_map]; omega))) only [AR, AL, ifT, ifF, take_all, List.length_cons, List.length_nil, Int.reduceToNat, Int.reducePow, Nat.reducePow, i0, i1, i5]) | (refine wk_intro (by kernel_rfl) ?_) | (refine vp_draw (id := 6) (l := []) (by kernel_rfl) ?_))
        exact ⟨⟨i + 1, rfl, by omega, by rw [e a (by omega), e b (by omega), ht, hx]⟩, by omega⟩
      · rw [decide_eq_false (fun h => hx (by rw [h]))]
        repeat (first | (simp only [go_sem, Nat.reduceEqDiff, Nat.reduceAdd, Nat.reduceSub, Nat.reduceMul, Nat.reduceLeDiff, Nat.reduceLT, reduceIte, reduceCtorEq, Nat.succ_ne_zero, elemsC, Int.reduceToNat, Nat.reducePow, i0, i1, i5]) | (simp (disch := (first | omega | (simp only [AL, List.length_map]; omega))) only [AR, AL, ifT, ifF, take_all, List.length_cons, List.length_nil, Int.reduceToNat, Int.reducePow, Nat.reducePow, i0, i1, i5]) | (refine wk_intro (by kernel_rfl) ?_) | (refine vp_draw (id := 6) (l := []) (by kernel_rfl) ?_))
  · rw [decide_eq_false (fun h => hl (by rw [h]))]
    repeat (first | (simp only [go_sem, Nat.reduceEqDiff, Nat.reduceAdd, Nat.reduceSub, Nat.reduceMul, Nat.reduceLeDiff, Nat.reduceLT, reduceIte, reduceCtorEq, Nat.succ_ne_zero, elemsC, Int.reduceToNat, Nat.reducePow]) | (simp (disch := (first | omega | (simp only [AL, List.length_map]; omega))) only [AR, AL, ifT, ifF, take_all, List.length_cons, List.length_nil, Int.reduceToNat, Int.reducePow, Nat.reducePow]) | (refine wk_intro (by kernel_rfl) ?_) | (refine vp_draw (id := 6) (l := []) (by kernel_rfl) ?_))
theorem rv_eq {q r : Rat} (h1 : decide (q.num < 0) = decide (r.num < 0)) (h2 : lim q.num.natAbs = lim r.num.natAbs) (h3 : lim q.den = lim r.den) : q = r := by
  have h4 := lim_inj h2
  have h5 := lim_inj h3
  refine Rat.ext ?_ h5
  by_cases h : q.num < 0
  · rw [decide_eq_true h] at h1
    have := of_decide_eq_true h1.symm
    omega
  · rw [decide_eq_false h] at h1
    have := of_decide_eq_false h1.symm
    omega
theorem ref2_Same {v w : SV} {q r : Rat} {L M : Nat} (hv : RatA v q L) (hw : RatA w r M) (hL : 1 ≤ L) (hM : 1 ≤ M) (h : L + M ≤ 8388608) : Go.Ev.Fn CX 98 [v, w] (.bool (decide (q = r))) := by
  have hnv := ref2_Norm hv (by omega)
  have hnw := ref2_Norm hw (by omega)
  obtain ⟨z1, z2⟩ := szR_of hv hL
  obtain ⟨y1, y2⟩ := szR_of hw hM
  have l1 := ref2_limbs (lim q.num.natAbs) (lim r.num.natAbs) (by omega) (by omega)
  have l2 := ref2_limbs (lim q.den) (lim r.den) (by omega) (by omega)
  have hbb := beq_bool (decide (q.num < 0)) (decide (r.num < 0))
  obtain ⟨s, n, d, rfl, -⟩ := hv
  obtain ⟨s', n', d', rfl, -⟩ := hw
  refine Go.Ev.Fn.intro (fn := Tryz.f98) (body := (Tryz.f98).body.get!) (by kernel_rfl) (by kernel_rfl) (by kernel_rfl) (fun _ => rfl) (Nat.le_of_ble_eq_true (by kernel_rfl)) ?_; unfold Tryz.f98; simp only [Option.get!_some]
  repeat (first | (simp only [go_sem, Nat.reduceEqDiff, Nat.reduceAdd, Nat.reduceSub, Nat.reduceMul, Nat.reduceLeDiff, Nat.reduceLT, reduceIte, reduceCtorEq, Nat.succ_ne_zero, elemsC, Int.reduceToNat, Nat.reducePow, hbb]) | (simp (disch := (first | omega | (simp only [AL, List.length_map]; omega))) only [AR, AL, ifT, ifF, take_all, List.length_cons, List.length_nil, Int.reduceToNat, Int.reducePow, Nat.reducePow, hbb]) | (refine wk_intro (by kernel_rfl) ?_) | (refine vp_draw (id := 1) (l := []) (by kernel_rfl) ?_) | (refine vf_of (by first | exact hnv | exact hnw) ?_))
  by_cases h1 : decide (q.num < 0) = decide (r.num < 0)
  · rw [decide_eq_true h1]
    by_cases h2 : lim q.num.natAbs = lim r.num.natAbs
    · rw [decide_eq_true h2] at l1
      repeat (first | (simp only [go_sem, Nat.reduceEqDiff, Nat.reduceAdd, Nat.reduceSub, Nat.reduceMul, Nat.reduceLeDiff, Nat.reduceLT, reduceIte, reduceCtorEq, Nat.succ_ne_zero, elemsC, Int.reduceToNat, Nat.reducePow]) | (simp (disch := (first | omega | (simp only [AL, List.length_map]; omega))) only [AR, AL, ifT, ifF, take_all, List.length_cons, List.length_nil, Int.reduceToNat, Int.reducePow, Nat.reducePow]) | (refine wk_intro (by kernel_rfl) ?_) | (refine vp_draw (id := 1) (l := []) (by kernel_rfl) ?_))
      have e : decide (lim q.den = lim r.den) = decide (q = r) := by
        by_cases h3 : lim q.den = lim r.den
        · rw [decide_eq_true h3, decide_eq_true (rv_eq h1 h2 h3)]
        · rw [decide_eq_false h3, decide_eq_false (fun e => h3 (by rw [e]))]
      rw [e] at l2
      repeat (first | (simp only [go_sem, Nat.reduceEqDiff, Nat.reduceAdd, Nat.reduceSub, Nat.reduceMul, Nat.reduceLeDiff, Nat.reduceLT, reduceIte, reduceCtorEq, Nat.succ_ne_zero, elemsC, Int.reduceToNat, Nat.reducePow]) | (simp (disch := (first | omega | (simp only [AL, List.length_map]; omega))) only [AR, AL, ifT, ifF, take_all, List.length_cons, List.length_nil, Int.reduceToNat, Int.reducePow, Nat.reducePow]) | (refine wk_intro (by kernel_rfl) ?_) | (refine vp_draw (id := 1) (l := []) (by kernel_rfl) ?_) | (refine vf_of (by first | exact l1 | exact l2) ?_))
    · rw [decide_eq_false h2] at l1
      have hne : q ≠ r := fun e => h2 (by rw [e])
      rw [decide_eq_false hne]
      repeat (first | (simp only [go_sem, Nat.reduceEqDiff, Nat.reduceAdd, Nat.reduceSub, Nat.reduceMul, Nat.reduceLeDiff, Nat.reduceLT, reduceIte, reduceCtorEq, Nat.succ_ne_zero, elemsC, Int.reduceToNat, Nat.reducePow]) | (simp (disch := (first | omega | (simp only [AL, List.length_map]; omega))) only [AR, AL, ifT, ifF, take_all, List.length_cons, List.length_nil, Int.reduceToNat, Int.reducePow, Nat.reducePow]) | (refine wk_intro (by kernel_rfl) ?_) | (refine vp_draw (id := 1) (l := []) (by kernel_rfl) ?_) | (refine vf_of (by first | exact l1) ?_))
  · have hne : q ≠ r := fun e => h1 (by rw [e])
    rw [decide_eq_false h1, decide_eq_false hne]
    repeat (first | (simp only [go_sem, Nat.reduceEqDiff, Nat.reduceAdd, Nat.reduceSub, Nat.reduceMul, Nat.reduceLeDiff, Nat.reduceLT, reduceIte, reduceCtorEq, Nat.succ_ne_zero, elemsC, Int.reduceToNat, Nat.reducePow]) | (simp (disch := (first | omega | (simp only [AL, List.length_map]; omega))) only [AR, AL, ifT, ifF, take_all, List.length_cons, List.length_nil, Int.reduceToNat, Int.reducePow, Nat.reducePow]) | (refine wk_intro (by kernel_rfl) ?_) | (refine vp_draw (id := 1) (l := []) (by kernel_rfl) ?_))
theorem ref2_Int (n : Int) (h : -9223372036854775808 ≤ n ∧ n < 9223372036854775808) : Go.Ev.Fn CX 15 [.int .i64 n] (rv (n : Rat)) := by
  have oN := ref1_Of n.natAbs (by omega)
  have e1 := int_u64 h
  have hl := lim_two (v := n.natAbs) |>.2 (by omega)
  have hOf := ref2_OfL (s := decide (n < 0)) (n := n.natAbs) (d := 1) (by omega) (by rw [lim_one]; simp)
  rw [lim_one, sgn_self, show mkRat n 1 = (n : Rat) from Rat.mkRat_one n] at hOf
  refine Go.Ev.Fn.intro (fn := Tryz.f15) (body := (Tryz.f15).body.get!) (by kernel_rfl) (by kernel_rfl) (by kernel_rfl) (fun _ => rfl) (Nat.le_of_ble_eq_true (by kernel_rfl)) ?_; unfold Tryz.f15; simp only [Option.get!_some]
  by_cases h0 : n < 0
  · rw [if_pos h0] at e1
    rw [decide_eq_true h0] at hOf
    have e2 : IntKind.u64.wrap (0 - ((18446744073709551616 - n.natAbs : Nat) : Int)) = (n.natAbs : Int) := by rw [IntKind.wrap_u64]; omega
    repeat (first | (simp only [go_sem, Nat.reduceEqDiff, Nat.reduceAdd, Nat.reduceSub, Nat.reduceMul, Nat.reduceLeDiff, Nat.reduceLT, reduceIte, reduceCtorEq, Nat.succ_ne_zero, elemsC, Int.reduceToNat, Nat.reducePow, e1, e2]) | (simp (disch := (first | omega | (simp only [AL, List.length_map]; omega))) only [AR, AL, ifT, ifF, take_all, List.length_cons, List.length_nil, Int.reduceToNat, Int.reducePow, Nat.reducePow, e1, e2]) | (refine wk_intro (by kernel_rfl) ?_) | (refine vf_of (by first | exact oN | exact hOf) ?_))
  · rw [if_neg h0] at e1
    rw [decide_eq_false h0] at hOf
    repeat (first | (simp only [go_sem, Nat.reduceEqDiff, Nat.reduceAdd, Nat.reduceSub, Nat.reduceMul, Nat.reduceLeDiff, Nat.reduceLT, reduceIte, reduceCtorEq, Nat.succ_ne_zero, elemsC, Int.reduceToNat, Nat.reducePow, e1]) | (simp (disch := (first | omega | (simp only [AL, List.length_map]; omega))) only [AR, AL, ifT, ifF, take_all, List.length_cons, List.length_nil, Int.reduceToNat, Int.reducePow, Nat.reducePow, e1]) | (refine wk_intro (by kernel_rfl) ?_) | (refine vf_of (by first | exact oN | exact hOf) ?_))
theorem ref2_Add {v w : SV} {q r : Rat} {L M : Nat} (hv : RatA v q L) (hw : RatA w r M) (hL : 1 ≤ L) (hM : 1 ≤ M) (h : L + M ≤ 8388608) : Go.Ev.Fn CX 36 [v, w] (rv (q + r)) := by
  have hnv := ref2_Norm hv (by omega)
  have hnw := ref2_Norm hw (by omega)
  obtain ⟨z1, z2⟩ := szR_of hv hL
  obtain ⟨y1, y2⟩ := szR_of hw hM
  have g1 := lim_len_mul (a := q.num.natAbs) (b := r.den)
  have g2 := lim_len_mul (a := r.num.natAbs) (b := q.den)
  have g3 := lim_len_mul (a := q.den) (b := r.den)
  have g4 := lim_len_add2 (a := q.num.natAbs * r.den) (b := r.num.natAbs * q.den) (L := L + M) (by omega) (by omega)
  have g5 := lim_len_mono (Nat.sub_le (q.num.natAbs * r.den) (r.num.natAbs * q.den))
  have g6 := lim_len_mono (Nat.sub_le (r.num.natAbs * q.den) (q.num.natAbs * r.den))
  obtain ⟨s, n, d, rfl, -⟩ := hv
  obtain ⟨s', n', d', rfl, -⟩ := hw
  have hbb := beq_bool (decide (q.num < 0)) (decide (r.num < 0))
  refine Go.Ev.Fn.intro (fn := Tryz.f36) (body := (Tryz.f36).body.get!) (by kernel_rfl) (by kernel_rfl) (by kernel_rfl) (fun _ => rfl) (Nat.le_of_ble_eq_true (by kernel_rfl)) ?_; unfold Tryz.f36; simp only [Option.get!_some]
  repeat (first | (simp only [go_sem, Nat.reduceEqDiff, Nat.reduceAdd, Nat.reduceSub, Nat.reduceMul, Nat.reduceLeDiff, Nat.reduceLT, reduceIte, reduceCtorEq, Nat.succ_ne_zero, elemsC, Int.reduceToNat, Nat.reducePow]) | (simp (disch := (first | omega | (simp only [AL, List.length_map]; omega))) only [AR, AL, ifT, ifF, take_all, List.length_cons, List.length_nil, Int.reduceToNat, Int.reducePow, Nat.reducePow]) | (refine wk_intro (by kernel_rfl) ?_) | (refine vp_draw (id := 1) (l := []) (by kernel_rfl) ?_) | (refine vp_draw (id := 2) (l := [19, 21, 24, 26]) (by kernel_rfl) ?_) | (refine vp_draw (id := 5) (l := [7, 8, 42, 9]) (by kernel_rfl) ?_) | (refine vf_of (by first | exact hnv | exact hnw) ?_))
  refine vf_of (ref1_MulL (by omega) (by omega)) ?_; repeat (first | (simp only [go_sem, Nat.reduceEqDiff, Nat.reduceAdd, Nat.reduceSub, Nat.reduceMul, Nat.reduceLeDiff, Nat.reduceLT, reduceIte, reduceCtorEq, Nat.succ_ne_zero, elemsC, Int.reduceToNat, Nat.reducePow]) | (simp (disch := (first | omega | (simp only [AL, List.length_map]; omega))) only [AR, AL, ifT, ifF, take_all, List.length_cons, List.length_nil, Int.reduceToNat, Int.reducePow, Nat.reducePow]) | (refine wk_intro (by kernel_rfl) ?_) | (refine vp_draw (id := 1) (l := []) (by kernel_rfl) ?_) | (refine vp_draw (id := 2) (l := [19, 21, 24, 26]) (by kernel_rfl) ?_) | (refine vp_draw (id := 5) (l := [7, 8, 42, 9]) (by kernel_rfl) ?_))
  refine vf_of (ref1_MulL (by omega) (by omega)) ?_; repeat (first | (simp only [go_sem, Nat.reduceEqDiff, Nat.reduceAdd, Nat.reduceSub, Nat.reduceMul, Nat.reduceLeDiff, Nat.reduceLT, reduceIte, reduceCtorEq, Nat.succ_ne_zero, elemsC, Int.reduceToNat, Nat.reducePow]) | (simp (disch := (first | omega | (simp only [AL, List.length_map]; omega))) only [AR, AL, ifT, ifF, take_all, List.length_cons, List.length_nil, Int.reduceToNat, Int.reducePow, Nat.reducePow]) | (refine wk_intro (by kernel_rfl) ?_) | (refine vp_draw (id := 1) (l := []) (by kernel_rfl) ?_) | (refine vp_draw (id := 2) (l := [19, 21, 24, 26]) (by kernel_rfl) ?_) | (refine vp_draw (id := 5) (l := [7, 8, 42, 9]) (by kernel_rfl) ?_))
  refine vf_of (ref1_MulL (by omega) (by omega)) ?_; repeat (first | (simp only [go_sem, Nat.reduceEqDiff, Nat.reduceAdd, Nat.reduceSub, Nat.reduceMul, Nat.reduceLeDiff, Nat.reduceLT, reduceIte, reduceCtorEq, Nat.succ_ne_zero, elemsC, Int.reduceToNat, Nat.reducePow, hbb]) | (simp (disch := (first | omega | (simp only [AL, List.length_map]; omega))) only [AR, AL, ifT, ifF, take_all, List.length_cons, List.length_nil, Int.reduceToNat, Int.reducePow, Nat.reducePow, hbb]) | (refine wk_intro (by kernel_rfl) ?_) | (refine vp_draw (id := 1) (l := []) (by kernel_rfl) ?_) | (refine vp_draw (id := 2) (l := [19, 21, 24, 26]) (by kernel_rfl) ?_) | (refine vp_draw (id := 5) (l := [7, 8, 42, 9]) (by kernel_rfl) ?_))
  by_cases hs : decide (q.num < 0) = decide (r.num < 0)
  · have hOf := ref2_OfL (s := decide (q.num < 0)) (n := q.num.natAbs * r.den + r.num.natAbs * q.den) (d := q.den * r.den) (by omega) (by omega)
    rw [add_same q r hs] at hOf
    rw [decide_eq_true hs]
    repeat (first | (simp only [go_sem, Nat.reduceEqDiff, Nat.reduceAdd, Nat.reduceSub, Nat.reduceMul, Nat.reduceLeDiff, Nat.reduceLT, reduceIte, reduceCtorEq, Nat.succ_ne_zero, elemsC, Int.reduceToNat, Nat.reducePow]) | (simp (disch := (first | omega | (simp only [AL, List.length_map]; omega))) only [AR, AL, ifT, ifF, take_all, List.length_cons, List.length_nil, Int.reduceToNat, Int.reducePow, Nat.reducePow]) | (refine wk_intro (by kernel_rfl) ?_) | (refine vp_draw (id := 1) (l := []) (by kernel_rfl) ?_) | (refine vp_draw (id := 2) (l := [19, 21, 24, 26]) (by kernel_rfl) ?_) | (refine vp_draw (id := 5) (l := [7, 8, 42, 9]) (by kernel_rfl) ?_))
    refine vf_of (ref1_AddL (by omega) (by omega)) ?_; repeat (first | (simp only [go_sem, Nat.reduceEqDiff, Nat.reduceAdd, Nat.reduceSub, Nat.reduceMul, Nat.reduceLeDiff, Nat.reduceLT, reduceIte, reduceCtorEq, Nat.succ_ne_zero, elemsC, Int.reduceToNat, Nat.reducePow]) | (simp (disch := (first | omega | (simp only [AL, List.length_map]; omega))) only [AR, AL, ifT, ifF, take_all, List.length_cons, List.length_nil, Int.reduceToNat, Int.reducePow, Nat.reducePow]) | (refine wk_intro (by kernel_rfl) ?_) | (refine vp_draw (id := 1) (l := []) (by kernel_rfl) ?_) | (refine vp_draw (id := 2) (l := [19, 21, 24, 26]) (by kernel_rfl) ?_) | (refine vp_draw (id := 5) (l := [7, 8, 42, 9]) (by kernel_rfl) ?_))
    refine vf_of (hOf) ?_; repeat (first | (simp only [go_sem, Nat.reduceEqDiff, Nat.reduceAdd, Nat.reduceSub, Nat.reduceMul, Nat.reduceLeDiff, Nat.reduceLT, reduceIte, reduceCtorEq, Nat.succ_ne_zero, elemsC, Int.reduceToNat, Nat.reducePow]) | (simp (disch := (first | omega | (simp only [AL, List.length_map]; omega))) only [AR, AL, ifT, ifF, take_all, List.length_cons, List.length_nil, Int.reduceToNat, Int.reducePow, Nat.reducePow]) | (refine wk_intro (by kernel_rfl) ?_) | (refine vp_draw (id := 1) (l := []) (by kernel_rfl) ?_) | (refine vp_draw (id := 2) (l := [19, 21, 24, 26]) (by kernel_rfl) ?_) | (refine vp_draw (id := 5) (l := [7, 8, 42, 9]) (by kernel_rfl) ?_))
  · rw [decide_eq_false hs]
    have hc := ref1_CmpL (N := q.num.natAbs * r.den) (D := r.num.natAbs * q.den) (by omega) (by omega)
    repeat (first | (simp only [go_sem, Nat.reduceEqDiff, Nat.reduceAdd, Nat.reduceSub, Nat.reduceMul, Nat.reduceLeDiff, Nat.reduceLT, reduceIte, reduceCtorEq, Nat.succ_ne_zero, elemsC, Int.reduceToNat, Nat.reducePow]) | (simp (disch := (first | omega | (simp only [AL, List.length_map]; omega))) only [AR, AL, ifT, ifF, take_all, List.length_cons, List.length_nil, Int.reduceToNat, Int.reducePow, Nat.reducePow]) | (refine wk_intro (by kernel_rfl) ?_) | (refine vp_draw (id := 1) (l := []) (by kernel_rfl) ?_) | (refine vp_draw (id := 2) (l := [19, 21, 24, 26]) (by kernel_rfl) ?_) | (refine vp_draw (id := 5) (l := [7, 8, 42, 9]) (by kernel_rfl) ?_))
    by_cases h2 : r.num.natAbs * q.den ≤ q.num.natAbs * r.den
    · have hOf := ref2_OfL (s := decide (q.num < 0)) (n := q.num.natAbs * r.den - r.num.natAbs * q.den) (d := q.den * r.den) (by omega) (by omega)
      rw [add_ge q r hs h2] at hOf
      have hcc : decide (cmpN (q.num.natAbs * r.den) (r.num.natAbs * q.den) ≥ 0) = true := by
        have := cmpN_ge h2
        rw [decide_eq_false_iff_not] at this
        exact decide_eq_true (by omega)
      refine vf_of (hc) ?_; repeat (first | (simp only [go_sem, Nat.reduceEqDiff, Nat.reduceAdd, Nat.reduceSub, Nat.reduceMul, Nat.reduceLeDiff, Nat.reduceLT, reduceIte, reduceCtorEq, Nat.succ_ne_zero, elemsC, Int.reduceToNat, Nat.reducePow, hcc]) | (simp (disch := (first | omega | (simp only [AL, List.length_map]; omega))) only [AR, AL, ifT, ifF, take_all, List.length_cons, List.length_nil, Int.reduceToNat, Int.reducePow, Nat.reducePow, hcc]) | (refine wk_intro (by kernel_rfl) ?_) | (refine vp_draw (id := 1) (l := []) (by kernel_rfl) ?_) | (refine vp_draw (id := 2) (l := [19, 21, 24, 26]) (by kernel_rfl) ?_) | (refine vp_draw (id := 5) (l := [7, 8, 42, 9]) (by kernel_rfl) ?_))
      refine vf_of (ref1_SubL (by omega) (by omega)) ?_; repeat (first | (simp only [go_sem, Nat.reduceEqDiff, Nat.reduceAdd, Nat.reduceSub, Nat.reduceMul, Nat.reduceLeDiff, Nat.reduceLT, reduceIte, reduceCtorEq, Nat.succ_ne_zero, elemsC, Int.reduceToNat, Nat.reducePow]) | (simp (disch := (first | omega | (simp only [AL, List.length_map]; omega))) only [AR, AL, ifT, ifF, take_all, List.length_cons, List.length_nil, Int.reduceToNat, Int.reducePow, Nat.reducePow]) | (refine wk_intro (by kernel_rfl) ?_) | (refine vp_draw (id := 1) (l := []) (by kernel_rfl) ?_) | (refine vp_draw (id := 2) (l := [19, 21, 24, 26]) (by kernel_rfl) ?_) | (refine vp_draw (id := 5) (l := [7, 8, 42, 9]) (by kernel_rfl) ?_))
      refine vf_of (hOf) ?_; repeat (first | (simp only [go_sem, Nat.reduceEqDiff, Nat.reduceAdd, Nat.reduceSub, Nat.reduceMul, Nat.reduceLeDiff, Nat.reduceLT, reduceIte, reduceCtorEq, Nat.succ_ne_zero, elemsC, Int.reduceToNat, Nat.reducePow]) | (simp (disch := (first | omega | (simp only [AL, List.length_map]; omega))) only [AR, AL, ifT, ifF, take_all, List.length_cons, List.length_nil, Int.reduceToNat, Int.reducePow, Nat.reducePow]) | (refine wk_intro (by kernel_rfl) ?_) | (refine vp_draw (id := 1) (l := []) (by kernel_rfl) ?_) | (refine vp_draw (id := 2) (l := [19, 21, 24, 26]) (by kernel_rfl) ?_) | (refine vp_draw (id := 5) (l := [7, 8, 42, 9]) (by kernel_rfl) ?_))
    · have hOf := ref2_OfL (s := decide (r.num < 0)) (n := r.num.natAbs * q.den - q.num.natAbs * r.den) (d := q.den * r.den) (by omega) (by omega)
      rw [add_lt q r hs (by omega)] at hOf
      rw [cmpN_lt (by omega)] at hc
      refine vf_of (hc) ?_; repeat (first | (simp only [go_sem, Nat.reduceEqDiff, Nat.reduceAdd, Nat.reduceSub, Nat.reduceMul, Nat.reduceLeDiff, Nat.reduceLT, reduceIte, reduceCtorEq, Nat.succ_ne_zero, elemsC, Int.reduceToNat, Nat.reducePow]) | (simp (disch := (first | omega | (simp only [AL, List.length_map]; omega))) only [AR, AL, ifT, ifF, take_all, List.length_cons, List.length_nil, Int.reduceToNat, Int.reducePow, Nat.reducePow]) | (refine wk_intro (by kernel_rfl) ?_) | (refine vp_draw (id := 1) (l := []) (by kernel_rfl) ?_) | (refine vp_draw (id := 2) (l := [19, 21, 24, 26]) (by kernel_rfl) ?_) | (refine vp_draw (id := 5) (l := [7, 8, 42, 9]) (by kernel_rfl) ?_))
      refine vf_of (ref1_SubL (by omega) (by omega)) ?_; repeat (first | (simp only [go_sem, Nat.reduceEqDiff, Nat.reduceAdd, Nat.reduceSub, Nat.reduceMul, Nat.reduceLeDiff, Nat.reduceLT, reduceIte, reduceCtorEq, Nat.succ_ne_zero, elemsC, Int.reduceToNat, Nat.reducePow]) | (simp (disch := (first | omega | (simp only [AL, List.length_map]; omega))) only [AR, AL, ifT, ifF, take_all, List.length_cons, List.length_nil, Int.reduceToNat, Int.reducePow, Nat.reducePow]) | (refine wk_intro (by kernel_rfl) ?_) | (refine vp_draw (id := 1) (l := []) (by kernel_rfl) ?_) | (refine vp_draw (id := 2) (l := [19, 21, 24, 26]) (by kernel_rfl) ?_) | (refine vp_draw (id := 5) (l := [7, 8, 42, 9]) (by kernel_rfl) ?_))
      refine vf_of (hOf) ?_; repeat (first | (simp only [go_sem, Nat.reduceEqDiff, Nat.reduceAdd, Nat.reduceSub, Nat.reduceMul, Nat.reduceLeDiff, Nat.reduceLT, reduceIte, reduceCtorEq, Nat.succ_ne_zero, elemsC, Int.reduceToNat, Nat.reducePow]) | (simp (disch := (first | omega | (simp only [AL, List.length_map]; omega))) only [AR, AL, ifT, ifF, take_all, List.length_cons, List.length_nil, Int.reduceToNat, Int.reducePow, Nat.reducePow]) | (refine wk_intro (by kernel_rfl) ?_) | (refine vp_draw (id := 1) (l := []) (by kernel_rfl) ?_) | (refine vp_draw (id := 2) (l := [19, 21, 24, 26]) (by kernel_rfl) ?_) | (refine vp_draw (id := 5) (l := [7, 8, 42, 9]) (by kernel_rfl) ?_))
end Go.Proofs.YtecjelnpmcnbaaaGreat
namespace Go.Proofs.YtecjelnpmcnbaaaGreat
open Go.Ev
theorem szR_zero {L : Nat} (h : 1 ≤ L) : szR 0 L := ⟨by rw [show (0 : Rat).num.natAbs = 0 by rfl, lim_zero]; simp, by rw [show (0 : Rat).den = 1 by rfl, lim_one]; exact h⟩
theorem szR_mul {q r : Rat} {L M : Nat} (h1 : szR q L) (h2 : szR r M) (hL : 1 ≤ L) : szR (q * r) (L + M) := by
  rw [← mul_parts]
  have g1 := lim_len_mul (a := q.num.natAbs) (b := r.num.natAbs)
  have g2 := lim_len_mul (a := q.den) (b := r.den)
  obtain ⟨a1, a2⟩ := h1
  obtain ⟨b1, b2⟩ := h2
  exact szR_mk (by omega) (by omega) (by omega)
theorem szR_add {q r : Rat} {L M : Nat} (h1 : szR q L) (h2 : szR r M) (hL : 1 ≤ L) : szR (q + r) (L + M + 1) := by
  have g1 := lim_len_mul (a := q.num.natAbs) (b := r.den)
  have g2 := lim_len_mul (a := r.num.natAbs) (b := q.den)
  have g3 := lim_len_mul (a := q.den) (b := r.den)
  obtain ⟨a1, a2⟩ := h1
  obtain ⟨b1, b2⟩ := h2
  have g4 := lim_len_add2 (a := q.num.natAbs * r.den) (b := r.num.natAbs * q.den) (L := L + M) (by omega) (by omega)
  have e : q + r = mkRat (sgn (decide (sgn (decide (q.num < 0)) (q.num.natAbs * r.den) + sgn (decide (r.num < 0)) (r.num.natAbs * q.den) < 0)) (sgn (decide (q.num < 0)) (q.num.natAbs * r.den) + sgn (decide (r.num < 0)) (r.num.natAbs * q.den)).natAbs) (q.den * r.den) := by
    rw [sgn_self]; exact add_parts q r
  rw [e]
  refine szR_mk (Nat.le_trans (lim_len_mono ?_) g4) (by omega) (by omega)
  have := Int.natAbs_add_le (sgn (decide (q.num < 0)) (q.num.natAbs * r.den)) (sgn (decide (r.num < 0)) (r.num.natAbs * q.den))
  rw [sgn_abs, sgn_abs] at this
  exact this
theorem szR_sub {q r : Rat} {L M : Nat} (h1 : szR q L) (h2 : szR r M) (hL : 1 ≤ L) : szR (q - r) (L + M + 1) := by
  rw [Rat.sub_eq_add_neg]
  exact szR_add h1 (szR_neg h2) hL
theorem szR_div {q r : Rat} {L M : Nat} (h1 : szR q L) (h2 : szR r M) (hL : 1 ≤ L) (hM : 1 ≤ M) : szR (q / r) (L + M) := by
  by_cases hr : r = 0
  · rw [hr, Rat.div_def, Rat.inv_zero, Rat.mul_zero]
    exact szR_zero (by omega)
  · rw [div_parts hr]
    exact szR_mul h1 (szR_mk h2.2 h2.1 hM) hL
theorem ref2_Neg {v : SV} {q : Rat} {L : Nat} (hv : RatA v q L) (hL : 1 ≤ L) (h : L ≤ 8388608) : Go.Ev.Fn CX 76 [v] (rv (-q)) := by
  have hnv := ref2_Norm hv (by omega)
  obtain ⟨z1, z2⟩ := szR_of hv hL
  rw [neg_parts]
  obtain ⟨s, n, d, rfl, -⟩ := hv
  refine Go.Ev.Fn.intro (fn := Tryz.f76) (body := (Tryz.f76).body.get!) (by kernel_rfl) (by kernel_rfl) (by kernel_rfl) (fun _ => rfl) (Nat.le_of_ble_eq_true (by kernel_rfl)) ?_; unfold Tryz.f76; simp only [Option.get!_some]
  repeat (first | (simp only [go_sem, Nat.reduceEqDiff, Nat.reduceAdd, Nat.reduceSub, Nat.reduceMul, Nat.reduceLeDiff, Nat.reduceLT, reduceIte, reduceCtorEq, Nat.succ_ne_zero, elemsC, Int.reduceToNat, Nat.reducePow]) | (simp (disch := (first | omega | (simp only [AL, List.length_map]; omega))) only [AR, AL, ifT, ifF, take_all, List.length_cons, List.length_nil, Int.reduceToNat, Int.reducePow, Nat.reducePow]) | (refine wk_intro (by kernel_rfl) ?_) | (refine vf_of (by first | exact hnv) ?_))
  cases hs : decide (q.num < 0)
  · rcases Nat.eq_zero_or_pos (lim q.num.natAbs).length with h0 | h0
    · rw [decide_eq_false (show ¬ 0 < (lim q.num.natAbs).length by omega)]
      repeat (first | (simp only [go_sem, Nat.reduceEqDiff, Nat.reduceAdd, Nat.reduceSub, Nat.reduceMul, Nat.reduceLeDiff, Nat.reduceLT, reduceIte, reduceCtorEq, Nat.succ_ne_zero, elemsC, Int.reduceToNat, Nat.reducePow, Bool.not_true, Bool.not_false]) | (simp (disch := (first | omega | (simp only [AL, List.length_map]; omega))) only [AR, AL, ifT, ifF, take_all, List.length_cons, List.length_nil, Int.reduceToNat, Int.reducePow, Nat.reducePow, Bool.not_true, Bool.not_false]) | (refine wk_intro (by kernel_rfl) ?_))
    · rw [decide_eq_true h0]
      repeat (first | (simp only [go_sem, Nat.reduceEqDiff, Nat.reduceAdd, Nat.reduceSub, Nat.reduceMul, Nat.reduceLeDiff, Nat.reduceLT, reduceIte, reduceCtorEq, Nat.succ_ne_zero, elemsC, Int.reduceToNat, Nat.reducePow, Bool.not_true, Bool.not_false]) | (simp (disch := (first | omega | (simp only [AL, List.length_map]; omega))) only [AR, AL, ifT, ifF, take_all, List.length_cons, List.length_nil, Int.reduceToNat, Int.reducePow, Nat.reducePow, Bool.not_true, Bool.not_false]) | (refine wk_intro (by kernel_rfl) ?_))
  · repeat (first | (simp only [go_sem, Nat.reduceEqDiff, Nat.reduceAdd, Nat.reduceSub, Nat.reduceMul, Nat.reduceLeDiff, Nat.reduceLT, reduceIte, reduceCtorEq, Nat.succ_ne_zero, elemsC, Int.reduceToNat, Nat.reducePow, Bool.not_true, Bool.not_false]) | (simp (disch := (first | omega | (simp only [AL, List.length_map]; omega))) only [AR, AL, ifT, ifF, take_all, List.length_cons, List.length_nil, Int.reduceToNat, Int.reducePow, Nat.reducePow, Bool.not_true, Bool.not_false]) | (refine wk_intro (by kernel_rfl) ?_))
    rfl
theorem sgn_mul2 (s t : Bool) (a b : Nat) : sgn s a * sgn t b = sgn (!(s == t)) (a * b) := by
  cases s <;> cases t <;> simp [sgn, Int.neg_mul, Int.mul_neg]
theorem quo_parts {q r : Rat} (hr : r ≠ 0) : mkRat (sgn (!(decide (q.num < 0) == decide (r.num < 0))) (q.num.natAbs * r.den)) (q.den * r.num.natAbs) = q / r := by
  rw [div_parts hr, ← sgn_mul2, ← Rat.mkRat_mul_mkRat, sgn_self, Rat.mkRat_self]
theorem ref2_Div {v w : SV} {q r : Rat} {L M : Nat} (hv : RatA v q L) (hw : RatA w r M) (hL : 1 ≤ L) (hM : 1 ≤ M) (h : L + M ≤ 8388608) : Go.Ev.Fn CX 70 [v, w] (.tup [rv (q / r), .bool (decide (r ≠ 0))]) := by
  have hnv := ref2_Norm hv (by omega)
  have hnw := ref2_Norm hw (by omega)
  obtain ⟨z1, z2⟩ := szR_of hv hL
  obtain ⟨y1, y2⟩ := szR_of hw hM
  have g1 := lim_len_mul (a := q.num.natAbs) (b := r.den)
  have g2 := lim_len_mul (a := q.den) (b := r.num.natAbs)
  obtain ⟨s, n, d, rfl, -⟩ := hv
  obtain ⟨s', n', d', rfl, -⟩ := hw
  have h0 := ref2_Norm (v := ratV false [] []) (q := 0) (L := 1) ⟨_, _, _, rfl, okL_nil, okL_nil, by simp, by simp, by rw [wth_nil]; exact (mk_zero false (.inl rfl)).symm⟩ (by omega)
  refine Go.Ev.Fn.intro (fn := Tryz.f70) (body := (Tryz.f70).body.get!) (by kernel_rfl) (by kernel_rfl) (by kernel_rfl) (fun _ => rfl) (Nat.le_of_ble_eq_true (by kernel_rfl)) ?_; unfold Tryz.f70; simp only [Option.get!_some]
  repeat (first | (simp only [go_sem, Nat.reduceEqDiff, Nat.reduceAdd, Nat.reduceSub, Nat.reduceMul, Nat.reduceLeDiff, Nat.reduceLT, reduceIte, reduceCtorEq, Nat.succ_ne_zero, elemsC, Int.reduceToNat, Nat.reducePow]) | (simp (disch := (first | omega | (simp only [AL, List.length_map]; omega))) only [AR, AL, ifT, ifF, take_all, List.length_cons, List.length_nil, Int.reduceToNat, Int.reducePow, Nat.reducePow]) | (refine wk_intro (by kernel_rfl) ?_) | (refine vp_draw (id := 1) (l := []) (by kernel_rfl) ?_) | (refine vp_draw (id := 4) (l := [24, 26, 29, 31, 27, 32]) (by kernel_rfl) ?_) | (refine vf_of (by first | exact hnv | exact hnw) ?_))
  by_cases hr : r = 0
  · have hl : (lim r.num.natAbs).length = 0 := by rw [num_zero.2 hr]; simp [lim_zero]
    rw [show decide (r ≠ 0) = false from decide_eq_false (fun e => e hr), hr, Rat.div_def, Rat.inv_zero, Rat.mul_zero]
    subst hr
    repeat (first | (simp only [go_sem, Nat.reduceEqDiff, Nat.reduceAdd, Nat.reduceSub, Nat.reduceMul, Nat.reduceLeDiff, Nat.reduceLT, reduceIte, reduceCtorEq, Nat.succ_ne_zero, elemsC, Int.reduceToNat, Nat.reducePow]) | (simp (disch := (first | omega | (simp only [AL, List.length_map]; omega))) only [AR, AL, ifT, ifF, take_all, List.length_cons, List.length_nil, Int.reduceToNat, Int.reducePow, Nat.reducePow]) | (refine wk_intro (by kernel_rfl) ?_) | (refine vp_draw (id := 1) (l := []) (by kernel_rfl) ?_) | (refine vp_draw (id := 4) (l := [24, 26, 29, 31, 27, 32]) (by kernel_rfl) ?_) | (refine vf_of (by first | exact h0) ?_))
  · have hl := lim_pos (N := r.num.natAbs) (fun e => hr (num_zero.1 (by omega)))
    have hOf := ref2_OfL (s := !(decide (q.num < 0) == decide (r.num < 0))) (n := q.num.natAbs * r.den) (d := q.den * r.num.natAbs) (by omega) (by omega)
    rw [quo_parts hr] at hOf
    rw [decide_eq_true hr]
    repeat (first | (simp only [go_sem, Nat.reduceEqDiff, Nat.reduceAdd, Nat.reduceSub, Nat.reduceMul, Nat.reduceLeDiff, Nat.reduceLT, reduceIte, reduceCtorEq, Nat.succ_ne_zero, elemsC, Int.reduceToNat, Nat.reducePow]) | (simp (disch := (first | omega | (simp only [AL, List.length_map]; omega))) only [AR, AL, ifT, ifF, take_all, List.length_cons, List.length_nil, Int.reduceToNat, Int.reducePow, Nat.reducePow]) | (refine wk_intro (by kernel_rfl) ?_) | (refine vp_draw (id := 1) (l := []) (by kernel_rfl) ?_) | (refine vp_draw (id := 4) (l := [24, 26, 29, 31, 27, 32]) (by kernel_rfl) ?_))
    refine vf_of (ref1_MulL (by omega) (by omega)) ?_; repeat (first | (simp only [go_sem, Nat.reduceEqDiff, Nat.reduceAdd, Nat.reduceSub, Nat.reduceMul, Nat.reduceLeDiff, Nat.reduceLT, reduceIte, reduceCtorEq, Nat.succ_ne_zero, elemsC, Int.reduceToNat, Nat.reducePow]) | (simp (disch := (first | omega | (simp only [AL, List.length_map]; omega))) only [AR, AL, ifT, ifF, take_all, List.length_cons, List.length_nil, Int.reduceToNat, Int.reducePow, Nat.reducePow]) | (refine wk_intro (by kernel_rfl) ?_) | (refine vp_draw (id := 1) (l := []) (by kernel_rfl) ?_) | (refine vp_draw (id := 4) (l := [24, 26, 29, 31, 27, 32]) (by kernel_rfl) ?_))
    refine vf_of (ref1_MulL (by omega) (by omega)) ?_; repeat (first | (simp only [go_sem, Nat.reduceEqDiff, Nat.reduceAdd, Nat.reduceSub, Nat.reduceMul, Nat.reduceLeDiff, Nat.reduceLT, reduceIte, reduceCtorEq, Nat.succ_ne_zero, elemsC, Int.reduceToNat, Nat.reducePow]) | (simp (disch := (first | omega | (simp only [AL, List.length_map]; omega))) only [AR, AL, ifT, ifF, take_all, List.length_cons, List.length_nil, Int.reduceToNat, Int.reducePow, Nat.reducePow]) | (refine wk_intro (by kernel_rfl) ?_) | (refine vp_draw (id := 1) (l := []) (by kernel_rfl) ?_) | (refine vp_draw (id := 4) (l := [24, 26, 29, 31, 27, 32]) (by kernel_rfl) ?_))
    refine vf_of (hOf) ?_; repeat (first | (simp only [go_sem, Nat.reduceEqDiff, Nat.reduceAdd, Nat.reduceSub, Nat.reduceMul, Nat.reduceLeDiff, Nat.reduceLT, reduceIte, reduceCtorEq, Nat.succ_ne_zero, elemsC, Int.reduceToNat, Nat.reducePow]) | (simp (disch := (first | omega | (simp only [AL, List.length_map]; omega))) only [AR, AL, ifT, ifF, take_all, List.length_cons, List.length_nil, Int.reduceToNat, Int.reducePow, Nat.reducePow]) | (refine wk_intro (by kernel_rfl) ?_) | (refine vp_draw (id := 1) (l := []) (by kernel_rfl) ?_) | (refine vp_draw (id := 4) (l := [24, 26, 29, 31, 27, 32]) (by kernel_rfl) ?_))
end Go.Proofs.YtecjelnpmcnbaaaGreat
namespace Go.Proofs.YtecjelnpmcnbaaaGreat
open Go.Ev
def cmpR (q r : Rat) : Int := if q < r then -1 else if q = r then 0 else 1
theorem sub_num {q r : Rat} : (q - r).num < 0 ↔ q < r := by
  have h : (q - r).num < 0 ↔ q - r < 0 := by
    have := Rat.num_nonneg (q := q - r)
    constructor
    · intro h
      have h1 : ¬ 0 ≤ q - r := fun g => absurd (this.2 g) (by omega)
      grind
    · intro h
      rcases Int.lt_or_le (q - r).num 0 with h1 | h1
      · exact h1
      · exact absurd (this.1 h1) (by grind)
  rw [h]
  constructor <;> intro h <;> grind
theorem sub_zero' {q r : Rat} : (q - r).num = 0 ↔ q = r := by
  rw [Rat.num_eq_zero]
  constructor <;> intro h <;> grind
theorem int_szR {n : Int} (h : -9223372036854775808 ≤ n ∧ n ≤ 9223372036854775808) : szR (n : Rat) 2 := by
  refine ⟨?_, ?_⟩
  · show (lim n.natAbs).length ≤ 2
    exact lim_two.2 (by omega)
  · show (lim 1).length ≤ 2
    rw [lim_one]; simp
theorem rat_Cmp {v w : SV} {q r : Rat} {L M : Nat} (hv : RatA v q L) (hw : RatA w r M) (hL : 1 ≤ L) (hM : 1 ≤ M) (h : L + M ≤ 268435456) : Go.Ev.Fn CX 22 [v, w] (.int .i64 (cmpR q r)) := by
  have hs := rat_Sub hv hw hL hM h
  have hz := szR_sub (szR_of hv hL) (szR_of hw hM) hL
  obtain ⟨s, n, d, rfl, -⟩ := hv
  obtain ⟨s', n', d', rfl, -⟩ := hw
  obtain ⟨y1, -⟩ := hz
  refine Go.Ev.Fn.intro (fn := Tryz.f22) (body := (Tryz.f22).body.get!) (by kernel_rfl) (by kernel_rfl) (by kernel_rfl) (fun _ => rfl) (Nat.le_of_ble_eq_true (by kernel_rfl)) ?_; unfold Tryz.f22; simp only [Option.get!_some]
  by_cases h1 : q < r
  · have e : decide ((q - r).num < 0) = true := decide_eq_true (sub_num.2 h1)
    rw [show cmpR q r = -1 from if_pos h1]
    repeat (first | (simp only [go_sem, Nat.reduceEqDiff, Nat.reduceAdd, Nat.reduceSub, Nat.reduceMul, Nat.reduceLeDiff, Nat.reduceLT, reduceIte, reduceCtorEq, Nat.succ_ne_zero, elemsC, Int.reduceToNat, Nat.reducePow, e]) | (simp (disch := (first | omega | (simp only [AL, List.length_map]; omega))) only [AR, AL, ifT, ifF, take_all, List.length_cons, List.length_nil, Int.reduceToNat, Int.reducePow, Nat.reducePow, e]) | (refine wk_intro (by kernel_rfl) ?_) | (refine vf_of (by first | exact hs) ?_))
  · have e : decide ((q - r).num < 0) = false := decide_eq_false (fun h => h1 (sub_num.1 h))
    by_cases h2 : q = r
    · have e2 : (lim (q - r).num.natAbs).length = 0 := by rw [sub_zero'.2 h2]; simp [lim_zero]
      rw [show cmpR q r = 0 by unfold cmpR; rw [if_neg h1, if_pos h2]]
      repeat (first | (simp only [go_sem, Nat.reduceEqDiff, Nat.reduceAdd, Nat.reduceSub, Nat.reduceMul, Nat.reduceLeDiff, Nat.reduceLT, reduceIte, reduceCtorEq, Nat.succ_ne_zero, elemsC, Int.reduceToNat, Nat.reducePow, e]) | (simp (disch := (first | omega | (simp only [AL, List.length_map]; omega))) only [AR, AL, ifT, ifF, take_all, List.length_cons, List.length_nil, Int.reduceToNat, Int.reducePow, Nat.reducePow, e]) | (refine wk_intro (by kernel_rfl) ?_) | (refine vf_of (by first | exact hs) ?_))
    · have e2 := lim_pos (N := (q - r).num.natAbs) (fun h => h2 (sub_zero'.1 (by omega)))
      rw [show cmpR q r = 1 by unfold cmpR; rw [if_neg h1, if_neg h2]]
      repeat (first | (simp only [go_sem, Nat.reduceEqDiff, Nat.reduceAdd, Nat.reduceSub, Nat.reduceMul, Nat.reduceLeDiff, Nat.reduceLT, reduceIte, reduceCtorEq, Nat.succ_ne_zero, elemsC, Int.reduceToNat, Nat.reducePow, e]) | (simp (disch := (first | omega | (simp only [AL, List.length_map]; omega))) only [AR, AL, ifT, ifF, take_all, List.length_cons, List.length_nil, Int.reduceToNat, Int.reducePow, Nat.reducePow, e]) | (refine wk_intro (by kernel_rfl) ?_) | (refine vf_of (by first | exact hs) ?_))
theorem ref2_Sub {v w : SV} {q r : Rat} {L M : Nat} (hv : RatA v q L) (hw : RatA w r M) (hL : 1 ≤ L) (hM : 1 ≤ M) (h : L + M ≤ 8388608) : Go.Ev.Fn CX 37 [v, w] (rv (q - r)) := by
  have hN := ref2_Neg hw hM (by omega)
  have hA := ref2_Add hv (RatA_rv (szR_neg (szR_of hw hM))) hL hM h
  rw [← Rat.sub_eq_add_neg] at hA
  obtain ⟨s, n, d, rfl, -⟩ := hv
  obtain ⟨s', n', d', rfl, -⟩ := hw
  refine Go.Ev.Fn.intro (fn := Tryz.f37) (body := (Tryz.f37).body.get!) (by kernel_rfl) (by kernel_rfl) (by kernel_rfl) (fun _ => rfl) (Nat.le_of_ble_eq_true (by kernel_rfl)) ?_; unfold Tryz.f37; simp only [Option.get!_some]
  repeat (first | (simp only [go_sem, Nat.reduceEqDiff, Nat.reduceAdd, Nat.reduceSub, Nat.reduceMul, Nat.reduceLeDiff, Nat.reduceLT, reduceIte, reduceCtorEq, Nat.succ_ne_zero, elemsC, Int.reduceToNat, Nat.reducePow]) | (simp (disch := (first | omega | (simp only [AL, List.length_map]; omega))) only [AR, AL, ifT, ifF, take_all, List.length_cons, List.length_nil, Int.reduceToNat, Int.reducePow, Nat.reducePow]) | (refine wk_intro (by kernel_rfl) ?_) | (refine vp_draw (id := 1) (l := []) (by kernel_rfl) ?_) | (refine vf_of (by first | exact hN | exact hA) ?_))
theorem ref2_Cmp {v w : SV} {q r : Rat} {L M : Nat} (hv : RatA v q L) (hw : RatA w r M) (hL : 1 ≤ L) (hM : 1 ≤ M) (h : L + M ≤ 8388608) : Go.Ev.Fn CX 18 [v, w] (.int .i64 (cmpR q r)) := by
  have hs := ref2_Sub hv hw hL hM h
  have hz := szR_sub (szR_of hv hL) (szR_of hw hM) hL
  obtain ⟨s, n, d, rfl, -⟩ := hv
  obtain ⟨s', n', d', rfl, -⟩ := hw
  obtain ⟨y1, -⟩ := hz
  refine Go.Ev.Fn.intro (fn := Tryz.f18) (body := (Tryz.f18).body.get!) (by kernel_rfl) (by kernel_rfl) (by kernel_rfl) (fun _ => rfl) (Nat.le_of_ble_eq_true (by kernel_rfl)) ?_; unfold Tryz.f18; simp only [Option.get!_some]
  by_cases h2 : q = r
  · have e2 : (lim (q - r).num.natAbs).length = 0 := by rw [sub_zero'.2 h2]; simp [lim_zero]
    have h1 : ¬ q < r := by grind
    rw [show cmpR q r = 0 by unfold cmpR; rw [if_neg h1, if_pos h2]]
    repeat (first | (simp only [go_sem, Nat.reduceEqDiff, Nat.reduceAdd, Nat.reduceSub, Nat.reduceMul, Nat.reduceLeDiff, Nat.reduceLT, reduceIte, reduceCtorEq, Nat.succ_ne_zero, elemsC, Int.reduceToNat, Nat.reducePow]) | (simp (disch := (first | omega | (simp only [AL, List.length_map]; omega))) only [AR, AL, ifT, ifF, take_all, List.length_cons, List.length_nil, Int.reduceToNat, Int.reducePow, Nat.reducePow]) | (refine wk_intro (by kernel_rfl) ?_) | (refine vf_of (by first | exact hs) ?_))
  · have e2 := lim_pos (N := (q - r).num.natAbs) (fun h => h2 (sub_zero'.1 (by omega)))
    by_cases h1 : q < r
    · have e : decide ((q - r).num < 0) = true := decide_eq_true (sub_num.2 h1)
      rw [show cmpR q r = -1 from if_pos h1]
      repeat (first | (simp only [go_sem, Nat.reduceEqDiff, Nat.reduceAdd, Nat.reduceSub, Nat.reduceMul, Nat.reduceLeDiff, Nat.reduceLT, reduceIte, reduceCtorEq, Nat.succ_ne_zero, elemsC, Int.reduceToNat, Nat.reducePow, e]) | (simp (disch := (first | omega | (simp only [AL, List.length_map]; omega))) only [AR, AL, ifT, ifF, take_all, List.length_cons, List.length_nil, Int.reduceToNat, Int.reducePow, Nat.reducePow, e]) | (refine wk_intro (by kernel_rfl) ?_) | (refine vf_of (by first | exact hs) ?_))
    · have e : decide ((q - r).num < 0) = false := decide_eq_false (fun h => h1 (sub_num.1 h))
      rw [show cmpR q r = 1 by unfold cmpR; rw [if_neg h1, if_neg h2]]
      repeat (first | (simp only [go_sem, Nat.reduceEqDiff, Nat.reduceAdd, Nat.reduceSub, Nat.reduceMul, Nat.reduceLeDiff, Nat.reduceLT, reduceIte, reduceCtorEq, Nat.succ_ne_zero, elemsC, Int.reduceToNat, Nat.reducePow, e]) | (simp (disch := (first | omega | (simp only [AL, List.length_map]; omega))) only [AR, AL, ifT, ifF, take_all, List.length_cons, List.length_nil, Int.reduceToNat, Int.reducePow, Nat.reducePow, e]) | (refine wk_intro (by kernel_rfl) ?_) | (refine vf_of (by first | exact hs) ?_))
theorem cmpR_gt {q r : Rat} : decide (cmpR q r > 0) = decide (r < q) := by
  unfold cmpR
  by_cases h1 : q < r
  · rw [if_pos h1, decide_eq_false (by decide), decide_eq_false (by grind)]
  · rw [if_neg h1]
    by_cases h2 : q = r
    · rw [if_pos h2, decide_eq_false (by decide), decide_eq_false (by grind)]
    · rw [if_neg h2, decide_eq_true (by decide), decide_eq_true (by grind)]
theorem cmpR_lt {q r : Rat} : decide (cmpR q r < 0) = decide (q < r) := by
  unfold cmpR
  by_cases h1 : q < r
  · rw [if_pos h1, decide_eq_true (by decide), decide_eq_true h1]
  · rw [if_neg h1, decide_eq_false h1]
    by_cases h2 : q = r
    · rw [if_pos h2, decide_eq_false (by decide)]
    · rw [if_neg h2, decide_eq_false (by decide)]
theorem cmpR_ge {q r : Rat} : decide (cmpR q r ≥ 0) = decide (r ≤ q) := by
  unfold cmpR
  by_cases h1 : q < r
  · rw [if_pos h1, decide_eq_false (by decide), decide_eq_false (by grind)]
  · rw [if_neg h1, decide_eq_true (show r ≤ q by grind)]
    by_cases h2 : q = r
    · rw [if_pos h2, decide_eq_true (by decide)]
    · rw [if_neg h2, decide_eq_true (by decide)]
theorem cmpR_le {q r : Rat} : decide (cmpR q r ≤ 0) = decide (q ≤ r) := by
  unfold cmpR
  by_cases h1 : q < r
  · rw [if_pos h1, decide_eq_true (by decide), decide_eq_true (show q ≤ r by grind)]
  · rw [if_neg h1]
    by_cases h2 : q = r
    · rw [if_pos h2, decide_eq_true (by decide), decide_eq_true (show q ≤ r by grind)]
    · rw [if_neg h2, decide_eq_false (by decide), decide_eq_false (show ¬ q ≤ r by grind)]
theorem b_and64i {a b : Nat} (ha : a < 9223372036854775808) (hb : b < 9223372036854775808) : bitsSV .and .i64 (a : Int) (b : Int) = some (.int .i64 ((a &&& b : Nat) : Int)) := by
  have h : a &&& b < 2 ^ 63 := Nat.lt_of_le_of_lt Nat.and_le_left ha
  have e : IntKind.i64.wrap ((BitVec.ofInt IntKind.i64.bits (a : Int) &&& BitVec.ofInt IntKind.i64.bits (b : Int)).toNat : Int) = ((a &&& b : Nat) : Int) := by
    show IntKind.i64.wrap ((BitVec.ofInt 64 (a : Int) &&& BitVec.ofInt 64 (b : Int)).toNat : Int) = _
    rw [ofInt_nat, ofInt_nat, BitVec.toNat_and, BitVec.toNat_ofNat, BitVec.toNat_ofNat, Nat.mod_eq_of_lt (show a < 2 ^ 64 by omega), Nat.mod_eq_of_lt (show b < 2 ^ 64 by omega), wI64 (by omega)]
  show some (SV.int _ _) = _
  rw [e]
theorem and_one64 {a : Nat} (ha : a < 9223372036854775808) : bitsSV .and .i64 (a : Int) 1 = some (.int .i64 ((a % 2 : Nat) : Int)) := by
  have := b_and64i ha (b := 1) (by omega)
  rw [and_one] at this
  exact this
theorem lim_len1 : (lim 1).length ≤ 1 := lim_len_one (by decide)
end Go.Proofs.YtecjelnpmcnbaaaGreat
namespace Go.Proofs.YtecjelnpmcnbaaaGreat
open Go.Ev
abbrev p2 (w : Nat) : Rat := ((2 ^ w : Nat) : Rat)
theorem p2_pos (w : Nat) : 0 < p2 w := by
  have : 0 < 2 ^ w := Nat.pow_pos (by omega)
  exact_mod_cast this
def Enc (w a b : Nat) (q : Rat) : Prop := (a : Rat) ≤ q * p2 w ∧ q * p2 w ≤ (b : Rat)
theorem floor_le {a d : Nat} : ((a / d : Nat) : Rat) * (d : Rat) ≤ (a : Rat) := by
  have := Nat.div_mul_le_self a d
  exact_mod_cast this
theorem le_floor {a d : Nat} (hd : 0 < d) : (a : Rat) ≤ ((a / d + 1 : Nat) : Rat) * (d : Rat) := by
  have h2 : a ≤ (a / d + 1) * d := by
    have := Nat.div_add_mod a d
    have h3 := Nat.mod_lt a hd
    rw [Nat.add_mul, Nat.one_mul, Nat.mul_comm]
    omega
  exact_mod_cast h2
theorem enc_add {w a b c d : Nat} {q r : Rat} (h1 : Enc w a b q) (h2 : Enc w c d r) : Enc w (a + c) (b + d) (q + r) := by
  obtain ⟨x1, x2⟩ := h1
  obtain ⟨y1, y2⟩ := h2
  have e1 : ((a + c : Nat) : Rat) = (a : Rat) + (c : Rat) := by exact_mod_cast rfl
  have e2 : ((b + d : Nat) : Rat) = (b : Rat) + (d : Rat) := by exact_mod_cast rfl
  unfold Enc
  rw [e1, e2]
  constructor <;> grind
theorem enc_nonneg {w a b : Nat} {q : Rat} (h : Enc w a b q) : 0 ≤ q := by
  have h0 : (0 : Rat) ≤ (a : Rat) := by exact_mod_cast Nat.zero_le a
  have h1 : 0 ≤ q * p2 w := Rat.le_trans h0 h.1
  rcases Rat.le_total (a := 0) (b := q) with h2 | h2
  · exact h2
  · by_cases e : q = 0
    · rw [e]; exact Rat.le_refl
    · have : q * p2 w < 0 := by
        have h3 : 0 < (-q) * p2 w := Rat.mul_pos (by grind) (p2_pos w)
        grind
      grind
theorem le_by {x y c : Rat} (hc : 0 < c) (h : x * c ≤ y * c) : x ≤ y := by
  rcases Rat.le_total (a := x) (b := y) with h1 | h1
  · exact h1
  · have h2 := Rat.mul_le_mul_of_nonneg_right h1 (by grind : (0 : Rat) ≤ c)
    have h3 : (x - y) * c = 0 := by grind
    rcases Rat.mul_eq_zero.1 h3 with h4 | h4 <;> grind
theorem mul_le {a b c d : Rat} (h1 : a ≤ b) (h2 : c ≤ d) (hb : 0 ≤ b) (hc : 0 ≤ c) : a * c ≤ b * d :=
  Rat.le_trans (Rat.mul_le_mul_of_nonneg_right h1 hc) (Rat.mul_le_mul_of_nonneg_left h2 hb)
theorem nat_nonneg (a : Nat) : (0 : Rat) ≤ (a : Rat) := by exact_mod_cast Nat.zero_le a
theorem enc_mul {w a b c d : Nat} {q r : Rat} (h1 : Enc w a b q) (h2 : Enc w c d r) : Enc w (a * c / 2 ^ w) (b * d / 2 ^ w + 1) (q * r) := by
  have hq := enc_nonneg h1
  have P := p2_pos w
  obtain ⟨x1, x2⟩ := h1
  have hr := enc_nonneg h2
  obtain ⟨y1, y2⟩ := h2
  have f := floor_le (a := a * c) (d := 2 ^ w)
  have g := le_floor (a := b * d) (d := 2 ^ w) (Nat.pow_pos (by omega))
  have e1 : ((a * c : Nat) : Rat) = (a : Rat) * (c : Rat) := by exact_mod_cast rfl
  have e2 : ((b * d : Nat) : Rat) = (b : Rat) * (d : Rat) := by exact_mod_cast rfl
  have m1 := mul_le x1 y1 (Rat.le_trans (nat_nonneg a) x1) (nat_nonneg c)
  have m2 := mul_le x2 y2 (nat_nonneg b) (Rat.le_trans (nat_nonneg c) y1)
  refine ⟨le_by P ?_, le_by P ?_⟩
  · rw [e1] at f
    show ((a * c / 2 ^ w : Nat) : Rat) * p2 w ≤ _
    have : q * r * p2 w * p2 w = q * p2 w * (r * p2 w) := by grind
    rw [this]
    exact Rat.le_trans f m1
  · rw [e2] at g
    have : q * r * p2 w * p2 w = q * p2 w * (r * p2 w) := by grind
    rw [this]
    exact Rat.le_trans m2 g
theorem enc_times {w a b n d : Nat} {q : Rat} (hd : 0 < d) (h : Enc w a b q) : Enc w (a * n / d) (b * n / d + 1) (q * (n : Rat) / (d : Rat)) := by
  obtain ⟨x1, x2⟩ := h
  have D : (0 : Rat) < (d : Rat) := by exact_mod_cast hd
  have Dn : (d : Rat) ≠ 0 := by grind
  have f := floor_le (a := a * n) (d := d)
  have g := le_floor (a := b * n) (d := d) hd
  have e1 : ((a * n : Nat) : Rat) = (a : Rat) * (n : Rat) := by exact_mod_cast rfl
  have e2 : ((b * n : Nat) : Rat) = (b : Rat) * (n : Rat) := by exact_mod_cast rfl
  have m1 := Rat.mul_le_mul_of_nonneg_right x1 (nat_nonneg n)
  have m2 := Rat.mul_le_mul_of_nonneg_right x2 (nat_nonneg n)
  have c : q * (n : Rat) / (d : Rat) * p2 w * (d : Rat) = q * p2 w * (n : Rat) := by
    have := Rat.div_mul_cancel (a := q * (n : Rat)) Dn
    have h2 : q * (n : Rat) / (d : Rat) * p2 w * (d : Rat) = q * (n : Rat) / (d : Rat) * (d : Rat) * p2 w := by grind
    rw [h2, this]
    grind
  refine ⟨le_by D ?_, le_by D ?_⟩
  · rw [e1] at f
    rw [c]
    exact Rat.le_trans f m1
  · rw [e2] at g
    rw [c]
    exact Rat.le_trans m2 g
end Go.Proofs.YtecjelnpmcnbaaaGreat
namespace Go.Ev
def pin {α : Type} (n : Nat) (f : Nat → α) : α := match n with
  | 0 => f 0
  | m + 1 => f (m + 1)
def angGo (w b1 b2 : Nat) : Nat → Nat → Nat → Nat → Nat → Nat → Option (Nat × Nat)
  | 0, _, _, _, _, _ => none
  | f + 1, k, t1, t2, a1, a2 => if t2 < 4 then some (a1, a2 + 8) else
    pin (t1 * b1 / 2 ^ w * (2 * k) / (2 * k + 1)) fun u1 => pin ((t2 * b2 / 2 ^ w + 1) * (2 * k) / (2 * k + 1) + 1) fun u2 =>
    pin (a1 + u1) fun c1 => pin (a2 + u2) fun c2 => pin (k + 1) fun k' => angGo w b1 b2 f k' u1 u2 c1 c2
def angF (n d w : Nat) : Option (Nat × Nat) :=
  pin (n * n * 2 ^ w / (n * n + d * d)) fun b1 => pin (n * d * 2 ^ w / (n * n + d * d)) fun t1 => angGo w b1 (b1 + 1) 1000 1 t1 (t1 + 1) t1 (t1 + 1)
def piF (w : Nat) : Option (Nat × Nat) := match angF 1 5 w, angF 1 239 w with
  | some (a1, a2), some (b1, b2) => some (a1 * 16 - (b2 * 4 + 1), (a2 * 16 + 1 - b1 * 4) + 1)
  | _, _ => none
def allFrom (f : Nat → Bool) : Nat → Nat → Bool
  | 0, _ => true
  | n + 1, k => f k && allFrom f n (k + 1)
def cdv (a b : Nat) : Nat := (a + b - 1) / b
def smGo (w s1 s2 : Nat) : Nat → Nat → Bool → Nat → Nat → Nat → Nat → Nat → Nat → Option (Nat × Nat × Nat × Nat)
  | 0, _, _, _, _, _, _, _, _ => none
  | f + 1, i, odd, t1, t2, a1, a2, b1, b2 =>
    pin (t1 * s1 / 2 ^ w) fun u1 => pin (cdv (t2 * s2) (2 ^ w)) fun u2 => pin (u1 / (2 * i + 1)) fun x1 => pin (cdv u2 (2 * i + 1)) fun x2 => pin (i + 1) fun i' =>
    match odd with
    | true => pin (b1 + x1) fun c1 => pin (b2 + x2) fun c2 => if u2 ≤ 2 then some (a1, a2, c1, c2) else smGo w s1 s2 f i' false u1 u2 a1 a2 c1 c2
    | false => pin (a1 + x1) fun c1 => pin (a2 + x2) fun c2 => if u2 ≤ 2 then some (c1, c2, b1, b2) else smGo w s1 s2 f i' true u1 u2 c1 c2 b1 b2
def smF (d w : Nat) : Option (Nat × Nat) := pin (2 ^ w / d) fun y1 => pin (cdv (2 ^ w) d) fun y2 => pin (y1 * y1 / 2 ^ w) fun s1 => pin (cdv (y2 * y2) (2 ^ w)) fun s2 =>
  match smGo w s1 s2 1000 1 true y1 y2 y1 y2 0 0 with
  | some (a1, a2, b1, b2) => if b2 + 4 ≤ a1 ∧ b1 ≤ a2 then some (a1 - b2 - 4, a2 - b1 + 4) else none
  | none => none
def piIv (w : Nat) : Option (Nat × Nat) := match smF 5 (w + 10), smF 239 (w + 10) with
  | some (a1, a2), some (b1, b2) => if b2 * 4 ≤ a1 * 16 ∧ b1 * 4 ≤ a2 * 16 then some ((a1 * 16 - b2 * 4) / 2 ^ 10, cdv (a2 * 16 - b1 * 4) (2 ^ 10)) else none
  | _, _ => none
end Go.Ev
namespace Go.Proofs.YtecjelnpmcnbaaaGreat
open Go.Ev
abbrev spanV (a b : Nat) : SV := .agg [natV (lim a), natV (lim b)]
theorem lim_len_shl {a n : Nat} : (lim (a * 2 ^ n)).length ≤ (lim a).length + n / 32 + 1 := by
  refine lim_len_lt ?_
  have h1 := lim_len_pow (a := a)
  have h2 : 2 ^ n ≤ 4294967296 ^ (n / 32 + 1) := by
    rw [show (4294967296 : Nat) = 2 ^ 32 from rfl, ← Nat.pow_mul]
    exact Nat.pow_le_pow_right (by omega) (by omega)
  calc a * 2 ^ n < 4294967296 ^ (lim a).length * 2 ^ n := Nat.mul_lt_mul_of_pos_right h1 (Nat.pow_pos (by omega))
    _ ≤ 4294967296 ^ (lim a).length * 4294967296 ^ (n / 32 + 1) := Nat.mul_le_mul_left _ h2
    _ = 4294967296 ^ ((lim a).length + n / 32 + 1) := by rw [← Nat.pow_add, Nat.add_assoc]
theorem fix_Over' {N D : Nat} (hD : D ≠ 0) (hl : (lim N).length ≤ 536870912) (hm : (lim D).length ≤ 536870912) : Go.Ev.Fn CX 164 [natV (lim N), natV (lim D)] (natV (lim (N / D))) := by
  have h := nat_DivL hD hl hm
  refine Go.Ev.Fn.intro (fn := Tryz.f164) (body := (Tryz.f164).body.get!) (by kernel_rfl) (by kernel_rfl) (by kernel_rfl) (fun _ => rfl) (Nat.le_of_ble_eq_true (by kernel_rfl)) ?_; unfold Tryz.f164; simp only [Option.get!_some]
  repeat (first | (simp only [go_sem, Nat.reduceEqDiff, Nat.reduceAdd, Nat.reduceSub, Nat.reduceMul, Nat.reduceLeDiff, Nat.reduceLT, reduceIte, reduceCtorEq, Nat.succ_ne_zero, elemsC, Int.reduceToNat, Nat.reducePow]) | (simp (disch := (first | omega | (simp only [AL, List.length_map]; omega))) only [AR, AL, ifT, ifF, take_all, List.length_cons, List.length_nil, Int.reduceToNat, Int.reducePow, Nat.reducePow]) | (refine wk_intro (by kernel_rfl) ?_) | (refine vf_of (by first | exact h) ?_))
theorem fix_One : Go.Ev.Fn CX 214 [] (natV (lim 1)) := by
  have o := nat_Of 1 (by omega)
  refine Go.Ev.Fn.intro (fn := Tryz.f214) (body := (Tryz.f214).body.get!) (by kernel_rfl) (by kernel_rfl) (by kernel_rfl) (fun _ => rfl) (Nat.le_of_ble_eq_true (by kernel_rfl)) ?_; unfold Tryz.f214; simp only [Option.get!_some]
  repeat (first | (simp only [go_sem, Nat.reduceEqDiff, Nat.reduceAdd, Nat.reduceSub, Nat.reduceMul, Nat.reduceLeDiff, Nat.reduceLT, reduceIte, reduceCtorEq, Nat.succ_ne_zero, elemsC, Int.reduceToNat, Nat.reducePow]) | (simp (disch := (first | omega | (simp only [AL, List.length_map]; omega))) only [AR, AL, ifT, ifF, take_all, List.length_cons, List.length_nil, Int.reduceToNat, Int.reducePow, Nat.reducePow]) | (refine wk_intro (by kernel_rfl) ?_) | (refine vf_of (by first | exact o) ?_))
theorem fix_Next {a : Nat} (h : (lim a).length ≤ 300000000) : Go.Ev.Fn CX 215 [natV (lim a)] (natV (lim (a + 1))) := by
  have o := fix_One
  have l := lim_len1
  have s := nat_AddL (N := a) (D := 1) (by omega) (by omega)
  refine Go.Ev.Fn.intro (fn := Tryz.f215) (body := (Tryz.f215).body.get!) (by kernel_rfl) (by kernel_rfl) (by kernel_rfl) (fun _ => rfl) (Nat.le_of_ble_eq_true (by kernel_rfl)) ?_; unfold Tryz.f215; simp only [Option.get!_some]
  repeat (first | (simp only [go_sem, Nat.reduceEqDiff, Nat.reduceAdd, Nat.reduceSub, Nat.reduceMul, Nat.reduceLeDiff, Nat.reduceLT, reduceIte, reduceCtorEq, Nat.succ_ne_zero, elemsC, Int.reduceToNat, Nat.reducePow]) | (simp (disch := (first | omega | (simp only [AL, List.length_map]; omega))) only [AR, AL, ifT, ifF, take_all, List.length_cons, List.length_nil, Int.reduceToNat, Int.reducePow, Nat.reducePow]) | (refine wk_intro (by kernel_rfl) ?_) | (refine vf_of (by first | exact o | exact s) ?_))
theorem fix_Add {a b c d : Nat} (h1 : (lim a).length ≤ 300000000) (h2 : (lim b).length ≤ 300000000) (h3 : (lim c).length ≤ 300000000) (h4 : (lim d).length ≤ 300000000) : Go.Ev.Fn CX 230 [spanV a b, spanV c d] (spanV (a + c) (b + d)) := by
  have s1 := nat_AddL (N := a) (D := c) (by omega) (by omega)
  have s2 := nat_AddL (N := b) (D := d) (by omega) (by omega)
  refine Go.Ev.Fn.intro (fn := Tryz.f230) (body := (Tryz.f230).body.get!) (by kernel_rfl) (by kernel_rfl) (by kernel_rfl) (fun _ => rfl) (Nat.le_of_ble_eq_true (by kernel_rfl)) ?_; unfold Tryz.f230; simp only [Option.get!_some]
  repeat (first | (simp only [go_sem, Nat.reduceEqDiff, Nat.reduceAdd, Nat.reduceSub, Nat.reduceMul, Nat.reduceLeDiff, Nat.reduceLT, reduceIte, reduceCtorEq, Nat.succ_ne_zero, elemsC, Int.reduceToNat, Nat.reducePow]) | (simp (disch := (first | omega | (simp only [AL, List.length_map]; omega))) only [AR, AL, ifT, ifF, take_all, List.length_cons, List.length_nil, Int.reduceToNat, Int.reducePow, Nat.reducePow]) | (refine wk_intro (by kernel_rfl) ?_) | (refine vp_draw (id := 1) (l := [6, 8, 11, 13]) (by kernel_rfl) ?_) | (refine vf_of (by first | exact s1 | exact s2) ?_))
theorem fix_Wider {a b n : Nat} (h1 : (lim a).length ≤ 300000000) (h2 : (lim b).length ≤ 300000000) (hn : n < 18446744073709551616) : Go.Ev.Fn CX 231 [spanV a b, .int .u64 (n : Int)] (spanV a (b + n)) := by
  have o := nat_Of n hn
  have l : (lim n).length ≤ 300000000 := Nat.le_trans (lim_len_lt (L := 2) (by omega)) (by omega)
  have s := nat_AddL (N := b) (D := n) (by omega) (by omega)
  refine Go.Ev.Fn.intro (fn := Tryz.f231) (body := (Tryz.f231).body.get!) (by kernel_rfl) (by kernel_rfl) (by kernel_rfl) (fun _ => rfl) (Nat.le_of_ble_eq_true (by kernel_rfl)) ?_; unfold Tryz.f231; simp only [Option.get!_some]
  repeat (first | (simp only [go_sem, Nat.reduceEqDiff, Nat.reduceAdd, Nat.reduceSub, Nat.reduceMul, Nat.reduceLeDiff, Nat.reduceLT, reduceIte, reduceCtorEq, Nat.succ_ne_zero, elemsC, Int.reduceToNat, Nat.reducePow]) | (simp (disch := (first | omega | (simp only [AL, List.length_map]; omega))) only [AR, AL, ifT, ifF, take_all, List.length_cons, List.length_nil, Int.reduceToNat, Int.reducePow, Nat.reducePow]) | (refine wk_intro (by kernel_rfl) ?_) | (refine vp_draw (id := 1) (l := [8, 10]) (by kernel_rfl) ?_) | (refine vf_of (by first | exact o | exact s) ?_))
theorem fix_Times {a b n d : Nat} (h1 : (lim a).length ≤ 100000000) (h2 : (lim b).length ≤ 100000000) (h3 : (lim n).length ≤ 100000000) (h4 : (lim d).length ≤ 100000000) (hd : d ≠ 0) : Go.Ev.Fn CX 226 [spanV a b, natV (lim n), natV (lim d)] (spanV (a * n / d) (b * n / d + 1)) := by
  have m1 := nat_MulL (N := a) (D := n) (by omega) (by omega)
  have m2 := nat_MulL (N := b) (D := n) (by omega) (by omega)
  have l1 := lim_len_mul (a := a) (b := n)
  have l2 := lim_len_mul (a := b) (b := n)
  have o1 := fix_Over' (N := a * n) (D := d) hd (by omega) (by omega)
  have o2 := fix_Over' (N := b * n) (D := d) hd (by omega) (by omega)
  have l3 := lim_len_mono (Nat.div_le_self (b * n) d)
  have n1 := fix_Next (a := b * n / d) (by omega)
  generalize a * n / d = x at *
  generalize b * n / d = y at *
  generalize a * n = u at *
  generalize b * n = v at *
  refine Go.Ev.Fn.intro (fn := Tryz.f226) (body := (Tryz.f226).body.get!) (by kernel_rfl) (by kernel_rfl) (by kernel_rfl) (fun _ => rfl) (Nat.le_of_ble_eq_true (by kernel_rfl)) ?_; unfold Tryz.f226; simp only [Option.get!_some]
  repeat (first | (simp only [go_sem, Nat.reduceEqDiff, Nat.reduceAdd, Nat.reduceSub, Nat.reduceMul, Nat.reduceLeDiff, Nat.reduceLT, reduceIte, reduceCtorEq, Nat.succ_ne_zero, elemsC, Int.reduceToNat, Nat.reducePow]) | (simp (disch := (first | omega | (simp only [AL, List.length_map]; omega))) only [AR, AL, ifT, ifF, take_all, List.length_cons, List.length_nil, Int.reduceToNat, Int.reducePow, Nat.reducePow]) | (refine wk_intro (by kernel_rfl) ?_) | (refine vp_draw (id := 1) (l := [8, 1, 10, 2, 14, 1, 16, 2, 18]) (by kernel_rfl) ?_) | (refine vf_of (by first | exact m1 | exact o1 | exact m2 | exact o2 | exact n1) ?_))
theorem fix_Less' {N D : Nat} (hl : (lim N).length ≤ 536870912) (hm : (lim D).length ≤ 536870912) : Go.Ev.Fn CX 163 [natV (lim N), natV (lim D)] (natV (lim (N - D))) := by
  have h := nat_SubL hl hm
  refine Go.Ev.Fn.intro (fn := Tryz.f163) (body := (Tryz.f163).body.get!) (by kernel_rfl) (by kernel_rfl) (by kernel_rfl) (fun _ => rfl) (Nat.le_of_ble_eq_true (by kernel_rfl)) ?_; unfold Tryz.f163; simp only [Option.get!_some]
  repeat (first | (simp only [go_sem, Nat.reduceEqDiff, Nat.reduceAdd, Nat.reduceSub, Nat.reduceMul, Nat.reduceLeDiff, Nat.reduceLT, reduceIte, reduceCtorEq, Nat.succ_ne_zero, elemsC, Int.reduceToNat, Nat.reducePow]) | (simp (disch := (first | omega | (simp only [AL, List.length_map]; omega))) only [AR, AL, ifT, ifF, take_all, List.length_cons, List.length_nil, Int.reduceToNat, Int.reducePow, Nat.reducePow]) | (refine wk_intro (by kernel_rfl) ?_) | (refine vf_of (by first | exact h) ?_))
theorem fix_Sub {a b c d : Nat} (h1 : (lim a).length ≤ 100000000) (h2 : (lim b).length ≤ 100000000) (h3 : (lim c).length ≤ 100000000) (h4 : (lim d).length ≤ 100000000) : Go.Ev.Fn CX 247 [spanV a b, spanV c d] (spanV (a - d) (b - c + 1)) := by
  have m1 := fix_Less' (N := a) (D := d) (by omega) (by omega)
  have m2 := fix_Less' (N := b) (D := c) (by omega) (by omega)
  have l := lim_len_mono (Nat.sub_le b c)
  have n1 := fix_Next (a := b - c) (by omega)
  generalize a - d = x at *
  generalize b - c = y at *
  refine Go.Ev.Fn.intro (fn := Tryz.f247) (body := (Tryz.f247).body.get!) (by kernel_rfl) (by kernel_rfl) (by kernel_rfl) (fun _ => rfl) (Nat.le_of_ble_eq_true (by kernel_rfl)) ?_; unfold Tryz.f247; simp only [Option.get!_some]
  repeat (first | (simp only [go_sem, Nat.reduceEqDiff, Nat.reduceAdd, Nat.reduceSub, Nat.reduceMul, Nat.reduceLeDiff, Nat.reduceLT, reduceIte, reduceCtorEq, Nat.succ_ne_zero, elemsC, Int.reduceToNat, Nat.reducePow]) | (simp (disch := (first | omega | (simp only [AL, List.length_map]; omega))) only [AR, AL, ifT, ifF, take_all, List.length_cons, List.length_nil, Int.reduceToNat, Int.reducePow, Nat.reducePow]) | (refine wk_intro (by kernel_rfl) ?_) | (refine vp_draw (id := 1) (l := [6, 8, 11, 13, 14]) (by kernel_rfl) ?_) | (refine vf_of (by first | exact m1 | exact m2 | exact n1) ?_))
end Go.Proofs.YtecjelnpmcnbaaaGreat
namespace Go.Proofs.YtecjelnpmcnbaaaGreat
open Go.Ev
theorem pin_eq {α : Type} (n : Nat) (f : Nat → α) : pin n f = f n := by cases n <;> rfl
theorem lim_len_p2 {n w : Nat} (h : n ≤ 2 ^ w) (hw : w ≤ 1000) : (lim n).length ≤ 40 := by
  have l := lim_len_shl (a := 1) (n := w)
  have l1 := lim_len1
  rw [Nat.one_mul] at l
  have := lim_len_mono h
  omega
theorem sqrt_ex (a : Nat) : ∃ r, r * r ≤ a ∧ a < (r + 1) * (r + 1) := by
  induction a with
  | zero => exact ⟨0, by omega, by omega⟩
  | succ a ih =>
    obtain ⟨r, h1, h2⟩ := ih
    by_cases h : (r + 1) * (r + 1) ≤ a + 1
    · refine ⟨r + 1, h, ?_⟩
      have : (r + 1 + 1) * (r + 1 + 1) = (r + 1) * (r + 1) + (r + 1) + (r + 2) := by
        rw [Nat.add_mul, Nat.mul_add]; omega
      omega
    · exact ⟨r, by omega, by omega⟩
noncomputable def rtN (a : Nat) : Nat := (sqrt_ex a).choose
theorem rtN_le (a : Nat) : rtN a * rtN a ≤ a := (sqrt_ex a).choose_spec.1
theorem lt_rtN (a : Nat) : a < (rtN a + 1) * (rtN a + 1) := (sqrt_ex a).choose_spec.2
theorem rtN_eq {a r : Nat} (h1 : r * r ≤ a) (h2 : a < (r + 1) * (r + 1)) : r = rtN a := by
  have h3 := rtN_le a
  have h4 := lt_rtN a
  rcases Nat.lt_trichotomy r (rtN a) with h | h | h
  · have := Nat.mul_le_mul (show r + 1 ≤ rtN a from h) (show r + 1 ≤ rtN a from h)
    omega
  · exact h
  · have := Nat.mul_le_mul (show rtN a + 1 ≤ r from h) (show rtN a + 1 ≤ r from h)
    omega
theorem rtN_self (a : Nat) : rtN a ≤ a := by
  have := rtN_le a
  rcases Nat.eq_zero_or_pos (rtN a) with h | h
  · omega
  · have := Nat.le_mul_of_pos_left (rtN a) h
    omega
end Go.Proofs.YtecjelnpmcnbaaaGreat
namespace Go.Proofs.YtecjelnpmcnbaaaGreat
open Go.Ev
def rowGo (w y1 y2 a b : Nat) : Nat → Nat → Nat → Nat → Nat → Nat → Option (Nat × Nat × Nat)
  | 0, _, _, _, _, _ => none
  | f + 1, k, t1, t2, a1, a2 => if b ≤ k ∧ t2 < 8 then some (a1, a2 + 64, k) else
    rowGo w y1 y2 a b f (k + 1) (t1 * y1 / 2 ^ w * (a + b + 2 * k) / (a + 2 + 2 * k)) ((t2 * y2 / 2 ^ w + 1) * (a + b + 2 * k) / (a + 2 + 2 * k) + 1)
      (a1 + t1 * y1 / 2 ^ w * (a + b + 2 * k) / (a + 2 + 2 * k)) (a2 + ((t2 * y2 / 2 ^ w + 1) * (a + b + 2 * k) / (a + 2 + 2 * k) + 1))
section
variable {P y1 y2 t1 t2 n m : Nat}
theorem up_half (hP : 200 ≤ P) (hy : 2 * y2 ≤ P + 2) : 100 * (t2 * y2 / P) ≤ 51 * t2 := by
  have h1 := Nat.div_mul_le_self (t2 * y2) P
  have h2 := Nat.mul_le_mul_left t2 hy
  have h3 : t2 * 200 ≤ t2 * P := Nat.mul_le_mul_left _ hP
  have h4 : 100 * (t2 * y2 / P) * P ≤ 51 * t2 * P := by
    have e1 : 100 * (t2 * y2 / P) * P = 100 * (t2 * y2 / P * P) := by rw [Nat.mul_assoc]
    have e2 : t2 * (2 * y2) = 2 * (t2 * y2) := by rw [Nat.mul_left_comm]
    have e3 : t2 * (P + 2) = t2 * P + 2 * t2 := by rw [Nat.mul_add]; omega
    have e4 : 51 * t2 * P = 51 * (t2 * P) := by rw [Nat.mul_assoc]
    omega
  exact Nat.le_of_mul_le_mul_right h4 (by omega)
theorem quo_le {v n m c d : Nat} (hm : 0 < m) (h : d * n ≤ c * m) : d * (v * n / m) ≤ c * v := by
  have h1 := Nat.div_mul_le_self (v * n) m
  have h2 : d * (v * n / m) * m ≤ c * v * m := by
    have e1 : d * (v * n / m) * m = d * (v * n / m * m) := by rw [Nat.mul_assoc]
    have e2 : d * (v * n) = v * (d * n) := by rw [Nat.mul_left_comm]
    have e3 : c * v * m = v * (c * m) := by rw [Nat.mul_assoc, Nat.mul_left_comm]
    have h3 := Nat.mul_le_mul_left v h
    have h4 := Nat.mul_le_mul_left d h1
    omega
  exact Nat.le_of_mul_le_mul_right h2 hm
theorem quo_sub {v1 v2 n m : Nat} (h : v1 ≤ v2) (hm : 0 < m) : v2 * n / m ≤ v1 * n / m + (v2 - v1) * n / m + 1 := by
  have h1 := Nat.div_add_mod (v1 * n) m
  have h2 := Nat.div_add_mod ((v2 - v1) * n) m
  have m1 := Nat.mod_lt (v1 * n) hm
  have m2 := Nat.mod_lt ((v2 - v1) * n) hm
  have e : v2 * n = v1 * n + (v2 - v1) * n := by rw [← Nat.add_mul]; congr 1; omega
  have h3 : v2 * n < (v1 * n / m + (v2 - v1) * n / m + 2) * m := by
    rw [Nat.add_mul, Nat.add_mul, Nat.mul_comm _ m, Nat.mul_comm _ m]
    omega
  have := (Nat.div_lt_iff_lt_mul hm).2 h3
  omega
end
section
variable {w y1 y2 a b : Nat}
theorem late_step {k t2 : Nat} (hP : 200 ≤ 2 ^ w) (hy : 2 * y2 ≤ 2 ^ w + 2) (ha : 1 ≤ a) (hb : b ≤ 20) (hk : 200 ≤ k) (ht : 8 ≤ t2) : 5 * ((t2 * y2 / 2 ^ w + 1) * (a + b + 2 * k) / (a + 2 + 2 * k) + 1) ≤ 4 * t2 := by
  have h1 := up_half (t2 := t2) hP hy
  have h2 := quo_le (v := t2 * y2 / 2 ^ w + 1) (n := a + b + 2 * k) (m := a + 2 + 2 * k) (c := 21) (d := 20) (by omega) (by omega)
  omega
theorem row_late (hP : 200 ≤ 2 ^ w) (hy : 2 * y2 ≤ 2 ^ w + 2) (ha : 1 ≤ a) (hb : b ≤ 20) : ∀ (f k t1 t2 a1 a2 : Nat), 200 ≤ k → 4 ^ f * t2 < 8 * 5 ^ f → ∃ A B K, rowGo w y1 y2 a b (f + 1) k t1 t2 a1 a2 = some (A, B, K) ∧ K ≤ k + f := by
  intro f
  induction f with
  | zero =>
    intro k t1 t2 a1 a2 hk h
    refine ⟨a1, a2 + 64, k, ?_, by omega⟩
    rw [rowGo, if_pos ⟨by omega, by omega⟩]
  | succ f ih =>
    intro k t1 t2 a1 a2 hk h
    rw [rowGo]
    by_cases hs : b ≤ k ∧ t2 < 8
    · rw [if_pos hs]
      exact ⟨_, _, _, rfl, by omega⟩
    · rw [if_neg hs]
      have h1 := late_step (k := k) (t2 := t2) hP hy ha hb hk (by omega)
      obtain ⟨A, B, K, g1, g2⟩ := ih (k + 1) (t1 * y1 / 2 ^ w * (a + b + 2 * k) / (a + 2 + 2 * k)) ((t2 * y2 / 2 ^ w + 1) * (a + b + 2 * k) / (a + 2 + 2 * k) + 1) (a1 + t1 * y1 / 2 ^ w * (a + b + 2 * k) / (a + 2 + 2 * k)) (a2 + ((t2 * y2 / 2 ^ w + 1) * (a + b + 2 * k) / (a + 2 + 2 * k) + 1)) (by omega) (by
        rw [Nat.pow_succ, Nat.pow_succ] at h
        generalize (t2 * y2 / 2 ^ w + 1) * (a + b + 2 * k) / (a + 2 + 2 * k) + 1 = u at *
        have h2 := Nat.mul_le_mul_left (4 ^ f) h1
        have e1 : 4 ^ f * (5 * u) = 5 * (4 ^ f * u) := Nat.mul_left_comm _ _ _
        have e2 : 4 ^ f * (4 * t2) = 4 ^ f * 4 * t2 := by rw [Nat.mul_assoc]
        omega)
      exact ⟨A, B, K, g1, by omega⟩
theorem early_up {k t2 T : Nat} (hP : 200 ≤ 2 ^ w) (hy : 2 * y2 ≤ 2 ^ w + 2) (ha : 1 ≤ a) (hb : b ≤ 20) (ht : t2 ≤ T) (hT : 100 ≤ T) : (t2 * y2 / 2 ^ w + 1) * (a + b + 2 * k) / (a + 2 + 2 * k) + 1 ≤ 4 * T := by
  have h1 := up_half (t2 := t2) hP hy
  have h2 := quo_le (v := t2 * y2 / 2 ^ w + 1) (n := a + b + 2 * k) (m := a + 2 + 2 * k) (c := 7) (d := 1) (by omega) (by omega)
  omega
theorem mid_up {k t2 T : Nat} (hP : 200 ≤ 2 ^ w) (hy : 2 * y2 ≤ 2 ^ w + 2) (ha : 1 ≤ a) (hk : b ≤ k) (ht : t2 ≤ T) (hT : 100 ≤ T) : (t2 * y2 / 2 ^ w + 1) * (a + b + 2 * k) / (a + 2 + 2 * k) + 1 ≤ T := by
  have h1 := up_half (t2 := t2) hP hy
  have h2 := quo_le (v := t2 * y2 / 2 ^ w + 1) (n := a + b + 2 * k) (m := a + 2 + 2 * k) (c := 3) (d := 2) (by omega) (by omega)
  omega
theorem gap_step {k t1 t2 C : Nat} (hP : 200 ≤ 2 ^ w) (hy12 : y2 = y1 + 1) (hy1 : 2 * y1 ≤ 2 ^ w) (ht : t1 ≤ t2) (hC : t2 ≤ C * 2 ^ w) : t2 * y2 / 2 ^ w + 1 ≤ t1 * y1 / 2 ^ w + ((t2 - t1) / 2 + C + 4) := by
  subst hy12
  generalize 2 ^ w = P at *
  have e : t2 * (y1 + 1) = t1 * y1 + ((t2 - t1) * y1 + t2) := by
    have : t2 * y1 = t1 * y1 + (t2 - t1) * y1 := by rw [← Nat.add_mul]; congr 1; omega
    rw [Nat.mul_add]; omega
  have d1 := Nat.div_add_mod (t1 * y1) P
  have d2 := Nat.mod_lt (t1 * y1) (show 0 < P by omega)
  have h1 : (t2 - t1) * y1 ≤ ((t2 - t1) / 2 + 1) * P := by
    have h3 := Nat.mul_le_mul (show t2 - t1 ≤ 2 * ((t2 - t1) / 2 + 1) by omega) (Nat.le_refl y1)
    have h4 := Nat.mul_le_mul_left ((t2 - t1) / 2 + 1) hy1
    have e5 : 2 * ((t2 - t1) / 2 + 1) * y1 = ((t2 - t1) / 2 + 1) * (2 * y1) := by rw [Nat.mul_comm 2, Nat.mul_assoc]
    omega
  have h2 : t2 * (y1 + 1) < (t1 * y1 / P + ((t2 - t1) / 2 + C + 3)) * P := by
    have e6 : (t1 * y1 / P + ((t2 - t1) / 2 + C + 3)) * P = P * (t1 * y1 / P) + ((t2 - t1) / 2 + 1) * P + C * P + 2 * P := by
      have : (t2 - t1) / 2 + C + 3 = ((t2 - t1) / 2 + 1) + C + 2 := by omega
      rw [this]; simp only [Nat.add_mul]; rw [Nat.mul_comm _ P]; omega
    omega
  have := (Nat.div_lt_iff_lt_mul (show 0 < P by omega)).2 h2
  omega
theorem gap_quo {k v1 v2 D : Nat} (hv : v1 ≤ v2) (hm : 0 < a + 2 + 2 * k) {c d : Nat} (hd : 0 < d) (h : d * (a + b + 2 * k) ≤ c * (a + 2 + 2 * k)) (hD : v2 ≤ v1 + D) : d * (v2 * (a + b + 2 * k) / (a + 2 + 2 * k) + 1) ≤ d * (v1 * (a + b + 2 * k) / (a + 2 + 2 * k)) + c * D + 2 * d := by
  have h1 := quo_sub (n := a + b + 2 * k) (m := a + 2 + 2 * k) hv hm
  have h2 := quo_le (v := v2 - v1) hm h
  have h3 : c * (v2 - v1) ≤ c * D := Nat.mul_le_mul_left _ (by omega)
  generalize v2 * (a + b + 2 * k) / (a + 2 + 2 * k) = q2 at *
  generalize v1 * (a + b + 2 * k) / (a + 2 + 2 * k) = q1 at *
  generalize (v2 - v1) * (a + b + 2 * k) / (a + 2 + 2 * k) = q3 at *
  have h4 := Nat.mul_le_mul_left d h1
  have e1 : d * (q1 + q3 + 1) = d * q1 + d * q3 + d := by rw [Nat.mul_add, Nat.mul_add, Nat.mul_one]
  have e2 : d * (q2 + 1) = d * q2 + d := by rw [Nat.mul_add, Nat.mul_one]
  omega
def okT (w k t1 t2 a1 a2 T D : Nat) : Prop := t1 ≤ t2 ∧ a1 ≤ a2 ∧ t2 ≤ T ∧ t2 ≤ t1 + D ∧ a2 ≤ a1 + k * D + D ∧ a2 ≤ (k + 1) * T
theorem okT_early {k t1 t2 a1 a2 T D C : Nat} (hP : 200 ≤ 2 ^ w) (hy12 : y2 = y1 + 1) (hy1 : 2 * y1 ≤ 2 ^ w) (ha : 1 ≤ a) (hb : b ≤ 20) (hT : 100 ≤ T) (hC : T ≤ C * 2 ^ w) (hD : 14 * C + 62 ≤ D) (h : okT w k t1 t2 a1 a2 T D) :
    okT w (k + 1) (t1 * y1 / 2 ^ w * (a + b + 2 * k) / (a + 2 + 2 * k)) ((t2 * y2 / 2 ^ w + 1) * (a + b + 2 * k) / (a + 2 + 2 * k) + 1)
      (a1 + t1 * y1 / 2 ^ w * (a + b + 2 * k) / (a + 2 + 2 * k)) (a2 + ((t2 * y2 / 2 ^ w + 1) * (a + b + 2 * k) / (a + 2 + 2 * k) + 1)) (4 * T) (4 * D) := by
  obtain ⟨h1, h2, h3, h4, h5, h6⟩ := h
  have u := early_up (k := k) hP (show 2 * y2 ≤ 2 ^ w + 2 by omega) ha hb h3 hT
  have g := gap_step (k := k) hP hy12 hy1 h1 (Nat.le_trans h3 hC)
  have v12 : t1 * y1 / 2 ^ w ≤ t2 * y2 / 2 ^ w + 1 := Nat.le_succ_of_le (Nat.div_le_div_right (Nat.mul_le_mul h1 (by omega)))
  have q := gap_quo (a := a) (b := b) (k := k) (c := 7) (d := 1) v12 (by omega) (by omega) (by omega) g
  have q0 : t1 * y1 / 2 ^ w * (a + b + 2 * k) / (a + 2 + 2 * k) ≤ (t2 * y2 / 2 ^ w + 1) * (a + b + 2 * k) / (a + 2 + 2 * k) := Nat.div_le_div_right (Nat.mul_le_mul_right _ v12)
  generalize t1 * y1 / 2 ^ w * (a + b + 2 * k) / (a + 2 + 2 * k) = u1 at *
  generalize (t2 * y2 / 2 ^ w + 1) * (a + b + 2 * k) / (a + 2 + 2 * k) = u2 at *
  have e1 : (k + 1) * (4 * D) = 4 * (k * D) + 4 * D := by rw [Nat.add_mul, Nat.mul_left_comm]; omega
  have e2 : (k + 1 + 1) * (4 * T) = 4 * ((k + 1) * T) + 4 * T := by rw [Nat.add_mul, Nat.mul_left_comm]; omega
  have e3 : (k + 1) * T = k * T + T := by rw [Nat.add_mul]; omega
  refine ⟨?_, ?_, ?_, ?_, ?_, ?_⟩ <;> omega
theorem okT_mid {k t1 t2 a1 a2 T D C : Nat} (hP : 200 ≤ 2 ^ w) (hy12 : y2 = y1 + 1) (hy1 : 2 * y1 ≤ 2 ^ w) (ha : 1 ≤ a) (hk : b ≤ k) (hT : 100 ≤ T) (hC : T ≤ C * 2 ^ w) (hD : 14 * C + 62 ≤ D) (h : okT w k t1 t2 a1 a2 T D) :
    okT w (k + 1) (t1 * y1 / 2 ^ w * (a + b + 2 * k) / (a + 2 + 2 * k)) ((t2 * y2 / 2 ^ w + 1) * (a + b + 2 * k) / (a + 2 + 2 * k) + 1)
      (a1 + t1 * y1 / 2 ^ w * (a + b + 2 * k) / (a + 2 + 2 * k)) (a2 + ((t2 * y2 / 2 ^ w + 1) * (a + b + 2 * k) / (a + 2 + 2 * k) + 1)) T D := by
  obtain ⟨h1, h2, h3, h4, h5, h6⟩ := h
  have u := mid_up (k := k) hP (show 2 * y2 ≤ 2 ^ w + 2 by omega) ha hk h3 hT
  have g := gap_step (k := k) hP hy12 hy1 h1 (Nat.le_trans h3 hC)
  have v12 : t1 * y1 / 2 ^ w ≤ t2 * y2 / 2 ^ w + 1 := Nat.le_succ_of_le (Nat.div_le_div_right (Nat.mul_le_mul h1 (by omega)))
  have q := gap_quo (a := a) (b := b) (k := k) (c := 3) (d := 2) v12 (by omega) (by omega) (by omega) g
  have q0 : t1 * y1 / 2 ^ w * (a + b + 2 * k) / (a + 2 + 2 * k) ≤ (t2 * y2 / 2 ^ w + 1) * (a + b + 2 * k) / (a + 2 + 2 * k) := Nat.div_le_div_right (Nat.mul_le_mul_right _ v12)
  generalize t1 * y1 / 2 ^ w * (a + b + 2 * k) / (a + 2 + 2 * k) = u1 at *
  generalize (t2 * y2 / 2 ^ w + 1) * (a + b + 2 * k) / (a + 2 + 2 * k) = u2 at *
  have e1 : (k + 1) * D = k * D + D := by rw [Nat.add_mul]; omega
  have e2 : (k + 1 + 1) * T = (k + 1) * T + T := by rw [Nat.add_mul]; omega
  refine ⟨?_, ?_, ?_, ?_, ?_, ?_⟩ <;> omega
theorem row_mid {C T D : Nat} (hP : 200 ≤ 2 ^ w) (hy12 : y2 = y1 + 1) (hy1 : 2 * y1 ≤ 2 ^ w) (ha : 1 ≤ a) (hb : b ≤ 20) (hT : 100 ≤ T) (hC : T ≤ C * 2 ^ w) (hD : 14 * C + 62 ≤ D) {F : Nat} (hF : 4 ^ F * T < 8 * 5 ^ F) :
    ∀ (g k t1 t2 a1 a2 : Nat), b ≤ k → g + k = 200 → okT w k t1 t2 a1 a2 T D → ∃ A B K, rowGo w y1 y2 a b (g + F + 1) k t1 t2 a1 a2 = some (A, B, K) := by
  intro g
  induction g with
  | zero =>
    intro k t1 t2 a1 a2 hk hg h
    obtain ⟨A, B, K, e, -⟩ := row_late hP (show 2 * y2 ≤ 2 ^ w + 2 by omega) ha hb F k t1 t2 a1 a2 (by omega) (Nat.lt_of_le_of_lt (Nat.mul_le_mul_left _ h.2.2.1) hF)
    exact ⟨A, B, K, by rw [Nat.zero_add]; exact e⟩
  | succ g ih =>
    intro k t1 t2 a1 a2 hk hg h
    rw [show g + 1 + F + 1 = (g + F + 1) + 1 by omega, rowGo]
    by_cases hs : b ≤ k ∧ t2 < 8
    · rw [if_pos hs]; exact ⟨_, _, _, rfl⟩
    · rw [if_neg hs]
      exact ih _ _ _ _ _ (by omega) (by omega) (okT_mid hP hy12 hy1 ha hk hT hC hD h)
theorem row_early {C F : Nat} (hP : 200 ≤ 2 ^ w) (hy12 : y2 = y1 + 1) (hy1 : 2 * y1 ≤ 2 ^ w) (ha : 1 ≤ a) (hb : b ≤ 20) :
    ∀ (g k t1 t2 a1 a2 T D : Nat), k + g = b → 100 ≤ T → 4 ^ g * T ≤ C * 2 ^ w → 14 * C + 62 ≤ D → 4 ^ F * (4 ^ g * T) < 8 * 5 ^ F → okT w k t1 t2 a1 a2 T D → ∃ A B K, rowGo w y1 y2 a b (200 + F + 1 - k) k t1 t2 a1 a2 = some (A, B, K) := by
  intro g
  induction g with
  | zero =>
    intro k t1 t2 a1 a2 T D hk hT hC hD hF h
    rw [Nat.pow_zero, Nat.one_mul] at hC hF
    have := row_mid hP hy12 hy1 ha hb hT hC hD hF (200 - k) k t1 t2 a1 a2 (by omega) (by omega) h
    rw [show 200 - k + F + 1 = 200 + F + 1 - k by omega] at this
    exact this
  | succ g ih =>
    intro k t1 t2 a1 a2 T D hk hT hC hD hF h
    rw [show 200 + F + 1 - k = (200 + F + 1 - (k + 1)) + 1 by omega, rowGo, if_neg (by omega)]
    have hp : 1 ≤ 4 ^ (g + 1) := Nat.pow_pos (by omega)
    have hTC : T ≤ C * 2 ^ w := Nat.le_trans (Nat.le_mul_of_pos_left T hp) hC
    have hp2 : 4 ^ g * (4 * T) = 4 ^ (g + 1) * T := by rw [Nat.pow_succ, Nat.mul_assoc]
    exact ih (k + 1) _ _ _ _ (4 * T) (4 * D) (by omega) (by omega) (by rw [hp2]; exact hC) (by omega) (by rw [hp2]; exact hF) (okT_early hP hy12 hy1 ha hb hT hTC hD h)
end
end Go.Proofs.YtecjelnpmcnbaaaGreat
namespace Go.Proofs.YtecjelnpmcnbaaaGreat
open Go.Ev
section
variable {w y1 y2 a b T D C : Nat}
def okK (w b T D k t1 t2 a1 a2 : Nat) : Prop := okT w k t1 t2 a1 a2 (4 ^ min k b * T) (4 ^ min k b * D)
theorem four_le {k b T : Nat} : T ≤ 4 ^ min k b * T ∧ 4 ^ min k b * T ≤ 4 ^ b * T :=
  ⟨Nat.le_mul_of_pos_left T (Nat.pow_pos (by omega)), Nat.mul_le_mul_right T (Nat.pow_le_pow_right (by omega) (Nat.min_le_right k b))⟩
theorem okK_step {k t1 t2 a1 a2 : Nat} (hP : 200 ≤ 2 ^ w) (hy12 : y2 = y1 + 1) (hy1 : 2 * y1 ≤ 2 ^ w) (ha : 1 ≤ a) (hb : b ≤ 20) (hT : 100 ≤ T) (hC : 4 ^ b * T ≤ C * 2 ^ w) (hD : 14 * C + 62 ≤ D) (h : okK w b T D k t1 t2 a1 a2) :
    okK w b T D (k + 1) (t1 * y1 / 2 ^ w * (a + b + 2 * k) / (a + 2 + 2 * k)) ((t2 * y2 / 2 ^ w + 1) * (a + b + 2 * k) / (a + 2 + 2 * k) + 1)
      (a1 + t1 * y1 / 2 ^ w * (a + b + 2 * k) / (a + 2 + 2 * k)) (a2 + ((t2 * y2 / 2 ^ w + 1) * (a + b + 2 * k) / (a + 2 + 2 * k) + 1)) := by
  have f1 := four_le (k := k) (b := b) (T := T)
  have f2 := four_le (k := k) (b := b) (T := D)
  unfold okK at h ⊢
  by_cases hk : b ≤ k
  · rw [Nat.min_eq_right (show b ≤ k + 1 by omega)]
    rw [Nat.min_eq_right hk] at h f1 f2
    exact okT_mid hP hy12 hy1 ha hk (by omega) hC (by omega) h
  · rw [Nat.min_eq_left (show k + 1 ≤ b by omega), show 4 ^ (k + 1) * T = 4 * (4 ^ k * T) by rw [Nat.pow_succ, Nat.mul_comm (4 ^ k) 4, Nat.mul_assoc], show 4 ^ (k + 1) * D = 4 * (4 ^ k * D) by rw [Nat.pow_succ, Nat.mul_comm (4 ^ k) 4, Nat.mul_assoc]]
    rw [Nat.min_eq_left (show k ≤ b by omega)] at h f1 f2
    exact okT_early hP hy12 hy1 ha hb (by omega) (Nat.le_trans f1.2 hC) (by omega) h
theorem row_inv (hP : 200 ≤ 2 ^ w) (hy12 : y2 = y1 + 1) (hy1 : 2 * y1 ≤ 2 ^ w) (ha : 1 ≤ a) (hb : b ≤ 20) (hT : 100 ≤ T) (hC : 4 ^ b * T ≤ C * 2 ^ w) (hD : 14 * C + 62 ≤ D) :
    ∀ (f k t1 t2 a1 a2 : Nat) {A B K : Nat}, rowGo w y1 y2 a b f k t1 t2 a1 a2 = some (A, B, K) → okK w b T D k t1 t2 a1 a2 → K < k + f ∧ A ≤ B ∧ B ≤ A + (K + 1) * (4 ^ b * D) + 64 ∧ B ≤ (K + 1) * (4 ^ b * T) + 64 := by
  intro f
  induction f with
  | zero => intro k t1 t2 a1 a2 A B K h; simp only [rowGo] at h; cases h
  | succ f ih =>
    intro k t1 t2 a1 a2 A B K h ho
    rw [rowGo] at h
    by_cases hs : b ≤ k ∧ t2 < 8
    · rw [if_pos hs] at h
      simp only [Option.some.injEq, Prod.mk.injEq] at h
      obtain ⟨rfl, rfl, rfl⟩ := h
      obtain ⟨h1, h2, h3, h4, h5, h6⟩ := ho
      rw [Nat.min_eq_right hs.1] at h5 h6
      rw [Nat.add_mul, Nat.one_mul]
      rw [Nat.add_mul, Nat.one_mul] at h6
      rw [Nat.add_mul, Nat.one_mul]
      omega
    · rw [if_neg hs] at h
      have := ih _ _ _ _ _ h (okK_step hP hy12 hy1 ha hb hT hC hD ho)
      omega
def rR (x : Rat) (a b : Nat) : Nat → Rat
  | 0 => 1
  | k + 1 => rR x a b k * x * ((a + b + 2 * k : Nat) : Rat) / ((a + 2 + 2 * k : Nat) : Rat)
def sR (x : Rat) (a b : Nat) : Nat → Rat
  | 0 => 1
  | k + 1 => sR x a b k + rR x a b (k + 1)
theorem row_enc {x c : Rat} (hx : Enc w y1 y2 x) : ∀ (f k t1 t2 a1 a2 : Nat) {A B K : Nat}, rowGo w y1 y2 a b f k t1 t2 a1 a2 = some (A, B, K) → Enc w t1 t2 (c * rR x a b k) → Enc w a1 a2 (c * sR x a b k) →
    b ≤ K ∧ (A : Rat) ≤ c * sR x a b K * p2 w ∧ c * sR x a b K * p2 w + 64 ≤ (B : Rat) ∧ c * rR x a b K * p2 w ≤ 8 := by
  intro f
  induction f with
  | zero => intro k t1 t2 a1 a2 A B K h; simp only [rowGo] at h; cases h
  | succ f ih =>
    intro k t1 t2 a1 a2 A B K h ht ha
    rw [rowGo] at h
    by_cases hs : b ≤ k ∧ t2 < 8
    · rw [if_pos hs] at h
      simp only [Option.some.injEq, Prod.mk.injEq] at h
      obtain ⟨rfl, rfl, rfl⟩ := h
      refine ⟨hs.1, ha.1, ?_, ?_⟩
      · have h1 := ha.2
        have h2 : ((a2 + 64 : Nat) : Rat) = (a2 : Rat) + 64 := by exact_mod_cast rfl
        rw [h2]
        grind
      · have h1 := ht.2
        have h2 : (t2 : Rat) ≤ ((8 : Nat) : Rat) := (show ((t2 : Nat) : Rat) ≤ ((8 : Nat) : Rat) by exact_mod_cast (show t2 ≤ 8 by omega))
        exact Rat.le_trans h1 h2
    · rw [if_neg hs] at h
      have m := enc_times (n := a + b + 2 * k) (d := a + 2 + 2 * k) (by omega) (enc_mul ht hx)
      have e : c * rR x a b k * x * ((a + b + 2 * k : Nat) : Rat) / ((a + 2 + 2 * k : Nat) : Rat) = c * rR x a b (k + 1) := by
        show _ = c * (rR x a b k * x * ((a + b + 2 * k : Nat) : Rat) / ((a + 2 + 2 * k : Nat) : Rat))
        rw [Rat.div_def, Rat.div_def]
        grind
      rw [e] at m
      have s := enc_add ha m
      have e2 : c * sR x a b k + c * rR x a b (k + 1) = c * sR x a b (k + 1) := by
        show _ = c * (sR x a b k + rR x a b (k + 1))
        grind
      rw [e2] at s
      exact ih _ _ _ _ _ h m s
end
def pwR (q : Rat) : Nat → Rat
  | 0 => 1
  | n + 1 => pwR q n * q
theorem pwR_two (q : Rat) (n : Nat) : pwR (q * q) n = pwR q (2 * n) := by
  induction n with
  | zero => rfl
  | succ n ih =>
    show pwR (q * q) n * (q * q) = pwR q (2 * n) * q * q
    rw [ih]; grind
def powGo (w : Nat) : Nat → Nat → Nat → Nat → Nat → Nat → Nat × Nat
  | 0, _, l1, l2, _, _ => (l1, l2)
  | f + 1, n, l1, l2, a1, a2 => if n = 0 then (l1, l2) else
    if n % 2 = 1 then powGo w f (n / 2) (l1 * a1 / 2 ^ w) (l2 * a2 / 2 ^ w + 1) (a1 * a1 / 2 ^ w) (a2 * a2 / 2 ^ w + 1)
    else powGo w f (n / 2) l1 l2 (a1 * a1 / 2 ^ w) (a2 * a2 / 2 ^ w + 1)
theorem powGo_zero (w f l1 l2 a1 a2 : Nat) : powGo w f 0 l1 l2 a1 a2 = (l1, l2) := by cases f <;> rfl
theorem powGo_enc {w : Nat} : ∀ (f n l1 l2 a1 a2 : Nat) {p q : Rat}, n < 2 ^ f → Enc w l1 l2 p → Enc w a1 a2 q → Enc w (powGo w f n l1 l2 a1 a2).1 (powGo w f n l1 l2 a1 a2).2 (p * pwR q n) := by
  intro f
  induction f with
  | zero =>
    intro n l1 l2 a1 a2 p q hn hl ha
    obtain rfl : n = 0 := by omega
    rw [powGo_zero]
    show Enc w l1 l2 (p * 1)
    rw [Rat.mul_one]; exact hl
  | succ f ih =>
    intro n l1 l2 a1 a2 p q hn hl ha
    rw [Nat.pow_succ] at hn
    rw [powGo]
    by_cases h0 : n = 0
    · subst h0
      rw [if_pos rfl]
      show Enc w l1 l2 (p * 1)
      rw [Rat.mul_one]; exact hl
    · rw [if_neg h0]
      by_cases h1 : n % 2 = 1
      · rw [if_pos h1]
        have := ih (n / 2) _ _ _ _ (by omega) (enc_mul hl ha) (enc_mul ha ha)
        rw [pwR_two] at this
        have e : pwR q n = pwR q (2 * (n / 2)) * q := by
          conv => lhs; rw [show n = 2 * (n / 2) + 1 by omega]
          rfl
        rw [e]
        have e2 : p * q * pwR q (2 * (n / 2)) = p * (pwR q (2 * (n / 2)) * q) := by grind
        rw [e2] at this
        exact this
      · rw [if_neg h1]
        have := ih (n / 2) _ _ _ _ (by omega) hl (enc_mul ha ha)
        rw [pwR_two, show 2 * (n / 2) = n by omega] at this
        exact this
def okS (P a b e : Nat) : Prop := a ≤ b ∧ b ≤ a + e ∧ b ≤ P + e
theorem okS_mul {P a b c d e g : Nat} (hP : 1000000 ≤ P) (he : e ≤ 1000) (hg : g ≤ 1000) (h : okS P a b e) (h2 : okS P c d g) : okS P (a * c / P) (b * d / P + 1) (2 * (e + g) + 2) := by
  obtain ⟨h1, h3, h4⟩ := h
  obtain ⟨k1, k3, k4⟩ := h2
  have hP0 : 0 < P := by omega
  have m1 := Nat.mul_le_mul h1 k1
  refine ⟨Nat.le_succ_of_le (Nat.div_le_div_right m1), ?_, ?_⟩
  · -- the gap
    have d1 := Nat.div_add_mod (a * c) P
    have d2 := Nat.mod_lt (a * c) hP0
    have e1 : b * d ≤ a * c + (e * d + b * g) := by
      have x1 : b * d ≤ (a + e) * d := Nat.mul_le_mul_right d h3
      have x2 : a * d ≤ a * (c + g) := Nat.mul_le_mul_left a k3
      have x3 : a * g ≤ b * g := Nat.mul_le_mul_right g h1
      rw [Nat.add_mul] at x1
      rw [Nat.mul_add] at x2
      omega
    have e2 : e * d ≤ e * (2 * P) := Nat.mul_le_mul_left e (by omega)
    have e3 : b * g ≤ 2 * P * g := Nat.mul_le_mul_right g (by omega)
    have e4 : b * d < (a * c / P + (2 * (e + g) + 2)) * P := by
      have y1 : (a * c / P + (2 * (e + g) + 2)) * P = P * (a * c / P) + (e * (2 * P) + 2 * P * g + 2 * P) := by
        rw [Nat.add_mul, Nat.mul_comm _ P]
        congr 1
        grind
      omega
    have := (Nat.div_lt_iff_lt_mul hP0).2 e4
    omega
  · have e1 : b * d ≤ (P + e) * (P + g) := Nat.mul_le_mul h4 k4
    have e2 : (P + e) * (P + g) = P * P + (e + g) * P + e * g := by grind
    have e3 : e * g ≤ 1000 * 1000 := Nat.mul_le_mul he hg
    have e4 : b * d < (P + (e + g) + 2) * P := by
      have : (P + (e + g) + 2) * P = P * P + (e + g) * P + 2 * P := by rw [Nat.add_mul, Nat.add_mul]
      omega
    have := (Nat.div_lt_iff_lt_mul hP0).2 e4
    omega
theorem okS_mono {P a b e g : Nat} (h : okS P a b e) (hg : e ≤ g) : okS P a b g := ⟨h.1, Nat.le_trans h.2.1 (by omega), Nat.le_trans h.2.2 (by omega)⟩
theorem powGo_ok {w : Nat} (hP : 1000000 ≤ 2 ^ w) : ∀ (f n l1 l2 a1 a2 E : Nat), (E + 1) * 4 ^ f ≤ 512 → okS (2 ^ w) l1 l2 E → okS (2 ^ w) a1 a2 E → okS (2 ^ w) (powGo w f n l1 l2 a1 a2).1 (powGo w f n l1 l2 a1 a2).2 511 := by
  intro f
  induction f with
  | zero =>
    intro n l1 l2 a1 a2 E hE hl ha
    rw [Nat.pow_zero] at hE
    exact okS_mono hl (by omega)
  | succ f ih =>
    intro n l1 l2 a1 a2 E hE hl ha
    have hp : 1 ≤ 4 ^ f := Nat.pow_pos (by omega)
    rw [Nat.pow_succ] at hE
    have hE2 : (4 * E + 2 + 1) * 4 ^ f ≤ 512 := Nat.le_trans (Nat.mul_le_mul_right _ (show 4 * E + 2 + 1 ≤ (E + 1) * 4 by omega)) (by rw [Nat.mul_assoc, Nat.mul_comm 4]; exact hE)
    have hE1 : E ≤ 1000 := by
      have := Nat.le_mul_of_pos_right (E + 1) (show 0 < 4 ^ f * 4 by omega)
      omega
    have sq := okS_mul hP hE1 hE1 ha ha
    have ml := okS_mul hP hE1 hE1 hl ha
    rw [show 2 * (E + E) + 2 = 4 * E + 2 by omega] at sq ml
    rw [powGo]
    by_cases h0 : n = 0
    · rw [if_pos h0]
      exact okS_mono hl (by have := Nat.le_mul_of_pos_right (E + 1) (show 0 < 4 ^ f * 4 by omega); omega)
    · rw [if_neg h0]
      by_cases h1 : n % 2 = 1
      · rw [if_pos h1]
        exact ih _ _ _ _ _ _ hE2 ml sq
      · rw [if_neg h1]
        exact ih _ _ _ _ _ _ hE2 (okS_mono hl (by omega)) sq
end Go.Proofs.YtecjelnpmcnbaaaGreat
namespace Go.Proofs.YtecjelnpmcnbaaaGreat
open Go.Ev
section
variable {x : Rat} {a b : Nat}
theorem rR_step (k : Nat) : rR x a b (k + 1) * ((a + 2 + 2 * k : Nat) : Rat) = rR x a b k * x * ((a + b + 2 * k : Nat) : Rat) := by
  have M : (0 : Rat) < ((a + 2 + 2 * k : Nat) : Rat) := by exact_mod_cast (show 0 < a + 2 + 2 * k by omega)
  show rR x a b k * x * ((a + b + 2 * k : Nat) : Rat) / ((a + 2 + 2 * k : Nat) : Rat) * _ = _
  exact Rat.div_mul_cancel (by grind)
theorem rR_nn (h : 0 ≤ x) : ∀ k, 0 ≤ rR x a b k := by
  intro k
  induction k with
  | zero => show (0 : Rat) ≤ 1; decide
  | succ k ih =>
    have M : (0 : Rat) < ((a + 2 + 2 * k : Nat) : Rat) := by exact_mod_cast (show 0 < a + 2 + 2 * k by omega)
    have e := rR_step (x := x) (a := a) (b := b) k
    refine le_by M ?_
    rw [e, Rat.zero_mul]
    exact Rat.mul_nonneg (Rat.mul_nonneg ih h) (nat_nonneg _)
theorem rR_fall (h : 0 ≤ x) (h1 : x + x ≤ 1) {k : Nat} (hk : b ≤ k) : 4 * rR x a b (k + 1) ≤ 3 * rR x a b k := by
  have M : (0 : Rat) < ((a + 2 + 2 * k : Nat) : Rat) := by exact_mod_cast (show 0 < a + 2 + 2 * k by omega)
  have e := rR_step (x := x) (a := a) (b := b) k
  have r0 := rR_nn (a := a) (b := b) h k
  have hn : ((2 * (a + b + 2 * k) : Nat) : Rat) ≤ ((3 * (a + 2 + 2 * k) : Nat) : Rat) := by exact_mod_cast (show 2 * (a + b + 2 * k) ≤ 3 * (a + 2 + 2 * k) by omega)
  have c1 : ((2 * (a + b + 2 * k) : Nat) : Rat) = 2 * ((a + b + 2 * k : Nat) : Rat) := by exact_mod_cast rfl
  have c2 : ((3 * (a + 2 + 2 * k) : Nat) : Rat) = 3 * ((a + 2 + 2 * k : Nat) : Rat) := by exact_mod_cast rfl
  rw [c1, c2] at hn
  have n0 := nat_nonneg (a + b + 2 * k)
  generalize ((a + 2 + 2 * k : Nat) : Rat) = m at *
  generalize ((a + b + 2 * k : Nat) : Rat) = n at *
  generalize rR x a b (k + 1) = r' at *
  generalize rR x a b k = r at *
  refine le_by M ?_
  have k1 : r * (n * (x + x)) ≤ r * (n * 1) := Rat.mul_le_mul_of_nonneg_left (Rat.mul_le_mul_of_nonneg_left h1 n0) r0
  have k2 : r * (2 * n) ≤ r * (3 * m) := Rat.mul_le_mul_of_nonneg_left hn r0
  have e1 : 4 * r' * m = 2 * (r * (n * (x + x))) := by
    have : 4 * r' * m = 4 * (r' * m) := by grind
    rw [this, e]; grind
  rw [e1]
  grind
theorem sR_up (h : 0 ≤ x) {k m : Nat} (hkm : k ≤ m) : sR x a b k ≤ sR x a b m := by
  obtain ⟨j, rfl⟩ := Nat.exists_eq_add_of_le hkm
  clear hkm
  induction j with
  | zero => exact Rat.le_refl
  | succ j ih =>
    have := rR_nn (a := a) (b := b) h (k + j + 1)
    show sR x a b k ≤ sR x a b (k + j) + rR x a b (k + j + 1)
    grind
theorem sR_rest (h : 0 ≤ x) (h1 : x + x ≤ 1) {k m : Nat} (hk : b ≤ k) (hkm : k ≤ m) : sR x a b m + 3 * rR x a b m ≤ sR x a b k + 3 * rR x a b k := by
  obtain ⟨j, rfl⟩ := Nat.exists_eq_add_of_le hkm
  clear hkm
  induction j with
  | zero => exact Rat.le_refl
  | succ j ih =>
    have := rR_fall (a := a) h h1 (k := k + j) (show b ≤ k + j by omega)
    show sR x a b (k + j) + rR x a b (k + j + 1) + 3 * rR x a b (k + j + 1) ≤ _
    grind
theorem sR_top (h : 0 ≤ x) (h1 : x + x ≤ 1) {k m : Nat} (hk : b ≤ k) : sR x a b m ≤ sR x a b k + 3 * rR x a b k := by
  rcases Nat.le_total m k with g | g
  · have := sR_up (a := a) (b := b) h g
    have := rR_nn (a := a) (b := b) h k
    grind
  · have := sR_rest (a := a) h h1 hk g
    have := rR_nn (a := a) (b := b) h m
    grind
end
end Go.Proofs.YtecjelnpmcnbaaaGreat
namespace Go.Ev
def prodN (a by' : Nat) : Nat → Nat
  | 0 => 1
  | c + 1 => prodN a by' c * (a + c * by')
theorem prodN_pos {a b : Nat} (ha : 0 < a) : ∀ c, 0 < prodN a b c := by
  intro c
  induction c with
  | zero => exact Nat.one_pos
  | succ c ih => exact Nat.mul_pos ih (by omega)
theorem prodN_len {a b c : Nat} (h : ∀ i, i < c → a + i * b < 4294967296) : (lim (prodN a b c)).length ≤ c + 1 := by
  induction c with
  | zero => exact lim_len_one (show 1 < 4294967296 by decide)
  | succ c ih =>
    have h1 := ih fun i hi => h i (by omega)
    have h2 := lim_len_mul (a := prodN a b c) (b := a + c * b)
    have h3 := lim_len_one (h c (by omega))
    show (lim (prodN a b c * (a + c * b))).length ≤ _
    omega
theorem prodN_front (a b : Nat) : ∀ c, prodN a b (c + 1) = a * prodN (a + b) b c := by
  intro c
  induction c with
  | zero => simp [prodN]
  | succ c ih =>
    show prodN a b (c + 1) * (a + (c + 1) * b) = a * (prodN (a + b) b c * (a + b + c * b))
    rw [ih, Nat.mul_assoc, Nat.add_mul c 1 b, Nat.one_mul, Nat.add_comm (c * b) b, ← Nat.add_assoc]
def gam2 (n : Nat) : Rat := if n % 2 = 0 then (prodN 2 1 (n / 2 - 2) : Nat) else mkRat (prodN 3 2 ((n - 3) / 2) : Nat) (2 ^ (n / 2))
def cc : Nat → Nat → Nat
  | 0, _ => 1
  | _ + 1, 0 => 1
  | m + 1, k + 1 => cc m (k + 1) + cc (m + 1) k
def facN (k : Nat) : Nat := prodN 1 1 k
theorem facN_two (k : Nat) : prodN 2 1 (k - 1) = facN k := by
  cases k with
  | zero => rfl
  | succ k =>
    rw [Nat.add_sub_cancel]
    show _ = prodN 1 1 (k + 1)
    rw [prodN_front 1 1 k, Nat.one_mul]
theorem gam2_pos {n : Nat} : gam2 n ≠ 0 := by
  unfold gam2
  split
  · have := prodN_pos (a := 2) (b := 1) (by decide) (n / 2 - 2)
    intro h
    have h2 : prodN 2 1 (n / 2 - 2) = 0 := by exact_mod_cast h
    omega
  · have := prodN_pos (a := 3) (b := 2) (by decide) ((n - 3) / 2)
    intro h
    rw [Rat.mkRat_eq_zero (Nat.ne_of_gt (Nat.pow_pos (by decide)))] at h
    omega
def beta2 (a b : Nat) : Rat := gam2 a * gam2 b / gam2 (a + b)
end Go.Ev
namespace Go.Ev
end Go.Ev
namespace Go.Ev
theorem unit_num {x : Rat} (h0 : 0 ≤ x) (h1 : x ≤ 1) : x.num.natAbs ≤ x.den ∧ (x.num.natAbs : Int) = x.num := by
  have h2 := Rat.num_nonneg.2 h0
  have h3 := (Rat.le_iff x 1).1 h1
  rw [show (1 : Rat).den = 1 from rfl, show (1 : Rat).num = 1 from rfl] at h3
  omega
theorem den_pos (x : Rat) (n : Nat) : 0 < x.den ^ n := Nat.pow_pos (Nat.pos_of_ne_zero x.den_nz)
end Go.Ev
namespace Go.Proofs.YtecjelnpmcnbaaaGreat
open Go.Ev
theorem pwR_nn {q : Rat} (h : 0 ≤ q) : ∀ n, 0 ≤ pwR q n
  | 0 => by show (0 : Rat) ≤ 1; decide
  | n + 1 => Rat.mul_nonneg (pwR_nn h n) h
theorem cm (a b : Nat) : ((a * b : Nat) : Rat) = (a : Rat) * (b : Rat) := by exact_mod_cast rfl
section
variable {x y : Rat} {B : Nat}
end
end Go.Proofs.YtecjelnpmcnbaaaGreat
