/- Part 8 of the proof: the evaluator, contracts of functions and their plain laws (joined by program). No condition. -/
import Derived.Test.YtodiciendlhkgaaGreatPart7
import Derived.KernelRfl
/- test: over, square, isBelow, student, paired, spread, pooled, fisher, in the evaluator. -/
namespace Go.Proofs.YtodiciendlhkgaaGreat
set_option linter.unusedSimpArgs false
set_option linter.unusedVariables false
set_option maxRecDepth 8000
open Go.Ev
theorem rat_Zero {v : SV} {q : Rat} {L : Nat} (hv : RatA v q L) (hL : 1 ≤ L) (hL2 : L ≤ 16777216) : Go.Ev.Fn CX 78 [v] (.bool (decide (q = 0))) := by
  have hN := rat_Norm hv (by omega)
  obtain ⟨s, n, d, rfl, -⟩ := hv
  by_cases h : q = 0
  · subst h
    rw [decide_eq_true rfl]
    rw [rv_zero] at hN
    refine Go.Ev.Fn.intro (fn := Tryz.f78) (body := (Tryz.f78).body.get!) (by kernel_rfl) (by kernel_rfl) (by kernel_rfl) (fun _ => rfl) (Nat.le_of_ble_eq_true (by kernel_rfl)) ?_; unfold Tryz.f78; simp only [Option.get!_some]
    repeat (first | (simp only [go_sem, Nat.reduceEqDiff, Nat.reduceAdd, Nat.reduceSub, Nat.reduceMul, Nat.reduceLeDiff, Nat.reduceLT, reduceIte, reduceCtorEq, Nat.succ_ne_zero, elemsC, Int.reduceToNat, Nat.reducePow]) | (simp (disch := (first | omega | (simp only [AL, List.length_map]; omega))) only [AR, AL, ifT, ifF, take_all, List.length_cons, List.length_nil, Int.reduceToNat, Int.reducePow, Nat.reducePow]) | (refine wk_intro (by kernel_rfl) ?_) | (refine vf_of (by first | exact hN) ?_))
  · have hp := lim_pos (N := q.num.natAbs) (fun e => h (num_zero.1 (by omega)))
    rw [decide_eq_false h]
    refine Go.Ev.Fn.intro (fn := Tryz.f78) (body := (Tryz.f78).body.get!) (by kernel_rfl) (by kernel_rfl) (by kernel_rfl) (fun _ => rfl) (Nat.le_of_ble_eq_true (by kernel_rfl)) ?_; unfold Tryz.f78; simp only [Option.get!_some]
    repeat (first | (simp only [go_sem, Nat.reduceEqDiff, Nat.reduceAdd, Nat.reduceSub, Nat.reduceMul, Nat.reduceLeDiff, Nat.reduceLT, reduceIte, reduceCtorEq, Nat.succ_ne_zero, elemsC, Int.reduceToNat, Nat.reducePow]) | (simp (disch := (first | omega | (simp only [AL, List.length_map]; omega))) only [AR, AL, ifT, ifF, take_all, List.length_cons, List.length_nil, Int.reduceToNat, Int.reducePow, Nat.reducePow]) | (refine wk_intro (by kernel_rfl) ?_) | (refine vf_of (by first | exact hN) ?_))
theorem test_over {v w : SV} {q r : Rat} {L M : Nat} (hv : RatA v q L) (hw : RatA w r M) (hL : 1 ≤ L) (hM : 1 ≤ M) (h : L + M ≤ 1000000) : Go.Ev.Fn CX 40 [v, w] (rv (q / r)) := by
  have d := rat_Div hv hw hL hM (by omega)
  generalize decide (r ≠ 0) = b at *
  obtain ⟨s, n, d', rfl, -⟩ := hv
  obtain ⟨s', n', d'', rfl, -⟩ := hw
  refine Go.Ev.Fn.intro (fn := Tryz.f40) (body := (Tryz.f40).body.get!) (by kernel_rfl) (by kernel_rfl) (by kernel_rfl) (fun _ => rfl) (Nat.le_of_ble_eq_true (by kernel_rfl)) ?_; unfold Tryz.f40; simp only [Option.get!_some]
  repeat (first | (simp only [go_sem, Nat.reduceEqDiff, Nat.reduceAdd, Nat.reduceSub, Nat.reduceMul, Nat.reduceLeDiff, Nat.reduceLT, reduceIte, reduceCtorEq, Nat.succ_ne_zero, elemsC, Int.reduceToNat, Nat.reducePow]) | (simp (disch := (first | omega | (simp only [AL, List.length_map]; omega))) only [AR, AL, ifT, ifF, take_all, List.length_cons, List.length_nil, Int.reduceToNat, Int.reducePow, Nat.reducePow]) | (refine wk_intro (by kernel_rfl) ?_) | (refine vf_of (by first | exact d) ?_))
theorem test_square {v : SV} {q : Rat} {L : Nat} (hv : RatA v q L) (hL : 1 ≤ L) (h : L ≤ 1000000) : Go.Ev.Fn CX 115 [v] (rv (q * q)) := by
  have d := rat_Mul hv hv hL hL (by omega)
  obtain ⟨s, n, d', rfl, -⟩ := hv
  refine Go.Ev.Fn.intro (fn := Tryz.f115) (body := (Tryz.f115).body.get!) (by kernel_rfl) (by kernel_rfl) (by kernel_rfl) (fun _ => rfl) (Nat.le_of_ble_eq_true (by kernel_rfl)) ?_; unfold Tryz.f115; simp only [Option.get!_some]
  repeat (first | (simp only [go_sem, Nat.reduceEqDiff, Nat.reduceAdd, Nat.reduceSub, Nat.reduceMul, Nat.reduceLeDiff, Nat.reduceLT, reduceIte, reduceCtorEq, Nat.succ_ne_zero, elemsC, Int.reduceToNat, Nat.reducePow]) | (simp (disch := (first | omega | (simp only [AL, List.length_map]; omega))) only [AR, AL, ifT, ifF, take_all, List.length_cons, List.length_nil, Int.reduceToNat, Int.reducePow, Nat.reducePow]) | (refine wk_intro (by kernel_rfl) ?_) | (refine vf_of (by first | exact d) ?_))
/-- A statistic's result. -/
abbrev resV (r : Res) : SV := .tup [rv r.1, .sl r.2.1.length (r.2.1.map fun i => .int .i64 i), .int .i64 r.2.2]
theorem test_student {cs : List SV} {l : List Rat} {v : SV} {mu : Rat} {L M : Nat} (h : RowC cs l L) (hm : RatA v mu M) (hL : 1 ≤ L) (hL2 : L ≤ 100) (hM : 1 ≤ M) (hM2 : M ≤ 100) (hl : l.length ≤ 12) :
    Go.Ev.Fn CX 68 [.sl l.length cs, v] (resV (stuR l mu)) := by
  have r0 := rat_Int 0 (by omega)
  have v1 := stat_Variance h hL (by omega) hl
  have hz := row_sz hL h
  have zv := sz_var hL hz hl
  have zm := sz_mean hL hz hl
  unfold stuR
  by_cases h0 : l.length < 2
  · rw [if_pos h0] at v1 ⊢
    clear hz zv zm
    obtain ⟨s, n, d, rfl, -⟩ := hm
    refine Go.Ev.Fn.intro (fn := Tryz.f68) (body := (Tryz.f68).body.get!) (by kernel_rfl) (by kernel_rfl) (by kernel_rfl) (fun _ => rfl) (Nat.le_of_ble_eq_true (by kernel_rfl)) ?_; unfold Tryz.f68; simp only [Option.get!_some]
    repeat (first | (simp only [go_sem, Nat.reduceEqDiff, Nat.reduceAdd, Nat.reduceSub, Nat.reduceMul, Nat.reduceLeDiff, Nat.reduceLT, reduceIte, reduceCtorEq, Nat.succ_ne_zero, elemsC, Int.reduceToNat, Nat.reducePow]) | (simp (disch := (first | omega | (simp only [AL, List.length_map]; omega))) only [AR, AL, ifT, ifF, take_all, List.length_cons, List.length_nil, Int.reduceToNat, Int.reducePow, Nat.reducePow]) | (refine wk_intro (by kernel_rfl) ?_) | (refine vp_draw (id := 7) (l := []) (by kernel_rfl) ?_) | (refine vf_of (by first | exact v1 | exact r0) ?_))
    rfl
  · rw [if_neg h0] at v1 ⊢
    have zz := rat_Zero (RatA_rv zv) (by omega) (by omega)
    by_cases hv : varR l = 0
    · rw [if_pos hv]
      rw [decide_eq_true hv] at zz
      clear hz zv zm
      obtain ⟨s, n, d, rfl, -⟩ := hm
      refine Go.Ev.Fn.intro (fn := Tryz.f68) (body := (Tryz.f68).body.get!) (by kernel_rfl) (by kernel_rfl) (by kernel_rfl) (fun _ => rfl) (Nat.le_of_ble_eq_true (by kernel_rfl)) ?_; unfold Tryz.f68; simp only [Option.get!_some]
      repeat (first | (simp only [go_sem, Nat.reduceEqDiff, Nat.reduceAdd, Nat.reduceSub, Nat.reduceMul, Nat.reduceLeDiff, Nat.reduceLT, reduceIte, reduceCtorEq, Nat.succ_ne_zero, elemsC, Int.reduceToNat, Nat.reducePow]) | (simp (disch := (first | omega | (simp only [AL, List.length_map]; omega))) only [AR, AL, ifT, ifF, take_all, List.length_cons, List.length_nil, Int.reduceToNat, Int.reducePow, Nat.reducePow]) | (refine wk_intro (by kernel_rfl) ?_) | (refine vp_draw (id := 7) (l := []) (by kernel_rfl) ?_) | (refine vf_of (by first | exact v1 | exact zz | exact r0) ?_))
      rfl
    · rw [if_neg hv]
      rw [decide_eq_false hv] at zz
      have m1 := stat_Mean h hL (by omega) hl
      rw [if_neg (by omega)] at m1
      have i1 := rat_Int (l.length : Int) (by omega)
      have zi := int_szR (n := (l.length : Int)) (by omega)
      have d1 := rat_Sub (RatA_rv zm) hm (by omega) (by omega) (by omega)
      have zd := szR_sub zm (szR_of hm hM) (by omega)
      have s1 := test_square (RatA_rv zd) (by omega) (by omega)
      have zs := szR_mul zd zd (by omega)
      have p1 := rat_Mul (RatA_rv zi) (RatA_rv zs) (by omega) (by omega) (by omega)
      have o1 := test_over (RatA_rv (szR_mul zi zs (by omega))) (RatA_rv zv) (by omega) (by omega) (by omega)
      clear hz zv zm zi zd zs h
      obtain ⟨s, n, d, rfl, -⟩ := hm
      generalize meanR l = m at *
      generalize varR l = w at *
      refine Go.Ev.Fn.intro (fn := Tryz.f68) (body := (Tryz.f68).body.get!) (by kernel_rfl) (by kernel_rfl) (by kernel_rfl) (fun _ => rfl) (Nat.le_of_ble_eq_true (by kernel_rfl)) ?_; unfold Tryz.f68; simp only [Option.get!_some]
      repeat (first | (simp only [go_sem, Nat.reduceEqDiff, Nat.reduceAdd, Nat.reduceSub, Nat.reduceMul, Nat.reduceLeDiff, Nat.reduceLT, reduceIte, reduceCtorEq, Nat.succ_ne_zero, elemsC, Int.reduceToNat, Nat.reducePow]) | (simp (disch := (first | omega | (simp only [AL, List.length_map]; omega))) only [AR, AL, ifT, ifF, take_all, List.length_cons, List.length_nil, Int.reduceToNat, Int.reducePow, Nat.reducePow]) | (refine wk_intro (by kernel_rfl) ?_) | (refine vp_draw (id := 7) (l := []) (by kernel_rfl) ?_) | (refine vf_of (by first | exact v1 | exact zz | exact m1 | exact i1 | exact d1 | exact s1 | exact p1 | exact o1) ?_))
theorem test_paired {cs ds : List SV} {l m : List Rat} (h : RowC cs l 1) (h2 : RowC ds m 1) (hl : l.length ≤ 12) (hm : m.length ≤ 12) :
    Go.Ev.Fn CX 69 [.sl l.length cs, .sl m.length ds] (resV (if l.length ≠ m.length then (0, [], 1) else stuR (List.zipWith (fun a b => a - b) l m) 0)) := by
  have r0 := rat_Int 0 (by omega)
  by_cases hlm : l.length = m.length
  · rw [if_neg (not_not_intro hlm)]
    have hzl : (List.zipWith (fun a b => a - b) l m).length = l.length := by rw [List.length_zipWith]; omega
    have hzg : ∀ i, i < l.length → (List.zipWith (fun a b => a - b) l m).getD i 0 = l.getD i 0 - m.getD i 0 := by
      intro i hi
      rw [List.getD_eq_getElem?_getD, List.getD_eq_getElem?_getD, List.getD_eq_getElem?_getD, List.getElem?_eq_getElem (by omega), List.getElem?_eq_getElem hi, List.getElem?_eq_getElem (by omega), List.getElem_zipWith]
      rfl
    have hlen := row_len h
    have hlen2 := row_len h2
    have hzz : ∀ x ∈ List.zipWith (fun a b => a - b) l m, szR x 3 := by
      intro x hx
      obtain ⟨i, hi, rfl⟩ := List.getElem_of_mem hx
      rw [List.getElem_zipWith]
      exact szR_sub (row_sz (by omega) h _ (List.getElem_mem _)) (row_sz (by omega) h2 _ (List.getElem_mem _)) (by omega)
    generalize hZ : List.zipWith (fun a b => a - b) l m = z at *
    have t1 := test_student (rvsC_row z hzz) (RatA_rv (int_szR (n := 0) (by omega))) (by omega) (by omega) (by omega) (by omega) (by omega)
    have e0 : ((0 : Int) : Rat) = 0 := rfl
    rw [e0] at t1 r0
    rw [hzl] at t1
    have hrl := rvsC_len z
    rw [hzl] at hrl
    refine Go.Ev.Fn.intro (fn := Tryz.f69) (body := (Tryz.f69).body.get!) (by kernel_rfl) (by kernel_rfl) (by kernel_rfl) (fun _ => rfl) (Nat.le_of_ble_eq_true (by kernel_rfl)) ?_; unfold Tryz.f69; simp only [Option.get!_some]
    repeat (first | (simp only [go_sem, Nat.reduceEqDiff, Nat.reduceAdd, Nat.reduceSub, Nat.reduceMul, Nat.reduceLeDiff, Nat.reduceLT, reduceIte, reduceCtorEq, Nat.succ_ne_zero, elemsC, Int.reduceToNat, Nat.reducePow]) | (simp (disch := (first | omega | (simp only [AL, List.length_map]; omega))) only [AR, AL, ifT, ifF, take_all, List.length_cons, List.length_nil, Int.reduceToNat, Int.reducePow, Nat.reducePow]) | (refine wk_intro (by kernel_rfl) ?_) | (refine vp_draw (id := 7) (l := []) (by kernel_rfl) ?_))
    refine vp_loop_inv (fun s => s.tmp 4 = .ptr 4 0 0 ∧ s.obj 4 0 = some [.bool false, .sl 0 [], .sl 0 []] ∧ s.tmp 1 = .sv (.sl m.length ds) ∧ s.tmp 16 = .sv (.sl l.length cs) ∧ s.tmp 17 = .sv (.int .i64 (l.length : Int)) ∧
        ∃ i : Nat, s.tmp 18 = .sv (.int .i64 (i : Int)) ∧ i ≤ l.length ∧ ((i = 0 ∧ s.tmp 7 = .nil ∧ s.gen 31 = 0) ∨ (0 < i ∧ s.tmp 7 = .ref 31 0 3 0 i ∧ s.obj 31 0 = some (rvsC (z.take i)))))
      (fun s => match s.tmp 18 with | .sv (.int _ i) => l.length - i.toNat | _ => 0) ⟨rfl, rfl, rfl, rfl, rfl, 0, rfl, by omega, .inl ⟨rfl, rfl, rfl⟩⟩ ?_
    rintro s2 ⟨i4, iO, i1, i16, i17, i, i18, hi, hc⟩
    by_cases hend : i = l.length
    · subst hend
      rcases hc with ⟨h00, i7, _⟩ | ⟨_, i7, iP⟩
      · rw [h00] at t1 hzl
        have hz0 : z = [] := List.length_eq_zero_iff.1 hzl
        subst hz0
        rw [rvsC_nil] at t1
        repeat (first | (simp only [go_sem, Nat.reduceEqDiff, Nat.reduceAdd, Nat.reduceSub, Nat.reduceMul, Nat.reduceLeDiff, Nat.reduceLT, reduceIte, reduceCtorEq, Nat.succ_ne_zero, elemsC, Int.reduceToNat, Nat.reducePow, i4, iO, i1, i16, i17, i18, i7]) | (simp (disch := (first | omega | (simp only [AL, List.length_map]; omega))) only [AR, AL, ifT, ifF, take_all, List.length_cons, List.length_nil, Int.reduceToNat, Int.reducePow, Nat.reducePow, i4, iO, i1, i16, i17, i18, i7]) | (refine wk_intro (by kernel_rfl) ?_) | (refine vp_draw (id := 7) (l := []) (by kernel_rfl) ?_) | (refine vf_of (by first | exact r0 | exact t1) ?_))
      · rw [List.take_of_length_le (by omega)] at iP
        have htk : (rvsC z).take (l.length * 3) = rvsC z := List.take_of_length_le (by omega)
        repeat (first | (simp only [go_sem, Nat.reduceEqDiff, Nat.reduceAdd, Nat.reduceSub, Nat.reduceMul, Nat.reduceLeDiff, Nat.reduceLT, reduceIte, reduceCtorEq, Nat.succ_ne_zero, elemsC, Int.reduceToNat, Nat.reducePow, i4, iO, i1, i16, i17, i18, i7, iP, rvC, htk, List.drop_zero]) | (simp (disch := (first | omega | (simp only [AL, List.length_map]; omega))) only [AR, AL, ifT, ifF, take_all, List.length_cons, List.length_nil, Int.reduceToNat, Int.reducePow, Nat.reducePow, i4, iO, i1, i16, i17, i18, i7, iP, rvC, htk, List.drop_zero]) | (refine wk_intro (by kernel_rfl) ?_) | (refine vp_draw (id := 7) (l := []) (by kernel_rfl) ?_) | (refine vf_of (by first | exact r0 | exact t1) ?_))
    · obtain ⟨s, n, d, rest, hat, hA⟩ := row_at (i := i) h (by omega)
      obtain ⟨s', n', d', rest2, hat2, hA2⟩ := row_at (i := i) h2 (by omega)
      have a := rat_Sub hA hA2 (by omega) (by omega) (by omega)
      have hsn := rvs_snoc (l := z) (i := i) (by omega)
      rw [← hzg i (by omega)] at a
      have hrl2 := rvsC_len (z.take i)
      rw [List.length_take, hzl, Nat.min_eq_left (by omega)] at hrl2
      clear hzz h h2 hA hA2 t1 r0 hzg
      rcases hc with ⟨h00, i7, ig⟩ | ⟨h00, i7, iP⟩
      · subst h00
        rw [List.take_zero, rvsC_nil, List.nil_append] at hsn
        rw [Nat.zero_mul, List.drop_zero] at hat hat2
        subst hat hat2
        repeat (first | (simp only [go_sem, Nat.reduceEqDiff, Nat.reduceAdd, Nat.reduceSub, Nat.reduceMul, Nat.reduceLeDiff, Nat.reduceLT, reduceIte, reduceCtorEq, Nat.succ_ne_zero, elemsC, Int.reduceToNat, Nat.reducePow, i4, iO, i1, i16, i17, i18, i7, ig, N0]) | (simp (disch := (first | omega | (simp only [AL, List.length_map]; omega))) only [AR, AL, ifT, ifF, take_all, List.length_cons, List.length_nil, Int.reduceToNat, Int.reducePow, Nat.reducePow, i4, iO, i1, i16, i17, i18, i7, ig, N0]) | (refine wk_intro (by kernel_rfl) ?_) | (refine vp_draw (id := 7) (l := []) (by kernel_rfl) ?_) | (refine vf_of (by first | exact a) ?_))
        exact ⟨⟨1, rfl, by omega, .inr ⟨by omega, rfl, by first | (rw [← hsn]; rfl) | rw [← hsn]⟩⟩, by omega⟩
      · unfold rvC at hsn
        repeat (first | (simp only [go_sem, Nat.reduceEqDiff, Nat.reduceAdd, Nat.reduceSub, Nat.reduceMul, Nat.reduceLeDiff, Nat.reduceLT, reduceIte, reduceCtorEq, Nat.succ_ne_zero, elemsC, Int.reduceToNat, Nat.reducePow, i4, iO, i1, i16, i17, i18, i7, iP, hat, hat2, hlen, hlen2, rvC, N0, hsn, hrl2]) | (simp (disch := (first | omega | (simp only [AL, List.length_map]; omega))) only [AR, AL, ifT, ifF, take_all, List.length_cons, List.length_nil, Int.reduceToNat, Int.reducePow, Nat.reducePow, i4, iO, i1, i16, i17, i18, i7, iP, hat, hat2, hlen, hlen2, rvC, N0, hsn, hrl2]) | (refine wk_intro (by kernel_rfl) ?_) | (refine vp_draw (id := 7) (l := []) (by kernel_rfl) ?_) | (refine vf_of (by first | exact a) ?_))
        exact ⟨⟨i + 1, rfl, by omega, .inr ⟨by omega, rfl, by first | (rw [← hsn]; rfl) | rw [← hsn]⟩⟩, by omega⟩
  · rw [if_pos hlm]
    clear h h2
    refine Go.Ev.Fn.intro (fn := Tryz.f69) (body := (Tryz.f69).body.get!) (by kernel_rfl) (by kernel_rfl) (by kernel_rfl) (fun _ => rfl) (Nat.le_of_ble_eq_true (by kernel_rfl)) ?_; unfold Tryz.f69; simp only [Option.get!_some]
    repeat (first | (simp only [go_sem, Nat.reduceEqDiff, Nat.reduceAdd, Nat.reduceSub, Nat.reduceMul, Nat.reduceLeDiff, Nat.reduceLT, reduceIte, reduceCtorEq, Nat.succ_ne_zero, elemsC, Int.reduceToNat, Nat.reducePow]) | (simp (disch := (first | omega | (simp only [AL, List.length_map]; omega))) only [AR, AL, ifT, ifF, take_all, List.length_cons, List.length_nil, Int.reduceToNat, Int.reducePow, Nat.reducePow]) | (refine wk_intro (by kernel_rfl) ?_) | (refine vp_draw (id := 7) (l := []) (by kernel_rfl) ?_) | (refine vf_of (by first | exact r0) ?_))
    rfl
theorem test_spread {cs : List SV} {l : List Rat} (h : RowC cs l 1) (hl : l.length ≤ 12) (h0 : 1 ≤ l.length) : Go.Ev.Fn CX 117 [.sl l.length cs] (rv (sqR l)) := by
  have c1 := stat_Central h (by omega) (by omega) hl h0
  have z := sz_sq (by omega) (row_sz (by omega) h) hl
  have i1 := rat_Int (l.length : Int) (by omega)
  have zi := int_szR (n := (l.length : Int)) (by omega)
  have m1 := rat_Mul (RatA_rv (szR_div z zi (by omega) (by omega))) (RatA_rv zi) (by omega) (by omega) (by omega)
  rw [div_cancel' (lenR_ne (l := l) (by rintro rfl; simp at h0))] at m1
  clear h z
  refine Go.Ev.Fn.intro (fn := Tryz.f117) (body := (Tryz.f117).body.get!) (by kernel_rfl) (by kernel_rfl) (by kernel_rfl) (fun _ => rfl) (Nat.le_of_ble_eq_true (by kernel_rfl)) ?_; unfold Tryz.f117; simp only [Option.get!_some]
  repeat (first | (simp only [go_sem, Nat.reduceEqDiff, Nat.reduceAdd, Nat.reduceSub, Nat.reduceMul, Nat.reduceLeDiff, Nat.reduceLT, reduceIte, reduceCtorEq, Nat.succ_ne_zero, elemsC, Int.reduceToNat, Nat.reducePow]) | (simp (disch := (first | omega | (simp only [AL, List.length_map]; omega))) only [AR, AL, ifT, ifF, take_all, List.length_cons, List.length_nil, Int.reduceToNat, Int.reducePow, Nat.reducePow]) | (refine wk_intro (by kernel_rfl) ?_) | (refine vp_draw (id := 2) (l := []) (by kernel_rfl) ?_) | (refine vf_of (by first | exact c1 | exact i1 | exact m1) ?_))
theorem test_pooled {cs ds : List SV} {l m : List Rat} (h : RowC cs l 1) (h2 : RowC ds m 1) (hl : l.length ≤ 12) (hm : m.length ≤ 12) :
    Go.Ev.Fn CX 70 [.sl l.length cs, .sl m.length ds] (resV (poolR l m)) := by
  have r0 := rat_Int 0 (by omega)
  unfold poolR
  by_cases c1 : l.length = 0
  · rw [if_pos (.inl c1)]
    clear h h2
    refine Go.Ev.Fn.intro (fn := Tryz.f70) (body := (Tryz.f70).body.get!) (by kernel_rfl) (by kernel_rfl) (by kernel_rfl) (fun _ => rfl) (Nat.le_of_ble_eq_true (by kernel_rfl)) ?_; unfold Tryz.f70; simp only [Option.get!_some]
    repeat (first | (simp only [go_sem, Nat.reduceEqDiff, Nat.reduceAdd, Nat.reduceSub, Nat.reduceMul, Nat.reduceLeDiff, Nat.reduceLT, reduceIte, reduceCtorEq, Nat.succ_ne_zero, elemsC, Int.reduceToNat, Nat.reducePow]) | (simp (disch := (first | omega | (simp only [AL, List.length_map]; omega))) only [AR, AL, ifT, ifF, take_all, List.length_cons, List.length_nil, Int.reduceToNat, Int.reducePow, Nat.reducePow]) | (refine wk_intro (by kernel_rfl) ?_) | (refine vp_draw (id := 10) (l := []) (by kernel_rfl) ?_) | (refine vf_of (by first | exact r0) ?_))
    rfl
  by_cases c2 : m.length = 0
  · rw [if_pos (.inr (.inl c2))]
    clear h h2
    refine Go.Ev.Fn.intro (fn := Tryz.f70) (body := (Tryz.f70).body.get!) (by kernel_rfl) (by kernel_rfl) (by kernel_rfl) (fun _ => rfl) (Nat.le_of_ble_eq_true (by kernel_rfl)) ?_; unfold Tryz.f70; simp only [Option.get!_some]
    repeat (first | (simp only [go_sem, Nat.reduceEqDiff, Nat.reduceAdd, Nat.reduceSub, Nat.reduceMul, Nat.reduceLeDiff, Nat.reduceLT, reduceIte, reduceCtorEq, Nat.succ_ne_zero, elemsC, Int.reduceToNat, Nat.reducePow]) | (simp (disch := (first | omega | (simp only [AL, List.length_map]; omega))) only [AR, AL, ifT, ifF, take_all, List.length_cons, List.length_nil, Int.reduceToNat, Int.reducePow, Nat.reducePow]) | (refine wk_intro (by kernel_rfl) ?_) | (refine vp_draw (id := 10) (l := []) (by kernel_rfl) ?_) | (refine vf_of (by first | exact r0) ?_))
    rfl
  by_cases c3 : l.length + m.length < 3
  · rw [if_pos (.inr (.inr c3))]
    clear h h2
    refine Go.Ev.Fn.intro (fn := Tryz.f70) (body := (Tryz.f70).body.get!) (by kernel_rfl) (by kernel_rfl) (by kernel_rfl) (fun _ => rfl) (Nat.le_of_ble_eq_true (by kernel_rfl)) ?_; unfold Tryz.f70; simp only [Option.get!_some]
    repeat (first | (simp only [go_sem, Nat.reduceEqDiff, Nat.reduceAdd, Nat.reduceSub, Nat.reduceMul, Nat.reduceLeDiff, Nat.reduceLT, reduceIte, reduceCtorEq, Nat.succ_ne_zero, elemsC, Int.reduceToNat, Nat.reducePow]) | (simp (disch := (first | omega | (simp only [AL, List.length_map]; omega))) only [AR, AL, ifT, ifF, take_all, List.length_cons, List.length_nil, Int.reduceToNat, Int.reducePow, Nat.reducePow]) | (refine wk_intro (by kernel_rfl) ?_) | (refine vp_draw (id := 10) (l := []) (by kernel_rfl) ?_) | (refine vf_of (by first | exact r0) ?_))
    rfl
  rw [if_neg (by omega)]
  have s1 := test_spread h hl (by omega)
  have s2 := test_spread h2 hm (by omega)
  have z1 := sz_sq (by omega) (row_sz (by omega) h) hl
  have z2 := sz_sq (by omega) (row_sz (by omega) h2) hm
  have y1 := sz_mean (by omega) (row_sz (by omega) h) hl
  have y2 := sz_mean (by omega) (row_sz (by omega) h2) hm
  have m1 := stat_Mean h (by omega) (by omega) hl
  have m2 := stat_Mean h2 (by omega) (by omega) hm
  rw [if_neg c1] at m1
  rw [if_neg c2] at m2
  have a1 := rat_Add (RatA_rv z1) (RatA_rv z2) (by omega) (by omega) (by omega)
  have za := szR_add z1 z2 (by omega)
  have i1 := rat_Int ((l.length : Int) + (m.length : Int) - 2) (by omega)
  have zi1 := int_szR (n := (l.length : Int) + (m.length : Int) - 2) (by omega)
  have o1 := test_over (RatA_rv za) (RatA_rv zi1) (by omega) (by omega) (by omega)
  have zo := szR_div za zi1 (by omega) (by omega)
  have zz := rat_Zero (RatA_rv zo) (by omega) (by omega)
  clear z1 z2 za zi1 h h2
  by_cases hv : (sqR l + sqR m) / (((l.length : Int) + (m.length : Int) - 2 : Int) : Rat) = 0
  · rw [if_pos hv]
    rw [decide_eq_true hv] at zz
    clear hv
    refine Go.Ev.Fn.intro (fn := Tryz.f70) (body := (Tryz.f70).body.get!) (by kernel_rfl) (by kernel_rfl) (by kernel_rfl) (fun _ => rfl) (Nat.le_of_ble_eq_true (by kernel_rfl)) ?_; unfold Tryz.f70; simp only [Option.get!_some]
    repeat (first | (simp only [go_sem, Nat.reduceEqDiff, Nat.reduceAdd, Nat.reduceSub, Nat.reduceMul, Nat.reduceLeDiff, Nat.reduceLT, reduceIte, reduceCtorEq, Nat.succ_ne_zero, elemsC, Int.reduceToNat, Nat.reducePow]) | (simp (disch := (first | omega | (simp only [AL, List.length_map]; omega))) only [AR, AL, ifT, ifF, take_all, List.length_cons, List.length_nil, Int.reduceToNat, Int.reducePow, Nat.reducePow]) | (refine wk_intro (by kernel_rfl) ?_) | (refine vp_draw (id := 10) (l := []) (by kernel_rfl) ?_) | (refine vf_of (by first | exact s1 | exact s2 | exact a1 | exact i1 | exact o1 | exact zz | exact r0) ?_))
    rfl
  · rw [if_neg hv]
    rw [decide_eq_false hv] at zz
    have lm : 1 ≤ l.length * m.length ∧ l.length * m.length ≤ 144 := ⟨Nat.mul_pos (by omega) (by omega), Nat.mul_le_mul hl hm⟩
    have elm : (l.length : Int) * (m.length : Int) = ((l.length * m.length : Nat) : Int) := (Int.natCast_mul _ _).symm
    have i2 := rat_Int ((l.length : Int) + (m.length : Int)) (by omega)
    have zi2 := int_szR (n := (l.length : Int) + (m.length : Int)) (by omega)
    have i3 := rat_Int ((l.length : Int) * (m.length : Int)) (by rw [elm]; omega)
    have zi3 := int_szR (n := (l.length : Int) * (m.length : Int)) (by rw [elm]; omega)
    have o2 := test_over (RatA_rv zi2) (RatA_rv zi3) (by omega) (by omega) (by omega)
    have zo2 := szR_div zi2 zi3 (by omega) (by omega)
    have d1 := rat_Sub (RatA_rv y1) (RatA_rv y2) (by omega) (by omega) (by omega)
    have zd := szR_sub y1 y2 (by omega)
    have q1 := test_square (RatA_rv zd) (by omega) (by omega)
    have zq := szR_mul zd zd (by omega)
    have p1 := rat_Mul (RatA_rv zo) (RatA_rv zo2) (by omega) (by omega) (by omega)
    have o3 := test_over (RatA_rv zq) (RatA_rv (szR_mul zo zo2 (by omega))) (by omega) (by omega) (by omega)
    clear zi2 zi3 zo zo2 zd zq y1 y2 hv
    generalize meanR l = x at *
    generalize meanR m = y at *
    generalize (sqR l + sqR m) / (((l.length : Int) + (m.length : Int) - 2 : Int) : Rat) = v at *
    generalize sqR l + sqR m = v2 at *
    generalize (((l.length : Int) + (m.length : Int) : Int) : Rat) / (((l.length : Int) * (m.length : Int) : Int) : Rat) = w at *
    rw [elm] at i3 o2
    generalize hpr : l.length * m.length = pr at *
    have hmul : IntKind.i64.wrap ((l.length : Int) * (m.length : Int)) = (pr : Int) := by rw [elm]; exact wI64 (by omega)
    clear elm
    refine Go.Ev.Fn.intro (fn := Tryz.f70) (body := (Tryz.f70).body.get!) (by kernel_rfl) (by kernel_rfl) (by kernel_rfl) (fun _ => rfl) (Nat.le_of_ble_eq_true (by kernel_rfl)) ?_; unfold Tryz.f70; simp only [Option.get!_some]
    repeat (first | (simp only [go_sem, Nat.reduceEqDiff, Nat.reduceAdd, Nat.reduceSub, Nat.reduceMul, Nat.reduceLeDiff, Nat.reduceLT, reduceIte, reduceCtorEq, Nat.succ_ne_zero, elemsC, Int.reduceToNat, Nat.reducePow, hmul]) | (simp (disch := (first | omega | (simp only [AL, List.length_map]; omega))) only [AR, AL, ifT, ifF, take_all, List.length_cons, List.length_nil, Int.reduceToNat, Int.reducePow, Nat.reducePow, hmul]) | (refine wk_intro (by kernel_rfl) ?_) | (refine vp_draw (id := 10) (l := []) (by kernel_rfl) ?_) | (refine vf_of (by first | exact s1 | exact s2 | exact a1 | exact i1 | exact o1 | exact zz | exact m1 | exact m2 | exact i2 | exact i3 | exact o2 | exact d1 | exact q1 | exact p1 | exact o3) ?_))
theorem test_fisher {cs ds : List SV} {l m : List Rat} (h : RowC cs l 1) (h2 : RowC ds m 1) (hl : l.length ≤ 12) (hm : m.length ≤ 12) :
    Go.Ev.Fn CX 71 [.sl l.length cs, .sl m.length ds] (resV (fisR l m)) := by
  have r0 := rat_Int 0 (by omega)
  have v1 := stat_Variance h (by omega) (by omega) hl
  have v2 := stat_Variance h2 (by omega) (by omega) hm
  have z1 := sz_var (by omega) (row_sz (by omega) h) hl
  have z2 := sz_var (by omega) (row_sz (by omega) h2) hm
  have q1 := rat_Zero (RatA_rv z1) (by omega) (by omega)
  have q2 := rat_Zero (RatA_rv z2) (by omega) (by omega)
  have o1 := test_over (RatA_rv z1) (RatA_rv z2) (by omega) (by omega) (by omega)
  unfold fisR
  clear h h2 z1 z2
  by_cases c1 : l.length < 2
  · rw [if_pos (.inl c1)]
    rw [if_pos c1] at v1
    refine Go.Ev.Fn.intro (fn := Tryz.f71) (body := (Tryz.f71).body.get!) (by kernel_rfl) (by kernel_rfl) (by kernel_rfl) (fun _ => rfl) (Nat.le_of_ble_eq_true (by kernel_rfl)) ?_; unfold Tryz.f71; simp only [Option.get!_some]
    repeat (first | (simp only [go_sem, Nat.reduceEqDiff, Nat.reduceAdd, Nat.reduceSub, Nat.reduceMul, Nat.reduceLeDiff, Nat.reduceLT, reduceIte, reduceCtorEq, Nat.succ_ne_zero, elemsC, Int.reduceToNat, Nat.reducePow]) | (simp (disch := (first | omega | (simp only [AL, List.length_map]; omega))) only [AR, AL, ifT, ifF, take_all, List.length_cons, List.length_nil, Int.reduceToNat, Int.reducePow, Nat.reducePow]) | (refine wk_intro (by kernel_rfl) ?_) | (refine vf_of (by first | exact v1 | exact r0) ?_))
    rfl
  rw [if_neg c1] at v1
  by_cases c2 : m.length < 2
  · rw [if_pos (.inr c2)]
    rw [if_pos c2] at v2
    refine Go.Ev.Fn.intro (fn := Tryz.f71) (body := (Tryz.f71).body.get!) (by kernel_rfl) (by kernel_rfl) (by kernel_rfl) (fun _ => rfl) (Nat.le_of_ble_eq_true (by kernel_rfl)) ?_; unfold Tryz.f71; simp only [Option.get!_some]
    repeat (first | (simp only [go_sem, Nat.reduceEqDiff, Nat.reduceAdd, Nat.reduceSub, Nat.reduceMul, Nat.reduceLeDiff, Nat.reduceLT, reduceIte, reduceCtorEq, Nat.succ_ne_zero, elemsC, Int.reduceToNat, Nat.reducePow]) | (simp (disch := (first | omega | (simp only [AL, List.length_map]; omega))) only [AR, AL, ifT, ifF, take_all, List.length_cons, List.length_nil, Int.reduceToNat, Int.reducePow, Nat.reducePow]) | (refine wk_intro (by kernel_rfl) ?_) | (refine vf_of (by first | exact v1 | exact v2 | exact r0) ?_))
    rfl
  rw [if_neg c2] at v2
  rw [if_neg (by omega)]
  generalize varR l = a at *
  generalize varR m = b at *
  by_cases c3 : a = 0
  · rw [if_pos (.inl c3)]
    rw [decide_eq_true c3] at q1
    refine Go.Ev.Fn.intro (fn := Tryz.f71) (body := (Tryz.f71).body.get!) (by kernel_rfl) (by kernel_rfl) (by kernel_rfl) (fun _ => rfl) (Nat.le_of_ble_eq_true (by kernel_rfl)) ?_; unfold Tryz.f71; simp only [Option.get!_some]
    repeat (first | (simp only [go_sem, Nat.reduceEqDiff, Nat.reduceAdd, Nat.reduceSub, Nat.reduceMul, Nat.reduceLeDiff, Nat.reduceLT, reduceIte, reduceCtorEq, Nat.succ_ne_zero, elemsC, Int.reduceToNat, Nat.reducePow]) | (simp (disch := (first | omega | (simp only [AL, List.length_map]; omega))) only [AR, AL, ifT, ifF, take_all, List.length_cons, List.length_nil, Int.reduceToNat, Int.reducePow, Nat.reducePow]) | (refine wk_intro (by kernel_rfl) ?_) | (refine vf_of (by first | exact v1 | exact v2 | exact q1 | exact r0) ?_))
    rfl
  rw [decide_eq_false c3] at q1
  by_cases c4 : b = 0
  · rw [if_pos (.inr c4)]
    rw [decide_eq_true c4] at q2
    refine Go.Ev.Fn.intro (fn := Tryz.f71) (body := (Tryz.f71).body.get!) (by kernel_rfl) (by kernel_rfl) (by kernel_rfl) (fun _ => rfl) (Nat.le_of_ble_eq_true (by kernel_rfl)) ?_; unfold Tryz.f71; simp only [Option.get!_some]
    repeat (first | (simp only [go_sem, Nat.reduceEqDiff, Nat.reduceAdd, Nat.reduceSub, Nat.reduceMul, Nat.reduceLeDiff, Nat.reduceLT, reduceIte, reduceCtorEq, Nat.succ_ne_zero, elemsC, Int.reduceToNat, Nat.reducePow]) | (simp (disch := (first | omega | (simp only [AL, List.length_map]; omega))) only [AR, AL, ifT, ifF, take_all, List.length_cons, List.length_nil, Int.reduceToNat, Int.reducePow, Nat.reducePow]) | (refine wk_intro (by kernel_rfl) ?_) | (refine vf_of (by first | exact v1 | exact v2 | exact q1 | exact q2 | exact r0) ?_))
    rfl
  rw [decide_eq_false c4] at q2
  rw [if_neg (fun h => h.elim c3 c4)]
  refine Go.Ev.Fn.intro (fn := Tryz.f71) (body := (Tryz.f71).body.get!) (by kernel_rfl) (by kernel_rfl) (by kernel_rfl) (fun _ => rfl) (Nat.le_of_ble_eq_true (by kernel_rfl)) ?_; unfold Tryz.f71; simp only [Option.get!_some]
  repeat (first | (simp only [go_sem, Nat.reduceEqDiff, Nat.reduceAdd, Nat.reduceSub, Nat.reduceMul, Nat.reduceLeDiff, Nat.reduceLT, reduceIte, reduceCtorEq, Nat.succ_ne_zero, elemsC, Int.reduceToNat, Nat.reducePow]) | (simp (disch := (first | omega | (simp only [AL, List.length_map]; omega))) only [AR, AL, ifT, ifF, take_all, List.length_cons, List.length_nil, Int.reduceToNat, Int.reducePow, Nat.reducePow]) | (refine wk_intro (by kernel_rfl) ?_) | (refine vf_of (by first | exact v1 | exact v2 | exact q1 | exact q2 | exact o1) ?_))
  refine ro_ref (cs := [.int .i64 ((l.length - 1 : Nat) : Int), .int .i64 ((m.length - 1 : Nat) : Int)]) (by decide) ?_ rfl
  simp only [go_sem, Nat.reduceEqDiff, Nat.reduceAdd, Nat.reduceSub, Nat.reduceMul, Nat.reduceLeDiff, Nat.reduceLT, reduceIte, reduceCtorEq, Nat.succ_ne_zero, elemsC, Int.reduceToNat, Nat.reducePow]
end Go.Proofs.YtodiciendlhkgaaGreat

/- ball.Of, Sub; incg.P, Q at 0; vernierref4.Has, in the evaluator. -/
namespace Go.Proofs.YtodiciendlhkgaaGreat
set_option linter.unusedSimpArgs false
set_option linter.unusedVariables false
set_option maxRecDepth 8000
open Go.Ev
/-- A ball's ends. -/
abbrev ballR (a b : Rat) : SV := .agg [.bool (decide (a.num < 0)), natV (lim a.num.natAbs), natV (lim a.den), .bool (decide (b.num < 0)), natV (lim b.num.natAbs), natV (lim b.den)]
theorem ball_Of {v : SV} {q : Rat} {L : Nat} (hv : RatA v q L) (hL : L ≤ 1000000) : Go.Ev.Fn CX 38 [v] (ballR q q) := by
  have n1 := rat_Norm hv (by omega)
  obtain ⟨s, n, d, rfl, -⟩ := hv
  refine Go.Ev.Fn.intro (fn := Tryz.f38) (body := (Tryz.f38).body.get!) (by kernel_rfl) (by kernel_rfl) (by kernel_rfl) (fun _ => rfl) (Nat.le_of_ble_eq_true (by kernel_rfl)) ?_; unfold Tryz.f38; simp only [Option.get!_some]
  repeat (first | (simp only [go_sem, Nat.reduceEqDiff, Nat.reduceAdd, Nat.reduceSub, Nat.reduceMul, Nat.reduceLeDiff, Nat.reduceLT, reduceIte, reduceCtorEq, Nat.succ_ne_zero, elemsC, Int.reduceToNat, Nat.reducePow]) | (simp (disch := (first | omega | (simp only [AL, List.length_map]; omega))) only [AR, AL, ifT, ifF, take_all, List.length_cons, List.length_nil, Int.reduceToNat, Int.reducePow, Nat.reducePow]) | (refine wk_intro (by kernel_rfl) ?_) | (refine vp_draw (id := 1) (l := []) (by kernel_rfl) ?_) | (refine vf_of (by first | exact n1) ?_))
theorem ball_Sub {a b c d : Rat} {L : Nat} (ha : szR a L) (hb : szR b L) (hc : szR c L) (hd : szR d L) (hL : 1 ≤ L) (hL2 : L ≤ 1000000) : Go.Ev.Fn CX 31 [ballR a b, ballR c d] (ballR (a - d) (b - c)) := by
  have s1 := rat_Sub (RatA_rv ha) (RatA_rv hd) hL hL (by omega)
  have s2 := rat_Sub (RatA_rv hb) (RatA_rv hc) hL hL (by omega)
  refine Go.Ev.Fn.intro (fn := Tryz.f31) (body := (Tryz.f31).body.get!) (by kernel_rfl) (by kernel_rfl) (by kernel_rfl) (fun _ => rfl) (Nat.le_of_ble_eq_true (by kernel_rfl)) ?_; unfold Tryz.f31; simp only [Option.get!_some]
  repeat (first | (simp only [go_sem, Nat.reduceEqDiff, Nat.reduceAdd, Nat.reduceSub, Nat.reduceMul, Nat.reduceLeDiff, Nat.reduceLT, reduceIte, reduceCtorEq, Nat.succ_ne_zero, elemsC, Int.reduceToNat, Nat.reducePow]) | (simp (disch := (first | omega | (simp only [AL, List.length_map]; omega))) only [AR, AL, ifT, ifF, take_all, List.length_cons, List.length_nil, Int.reduceToNat, Int.reducePow, Nat.reducePow]) | (refine wk_intro (by kernel_rfl) ?_) | (refine vp_draw (id := 1) (l := []) (by kernel_rfl) ?_) | (refine vf_of (by first | exact s1 | exact s2) ?_))
theorem incg_isOutside {n : Int} (h1 : 1 ≤ n) (h2 : n ≤ 256) : Go.Ev.Fn CX 100 [.int .i64 n, rv 0] (.bool false) := by
  have r0 := rat_Int 0 (by omega)
  have r1 := rat_Int 64 (by omega)
  have c0 := rat_Cmp (RatA_rv (szR_zero (L := 1) (by omega))) (RatA_rv (int_szR (n := 0) (by omega))) (by omega) (by omega) (by omega)
  have c1 := rat_Cmp (RatA_rv (szR_zero (L := 1) (by omega))) (RatA_rv (int_szR (n := 64) (by omega))) (by omega) (by omega) (by omega)
  have e0 : decide (cmpR 0 ((0 : Int) : Rat) < 0) = false := by rw [cmpR_lt]; decide +kernel
  have e1 : decide (cmpR 0 ((64 : Int) : Rat) > 0) = false := by rw [cmpR_gt]; decide +kernel
  refine Go.Ev.Fn.intro (fn := Tryz.f100) (body := (Tryz.f100).body.get!) (by kernel_rfl) (by kernel_rfl) (by kernel_rfl) (fun _ => rfl) (Nat.le_of_ble_eq_true (by kernel_rfl)) ?_; unfold Tryz.f100; simp only [Option.get!_some]
  repeat (first | (simp only [go_sem, Nat.reduceEqDiff, Nat.reduceAdd, Nat.reduceSub, Nat.reduceMul, Nat.reduceLeDiff, Nat.reduceLT, reduceIte, reduceCtorEq, Nat.succ_ne_zero, elemsC, Int.reduceToNat, Nat.reducePow, e0, e1]) | (simp (disch := (first | omega | (simp only [AL, List.length_map]; omega))) only [AR, AL, ifT, ifF, take_all, List.length_cons, List.length_nil, Int.reduceToNat, Int.reducePow, Nat.reducePow, e0, e1]) | (refine wk_intro (by kernel_rfl) ?_) | (refine vp_draw (id := 1) (l := []) (by kernel_rfl) ?_) | (refine vf_of (by first | exact r0 | exact c0 | exact r1 | exact c1) ?_))
theorem incg_P0 {n p : Int} (h1 : 1 ≤ n) (h2 : n ≤ 256) : Go.Ev.Fn CX 57 [.int .i64 n, rv 0, .int .i64 p] (.tup [ballR 0 0, .bool true]) := by
  have n0 := rat_Norm (RatA_rv (szR_zero (L := 1) (by omega))) (by omega)
  have o := incg_isOutside h1 h2
  have z := rat_Zero (RatA_rv (szR_zero (L := 1) (by omega))) (by omega) (by omega)
  rw [decide_eq_true rfl] at z
  have r0 := rat_Int 0 (by omega)
  have b := ball_Of (RatA_rv (int_szR (n := 0) (by omega))) (by omega)
  rw [show ((0 : Int) : Rat) = 0 from rfl] at b r0
  refine Go.Ev.Fn.intro (fn := Tryz.f57) (body := (Tryz.f57).body.get!) (by kernel_rfl) (by kernel_rfl) (by kernel_rfl) (fun _ => rfl) (Nat.le_of_ble_eq_true (by kernel_rfl)) ?_; unfold Tryz.f57; simp only [Option.get!_some]
  repeat (first | (simp only [go_sem, Nat.reduceEqDiff, Nat.reduceAdd, Nat.reduceSub, Nat.reduceMul, Nat.reduceLeDiff, Nat.reduceLT, reduceIte, reduceCtorEq, Nat.succ_ne_zero, elemsC, Int.reduceToNat, Nat.reducePow, Bool.not_false]) | (simp (disch := (first | omega | (simp only [AL, List.length_map]; omega))) only [AR, AL, ifT, ifF, take_all, List.length_cons, List.length_nil, Int.reduceToNat, Int.reducePow, Nat.reducePow, Bool.not_false]) | (refine wk_intro (by kernel_rfl) ?_) | (refine vp_draw (id := 3) (l := []) (by kernel_rfl) ?_) | (refine vp_draw (id := 7) (l := []) (by kernel_rfl) ?_) | (refine vp_draw (id := 8) (l := []) (by kernel_rfl) ?_) | (refine vf_of (by first | exact n0 | exact o | exact z | exact r0 | exact b) ?_))
theorem incg_Q0 {n p : Int} (h1 : 1 ≤ n) (h2 : n ≤ 256) : Go.Ev.Fn CX 39 [.int .i64 n, rv 0, .int .i64 p] (.tup [ballR 1 1, .bool true]) := by
  have b := incg_P0 (p := p) h1 h2
  have r1 := rat_Int 1 (by omega)
  have o := ball_Of (RatA_rv (int_szR (n := 1) (by omega))) (by omega)
  have s := ball_Sub (a := ((1 : Int) : Rat)) (b := ((1 : Int) : Rat)) (c := 0) (d := 0) (L := 2) (int_szR (by omega)) (int_szR (by omega)) (szR_zero (by omega)) (szR_zero (by omega)) (by omega) (by omega)
  rw [show ((1 : Int) : Rat) - 0 = 1 from by show (1 : Rat) - 0 = 1; grind] at s
  refine Go.Ev.Fn.intro (fn := Tryz.f39) (body := (Tryz.f39).body.get!) (by kernel_rfl) (by kernel_rfl) (by kernel_rfl) (fun _ => rfl) (Nat.le_of_ble_eq_true (by kernel_rfl)) ?_; unfold Tryz.f39; simp only [Option.get!_some]
  repeat (first | (simp only [go_sem, Nat.reduceEqDiff, Nat.reduceAdd, Nat.reduceSub, Nat.reduceMul, Nat.reduceLeDiff, Nat.reduceLT, reduceIte, reduceCtorEq, Nat.succ_ne_zero, elemsC, Int.reduceToNat, Nat.reducePow, Bool.not_true]) | (simp (disch := (first | omega | (simp only [AL, List.length_map]; omega))) only [AR, AL, ifT, ifF, take_all, List.length_cons, List.length_nil, Int.reduceToNat, Int.reducePow, Nat.reducePow, Bool.not_true]) | (refine wk_intro (by kernel_rfl) ?_) | (refine vp_draw (id := 4) (l := []) (by kernel_rfl) ?_) | (refine vf_of (by first | exact b | exact r1 | exact o | exact s) ?_))
end Go.Proofs.YtodiciendlhkgaaGreat

/- fix: One Next Shift Of Add Sub Mul Times Small Wider Floor; nat.Bits, in the evaluator. -/
namespace Go.Proofs.YtodiciendlhkgaaGreat
set_option linter.unusedSimpArgs false
set_option linter.unusedVariables false
set_option maxRecDepth 8000
open Go.Ev
/-- Two naturals: a number that lies between them. -/
abbrev spanV (a b : Nat) : SV := .agg [natV (lim a), natV (lim b)]
/-- A natural times 2 to a power, or by it, rounded down. -/
def shfN (a : Nat) (n : Int) : Nat := if 0 ≤ n then a * 2 ^ n.toNat else a / 2 ^ (-n).toNat
theorem lim_len_shl {a n : Nat} : (lim (a * 2 ^ n)).length ≤ (lim a).length + n / 32 + 1 := by
  refine lim_len_lt ?_
  have h1 := lim_len_pow (a := a)
  have h2 : 2 ^ n ≤ 4294967296 ^ (n / 32 + 1) := by
    rw [show (4294967296 : Nat) = 2 ^ 32 from rfl, ← Nat.pow_mul]
    exact Nat.pow_le_pow_right (by omega) (by omega)
  calc a * 2 ^ n < 4294967296 ^ (lim a).length * 2 ^ n := Nat.mul_lt_mul_of_pos_right h1 (Nat.pow_pos (by omega))
    _ ≤ 4294967296 ^ (lim a).length * 4294967296 ^ (n / 32 + 1) := Nat.mul_le_mul_left _ h2
    _ = 4294967296 ^ ((lim a).length + n / 32 + 1) := by rw [← Nat.pow_add, Nat.add_assoc]
theorem fix_Over' {N D : Nat} (hD : D ≠ 0) (hl : (lim N).length ≤ 536870912) (hm : (lim D).length ≤ 536870912) : Go.Ev.Fn CX 151 [natV (lim N), natV (lim D)] (natV (lim (N / D))) := by
  have h := nat_DivL hD hl hm
  refine Go.Ev.Fn.intro (fn := Tryz.f151) (body := (Tryz.f151).body.get!) (by kernel_rfl) (by kernel_rfl) (by kernel_rfl) (fun _ => rfl) (Nat.le_of_ble_eq_true (by kernel_rfl)) ?_; unfold Tryz.f151; simp only [Option.get!_some]
  repeat (first | (simp only [go_sem, Nat.reduceEqDiff, Nat.reduceAdd, Nat.reduceSub, Nat.reduceMul, Nat.reduceLeDiff, Nat.reduceLT, reduceIte, reduceCtorEq, Nat.succ_ne_zero, elemsC, Int.reduceToNat, Nat.reducePow]) | (simp (disch := (first | omega | (simp only [AL, List.length_map]; omega))) only [AR, AL, ifT, ifF, take_all, List.length_cons, List.length_nil, Int.reduceToNat, Int.reducePow, Nat.reducePow]) | (refine wk_intro (by kernel_rfl) ?_) | (refine vf_of (by first | exact h) ?_))
theorem fix_One : Go.Ev.Fn CX 126 [] (natV (lim 1)) := by
  have o := nat_Of 1 (by omega)
  refine Go.Ev.Fn.intro (fn := Tryz.f126) (body := (Tryz.f126).body.get!) (by kernel_rfl) (by kernel_rfl) (by kernel_rfl) (fun _ => rfl) (Nat.le_of_ble_eq_true (by kernel_rfl)) ?_; unfold Tryz.f126; simp only [Option.get!_some]
  repeat (first | (simp only [go_sem, Nat.reduceEqDiff, Nat.reduceAdd, Nat.reduceSub, Nat.reduceMul, Nat.reduceLeDiff, Nat.reduceLT, reduceIte, reduceCtorEq, Nat.succ_ne_zero, elemsC, Int.reduceToNat, Nat.reducePow]) | (simp (disch := (first | omega | (simp only [AL, List.length_map]; omega))) only [AR, AL, ifT, ifF, take_all, List.length_cons, List.length_nil, Int.reduceToNat, Int.reducePow, Nat.reducePow]) | (refine wk_intro (by kernel_rfl) ?_) | (refine vf_of (by first | exact o) ?_))
theorem fix_Next {a : Nat} (h : (lim a).length ≤ 1000000) : Go.Ev.Fn CX 127 [natV (lim a)] (natV (lim (a + 1))) := by
  have o := fix_One
  have l := lim_len1
  have s := nat_AddL (N := a) (D := 1) (by omega) (by omega)
  refine Go.Ev.Fn.intro (fn := Tryz.f127) (body := (Tryz.f127).body.get!) (by kernel_rfl) (by kernel_rfl) (by kernel_rfl) (fun _ => rfl) (Nat.le_of_ble_eq_true (by kernel_rfl)) ?_; unfold Tryz.f127; simp only [Option.get!_some]
  repeat (first | (simp only [go_sem, Nat.reduceEqDiff, Nat.reduceAdd, Nat.reduceSub, Nat.reduceMul, Nat.reduceLeDiff, Nat.reduceLT, reduceIte, reduceCtorEq, Nat.succ_ne_zero, elemsC, Int.reduceToNat, Nat.reducePow]) | (simp (disch := (first | omega | (simp only [AL, List.length_map]; omega))) only [AR, AL, ifT, ifF, take_all, List.length_cons, List.length_nil, Int.reduceToNat, Int.reducePow, Nat.reducePow]) | (refine wk_intro (by kernel_rfl) ?_) | (refine vf_of (by first | exact o | exact s) ?_))
theorem fix_Add {a b c d : Nat} (h1 : (lim a).length ≤ 1000000) (h2 : (lim b).length ≤ 1000000) (h3 : (lim c).length ≤ 1000000) (h4 : (lim d).length ≤ 1000000) : Go.Ev.Fn CX 132 [spanV a b, spanV c d] (spanV (a + c) (b + d)) := by
  have s1 := nat_AddL (N := a) (D := c) (by omega) (by omega)
  have s2 := nat_AddL (N := b) (D := d) (by omega) (by omega)
  refine Go.Ev.Fn.intro (fn := Tryz.f132) (body := (Tryz.f132).body.get!) (by kernel_rfl) (by kernel_rfl) (by kernel_rfl) (fun _ => rfl) (Nat.le_of_ble_eq_true (by kernel_rfl)) ?_; unfold Tryz.f132; simp only [Option.get!_some]
  repeat (first | (simp only [go_sem, Nat.reduceEqDiff, Nat.reduceAdd, Nat.reduceSub, Nat.reduceMul, Nat.reduceLeDiff, Nat.reduceLT, reduceIte, reduceCtorEq, Nat.succ_ne_zero, elemsC, Int.reduceToNat, Nat.reducePow]) | (simp (disch := (first | omega | (simp only [AL, List.length_map]; omega))) only [AR, AL, ifT, ifF, take_all, List.length_cons, List.length_nil, Int.reduceToNat, Int.reducePow, Nat.reducePow]) | (refine wk_intro (by kernel_rfl) ?_) | (refine vp_draw (id := 1) (l := [6, 8, 11, 13]) (by kernel_rfl) ?_) | (refine vf_of (by first | exact s1 | exact s2) ?_))
theorem fix_Wider {a b n : Nat} (h1 : (lim a).length ≤ 1000000) (h2 : (lim b).length ≤ 1000000) (hn : n < 18446744073709551616) : Go.Ev.Fn CX 133 [spanV a b, .int .u64 (n : Int)] (spanV a (b + n)) := by
  have o := nat_Of n hn
  have l : (lim n).length ≤ 1000000 := Nat.le_trans (lim_len_lt (L := 2) (by omega)) (by omega)
  have s := nat_AddL (N := b) (D := n) (by omega) (by omega)
  refine Go.Ev.Fn.intro (fn := Tryz.f133) (body := (Tryz.f133).body.get!) (by kernel_rfl) (by kernel_rfl) (by kernel_rfl) (fun _ => rfl) (Nat.le_of_ble_eq_true (by kernel_rfl)) ?_; unfold Tryz.f133; simp only [Option.get!_some]
  repeat (first | (simp only [go_sem, Nat.reduceEqDiff, Nat.reduceAdd, Nat.reduceSub, Nat.reduceMul, Nat.reduceLeDiff, Nat.reduceLT, reduceIte, reduceCtorEq, Nat.succ_ne_zero, elemsC, Int.reduceToNat, Nat.reducePow]) | (simp (disch := (first | omega | (simp only [AL, List.length_map]; omega))) only [AR, AL, ifT, ifF, take_all, List.length_cons, List.length_nil, Int.reduceToNat, Int.reducePow, Nat.reducePow]) | (refine wk_intro (by kernel_rfl) ?_) | (refine vp_draw (id := 1) (l := [8, 10]) (by kernel_rfl) ?_) | (refine vf_of (by first | exact o | exact s) ?_))
theorem fix_Times {a b n d : Nat} (h1 : (lim a).length ≤ 100000) (h2 : (lim b).length ≤ 100000) (h3 : (lim n).length ≤ 100000) (h4 : (lim d).length ≤ 100000) (hd : d ≠ 0) : Go.Ev.Fn CX 131 [spanV a b, natV (lim n), natV (lim d)] (spanV (a * n / d) (b * n / d + 1)) := by
  have m1 := nat_MulL (N := a) (D := n) (by omega) (by omega)
  have m2 := nat_MulL (N := b) (D := n) (by omega) (by omega)
  have l1 := lim_len_mul (a := a) (b := n)
  have l2 := lim_len_mul (a := b) (b := n)
  have o1 := fix_Over' (N := a * n) (D := d) hd (by omega) (by omega)
  have o2 := fix_Over' (N := b * n) (D := d) hd (by omega) (by omega)
  have l3 := lim_len_mono (Nat.div_le_self (b * n) d)
  have n1 := fix_Next (a := b * n / d) (by omega)
  generalize a * n / d = x at *
  generalize b * n / d = y at *
  generalize a * n = u at *
  generalize b * n = v at *
  refine Go.Ev.Fn.intro (fn := Tryz.f131) (body := (Tryz.f131).body.get!) (by kernel_rfl) (by kernel_rfl) (by kernel_rfl) (fun _ => rfl) (Nat.le_of_ble_eq_true (by kernel_rfl)) ?_; unfold Tryz.f131; simp only [Option.get!_some]
  repeat (first | (simp only [go_sem, Nat.reduceEqDiff, Nat.reduceAdd, Nat.reduceSub, Nat.reduceMul, Nat.reduceLeDiff, Nat.reduceLT, reduceIte, reduceCtorEq, Nat.succ_ne_zero, elemsC, Int.reduceToNat, Nat.reducePow]) | (simp (disch := (first | omega | (simp only [AL, List.length_map]; omega))) only [AR, AL, ifT, ifF, take_all, List.length_cons, List.length_nil, Int.reduceToNat, Int.reducePow, Nat.reducePow]) | (refine wk_intro (by kernel_rfl) ?_) | (refine vp_draw (id := 1) (l := [8, 1, 10, 2, 14, 1, 16, 2, 18]) (by kernel_rfl) ?_) | (refine vf_of (by first | exact m1 | exact o1 | exact m2 | exact o2 | exact n1) ?_))
theorem fix_Less' {N D : Nat} (hl : (lim N).length ≤ 536870912) (hm : (lim D).length ≤ 536870912) : Go.Ev.Fn CX 150 [natV (lim N), natV (lim D)] (natV (lim (N - D))) := by
  have h := nat_SubL hl hm
  refine Go.Ev.Fn.intro (fn := Tryz.f150) (body := (Tryz.f150).body.get!) (by kernel_rfl) (by kernel_rfl) (by kernel_rfl) (fun _ => rfl) (Nat.le_of_ble_eq_true (by kernel_rfl)) ?_; unfold Tryz.f150; simp only [Option.get!_some]
  repeat (first | (simp only [go_sem, Nat.reduceEqDiff, Nat.reduceAdd, Nat.reduceSub, Nat.reduceMul, Nat.reduceLeDiff, Nat.reduceLT, reduceIte, reduceCtorEq, Nat.succ_ne_zero, elemsC, Int.reduceToNat, Nat.reducePow]) | (simp (disch := (first | omega | (simp only [AL, List.length_map]; omega))) only [AR, AL, ifT, ifF, take_all, List.length_cons, List.length_nil, Int.reduceToNat, Int.reducePow, Nat.reducePow]) | (refine wk_intro (by kernel_rfl) ?_) | (refine vf_of (by first | exact h) ?_))
theorem fix_Sub {a b c d : Nat} (h1 : (lim a).length ≤ 100000) (h2 : (lim b).length ≤ 100000) (h3 : (lim c).length ≤ 100000) (h4 : (lim d).length ≤ 100000) : Go.Ev.Fn CX 181 [spanV a b, spanV c d] (spanV (a - d) (b - c + 1)) := by
  have m1 := fix_Less' (N := a) (D := d) (by omega) (by omega)
  have m2 := fix_Less' (N := b) (D := c) (by omega) (by omega)
  have l := lim_len_mono (Nat.sub_le b c)
  have n1 := fix_Next (a := b - c) (by omega)
  generalize a - d = x at *
  generalize b - c = y at *
  refine Go.Ev.Fn.intro (fn := Tryz.f181) (body := (Tryz.f181).body.get!) (by kernel_rfl) (by kernel_rfl) (by kernel_rfl) (fun _ => rfl) (Nat.le_of_ble_eq_true (by kernel_rfl)) ?_; unfold Tryz.f181; simp only [Option.get!_some]
  repeat (first | (simp only [go_sem, Nat.reduceEqDiff, Nat.reduceAdd, Nat.reduceSub, Nat.reduceMul, Nat.reduceLeDiff, Nat.reduceLT, reduceIte, reduceCtorEq, Nat.succ_ne_zero, elemsC, Int.reduceToNat, Nat.reducePow]) | (simp (disch := (first | omega | (simp only [AL, List.length_map]; omega))) only [AR, AL, ifT, ifF, take_all, List.length_cons, List.length_nil, Int.reduceToNat, Int.reducePow, Nat.reducePow]) | (refine wk_intro (by kernel_rfl) ?_) | (refine vp_draw (id := 1) (l := [6, 8, 11, 13, 14]) (by kernel_rfl) ?_) | (refine vf_of (by first | exact m1 | exact m2 | exact n1) ?_))
end Go.Proofs.YtodiciendlhkgaaGreat

/- vernierref4: Less, More, Num, Sum, Minus, Often, By, Wide, Most, Back, Rat, Ball, in the evaluator. -/
namespace Go.Proofs.YtodiciendlhkgaaGreat
set_option linter.unusedSimpArgs false
set_option linter.unusedVariables false
set_option maxRecDepth 8000
open Go.Ev
theorem bne_dec (z : Int) : (z != 0) = decide (z ≠ 0) := by by_cases h : z = 0 <;> simp [h]
theorem cmpN_ne {a b : Nat} : (cmpN a b != 0) = decide (a ≠ b) := by
  rw [bne_dec]
  exact decide_eq_decide.2 (by unfold cmpN; split <;> (try split) <;> omega)
theorem mul_p2_abs (z : Int) (w : Nat) : (z * ((2 ^ w : Nat) : Int)).natAbs = z.natAbs * 2 ^ w := by rw [Int.natAbs_mul, Int.natAbs_natCast]
section
variable {a b c d : Int} (ha : (lim a.natAbs).length ≤ 100000) (hb : (lim b.natAbs).length ≤ 100000) (hc : (lim c.natAbs).length ≤ 100000) (hd : (lim d.natAbs).length ≤ 100000)
include ha hb
end
end Go.Proofs.YtodiciendlhkgaaGreat

/- fix.Shift, in the evaluator. -/
namespace Go.Proofs.YtodiciendlhkgaaGreat
set_option linter.unusedSimpArgs false
set_option linter.unusedVariables false
set_option maxRecDepth 8000
open Go.Ev
theorem nat_shl {N m : Nat} (h : (lim N).length ≤ 1073741824) (hm : m ≤ 4096) : Go.Ev.Fn CX 158 [natV (lim N), .int .i64 (m : Int)] (natV (lim (N * 2 ^ m))) := by
  have := shift_up (lim N) m (okL_lim _) h _ rfl hm
  rwa [wth_lim] at this
theorem nat_shr {N m : Nat} (h : (lim N).length ≤ 1073741824) (hm : m ≤ 4096) (h0 : 0 < m) : Go.Ev.Fn CX 158 [natV (lim N), .int .i64 (-(m : Int))] (natV (lim (N / 2 ^ m))) := by
  have := shift_down (lim N) m (okL_lim _) h _ rfl hm h0
  rwa [wth_lim] at this
theorem fix_shl {a m : Nat} (ha : (lim a).length ≤ 100000) (hm : m ≤ 100000) : Go.Ev.Fn CX 125 [natV (lim a), .int .i64 (m : Int)] (natV (lim (a * 2 ^ m))) := by
  have hl := fun j => lim_len_shl (a := a) (n := j)
  refine Go.Ev.Fn.intro (fn := Tryz.f125) (body := (Tryz.f125).body.get!) (by kernel_rfl) (by kernel_rfl) (by kernel_rfl) (fun _ => rfl) (Nat.le_of_ble_eq_true (by kernel_rfl)) ?_; unfold Tryz.f125; simp only [Option.get!_some]
  repeat (first | (simp only [go_sem, Nat.reduceEqDiff, Nat.reduceAdd, Nat.reduceSub, Nat.reduceMul, Nat.reduceLeDiff, Nat.reduceLT, reduceIte, reduceCtorEq, Nat.succ_ne_zero, elemsC, Int.reduceToNat, Nat.reducePow]) | (simp (disch := (first | omega | (simp only [AL, List.length_map]; omega))) only [AR, AL, ifT, ifF, take_all, List.length_cons, List.length_nil, Int.reduceToNat, Int.reducePow, Nat.reducePow]) | (refine wk_intro (by kernel_rfl) ?_))
  refine vp_loop_inv (fun s => ∃ j : Nat, j ≤ m ∧ s.tmp 0 = .sv (natV (lim (a * 2 ^ j))) ∧ s.tmp 1 = .sv (.int .i64 ((m - j : Nat) : Int)))
    (fun s => match s.tmp 1 with | .sv (.int _ i) => i.toNat | _ => 0) ⟨0, by omega, by rw [Nat.pow_zero, Nat.mul_one]; rfl, rfl⟩ ?_
  rintro s ⟨j, hj, i0, i1⟩
  have hlj := hl j
  by_cases hc : 1024 < m - j
  · obtain ⟨K, hK⟩ : ∃ K : Nat, K = 1024 := ⟨_, rfl⟩
    have st := nat_shl (N := a * 2 ^ j) (m := K) (by omega) (by omega)
    rw [Nat.mul_assoc, ← Nat.pow_add] at st
    generalize hx : a * 2 ^ j = x at *
    generalize hy : a * 2 ^ (j + K) = y at *
    rw [show (K : Int) = 1024 by omega] at st
    repeat (first | (simp only [go_sem, Nat.reduceEqDiff, Nat.reduceAdd, Nat.reduceSub, Nat.reduceMul, Nat.reduceLeDiff, Nat.reduceLT, reduceIte, reduceCtorEq, Nat.succ_ne_zero, elemsC, Int.reduceToNat, Nat.reducePow, i0, i1]) | (simp (disch := (first | omega | (simp only [AL, List.length_map]; omega))) only [AR, AL, ifT, ifF, take_all, List.length_cons, List.length_nil, Int.reduceToNat, Int.reducePow, Nat.reducePow, i0, i1]) | (refine wk_intro (by kernel_rfl) ?_) | (refine vf_of (by first | exact st) ?_))
    exact ⟨⟨j + K, by omega, by rw [hy], by rw [show ((m - (j + K) : Nat) : Int) = ((m - j : Nat) : Int) - 1024 by omega]⟩, by omega⟩
  · have st := nat_shl (N := a * 2 ^ j) (m := m - j) (by omega) (by omega)
    rw [Nat.mul_assoc, ← Nat.pow_add, show j + (m - j) = m by omega] at st
    generalize a * 2 ^ j = x at *
    generalize a * 2 ^ m = y at *
    repeat (first | (simp only [go_sem, Nat.reduceEqDiff, Nat.reduceAdd, Nat.reduceSub, Nat.reduceMul, Nat.reduceLeDiff, Nat.reduceLT, reduceIte, reduceCtorEq, Nat.succ_ne_zero, elemsC, Int.reduceToNat, Nat.reducePow, i0, i1]) | (simp (disch := (first | omega | (simp only [AL, List.length_map]; omega))) only [AR, AL, ifT, ifF, take_all, List.length_cons, List.length_nil, Int.reduceToNat, Int.reducePow, Nat.reducePow, i0, i1]) | (refine wk_intro (by kernel_rfl) ?_))
    refine vp_loop_inv (fun s => s.tmp 0 = .sv (natV (lim x)) ∧ s.tmp 1 = .sv (.int .i64 ((m - j : Nat) : Int))) (fun _ => 0) ⟨i0, i1⟩ ?_
    rintro s' ⟨j0, j1⟩
    repeat (first | (simp only [go_sem, Nat.reduceEqDiff, Nat.reduceAdd, Nat.reduceSub, Nat.reduceMul, Nat.reduceLeDiff, Nat.reduceLT, reduceIte, reduceCtorEq, Nat.succ_ne_zero, elemsC, Int.reduceToNat, Nat.reducePow, j0, j1]) | (simp (disch := (first | omega | (simp only [AL, List.length_map]; omega))) only [AR, AL, ifT, ifF, take_all, List.length_cons, List.length_nil, Int.reduceToNat, Int.reducePow, Nat.reducePow, j0, j1]) | (refine wk_intro (by kernel_rfl) ?_) | (refine vf_of (by first | exact st) ?_))
theorem fix_shr {a m : Nat} (ha : (lim a).length ≤ 100000) (hm : m ≤ 100000) (h0 : 0 < m) : Go.Ev.Fn CX 125 [natV (lim a), .int .i64 (-(m : Int))] (natV (lim (a / 2 ^ m))) := by
  have hl := fun j => lim_len_mono (Nat.div_le_self a (2 ^ j))
  refine Go.Ev.Fn.intro (fn := Tryz.f125) (body := (Tryz.f125).body.get!) (by kernel_rfl) (by kernel_rfl) (by kernel_rfl) (fun _ => rfl) (Nat.le_of_ble_eq_true (by kernel_rfl)) ?_; unfold Tryz.f125; simp only [Option.get!_some]
  repeat (first | (simp only [go_sem, Nat.reduceEqDiff, Nat.reduceAdd, Nat.reduceSub, Nat.reduceMul, Nat.reduceLeDiff, Nat.reduceLT, reduceIte, reduceCtorEq, Nat.succ_ne_zero, elemsC, Int.reduceToNat, Nat.reducePow]) | (simp (disch := (first | omega | (simp only [AL, List.length_map]; omega))) only [AR, AL, ifT, ifF, take_all, List.length_cons, List.length_nil, Int.reduceToNat, Int.reducePow, Nat.reducePow]) | (refine wk_intro (by kernel_rfl) ?_))
  refine vp_loop_inv (fun s => s.tmp 0 = .sv (natV (lim a)) ∧ s.tmp 1 = .sv (.int .i64 (-(m : Int)))) (fun _ => 0) ⟨rfl, rfl⟩ ?_
  rintro s ⟨i0, i1⟩
  repeat (first | (simp only [go_sem, Nat.reduceEqDiff, Nat.reduceAdd, Nat.reduceSub, Nat.reduceMul, Nat.reduceLeDiff, Nat.reduceLT, reduceIte, reduceCtorEq, Nat.succ_ne_zero, elemsC, Int.reduceToNat, Nat.reducePow, i0, i1]) | (simp (disch := (first | omega | (simp only [AL, List.length_map]; omega))) only [AR, AL, ifT, ifF, take_all, List.length_cons, List.length_nil, Int.reduceToNat, Int.reducePow, Nat.reducePow, i0, i1]) | (refine wk_intro (by kernel_rfl) ?_))
  refine vp_loop_inv (fun s => ∃ j : Nat, j < m ∧ s.tmp 0 = .sv (natV (lim (a / 2 ^ j))) ∧ s.tmp 1 = .sv (.int .i64 (-((m - j : Nat) : Int))))
    (fun s => match s.tmp 1 with | .sv (.int _ i) => (-i).toNat | _ => 0) ⟨0, by omega, by rw [Nat.pow_zero, Nat.div_one]; exact i0, i1⟩ ?_
  rintro s2 ⟨j, hj, j0, j1⟩
  have hlj := hl j
  by_cases hc : 1024 < m - j
  · obtain ⟨K, hK⟩ : ∃ K : Nat, K = 1024 := ⟨_, rfl⟩
    have st := nat_shr (N := a / 2 ^ j) (m := K) (by omega) (by omega) (by omega)
    rw [Nat.div_div_eq_div_mul, ← Nat.pow_add] at st
    generalize hx : a / 2 ^ j = x at *
    generalize hy : a / 2 ^ (j + K) = y at *
    rw [show -(K : Int) = -1024 by omega] at st
    repeat (first | (simp only [go_sem, Nat.reduceEqDiff, Nat.reduceAdd, Nat.reduceSub, Nat.reduceMul, Nat.reduceLeDiff, Nat.reduceLT, reduceIte, reduceCtorEq, Nat.succ_ne_zero, elemsC, Int.reduceToNat, Nat.reducePow, j0, j1]) | (simp (disch := (first | omega | (simp only [AL, List.length_map]; omega))) only [AR, AL, ifT, ifF, take_all, List.length_cons, List.length_nil, Int.reduceToNat, Int.reducePow, Nat.reducePow, j0, j1]) | (refine wk_intro (by kernel_rfl) ?_) | (refine vf_of (by first | exact st) ?_))
    exact ⟨⟨j + K, by omega, by rw [hy], by rw [show -((m - (j + K) : Nat) : Int) = -((m - j : Nat) : Int) + 1024 by omega]⟩, by omega⟩
  · have st := nat_shr (N := a / 2 ^ j) (m := m - j) (by omega) (by omega) (by omega)
    rw [Nat.div_div_eq_div_mul, ← Nat.pow_add, show j + (m - j) = m by omega] at st
    generalize a / 2 ^ j = x at *
    generalize a / 2 ^ m = y at *
    repeat (first | (simp only [go_sem, Nat.reduceEqDiff, Nat.reduceAdd, Nat.reduceSub, Nat.reduceMul, Nat.reduceLeDiff, Nat.reduceLT, reduceIte, reduceCtorEq, Nat.succ_ne_zero, elemsC, Int.reduceToNat, Nat.reducePow, j0, j1]) | (simp (disch := (first | omega | (simp only [AL, List.length_map]; omega))) only [AR, AL, ifT, ifF, take_all, List.length_cons, List.length_nil, Int.reduceToNat, Int.reducePow, Nat.reducePow, j0, j1]) | (refine wk_intro (by kernel_rfl) ?_) | (refine vf_of (by first | exact st) ?_))
end Go.Proofs.YtodiciendlhkgaaGreat

/- nat.Bits, fix.Small; vernierref1.Bits, vernierref4.root, Sqrt, in the evaluator. -/
namespace Go.Proofs.YtodiciendlhkgaaGreat
set_option linter.unusedSimpArgs false
set_option linter.unusedVariables false
set_option maxRecDepth 8000
open Go.Ev
theorem blen_iff {x k : Nat} : blen x ≤ k ↔ x < 2 ^ k := by
  unfold blen
  by_cases h : x = 0
  · rw [if_pos h, h]
    have : 0 < 2 ^ k := Nat.pow_pos (by omega)
    omega
  · rw [if_neg h]
    have := Nat.log2_lt (n := x) (k := k) h
    omega
theorem blen_lims (N : Nat) (h : N ≠ 0) : blen N = 32 * ((lim N).length - 1) + blen ((lim N).getD ((lim N).length - 1) 0) := by
  have h0 := lim_pos h
  have ht := trimL_getD (trimL_lim N) h0
  have hw := wth_lim N
  have hok := okL_lim N
  generalize lim N = a at *
  have h1 := wth_at a (w := a.length - 1) (by omega)
  rw [List.drop_of_length_le (by omega), show wth [] = 0 from rfl, Nat.mul_zero, Nat.add_zero, hw] at h1
  have h2 := wth_lt (okL_take hok (a.length - 1))
  rw [List.length_take, Nat.min_eq_left (by omega)] at h2
  rw [show (4294967296 : Nat) = 2 ^ 32 from rfl, ← Nat.pow_mul] at h1 h2
  have hp : 0 < 2 ^ (32 * (a.length - 1)) := Nat.pow_pos (by omega)
  have h3 : N / 2 ^ (32 * (a.length - 1)) = a.getD (a.length - 1) 0 := by
    rw [h1, Nat.add_mul_div_left _ _ hp, Nat.div_eq_of_lt h2, Nat.zero_add]
  have h4 : 2 ^ (32 * (a.length - 1)) ≤ N := by
    have := Nat.mul_le_mul_left (2 ^ (32 * (a.length - 1))) (show 1 ≤ a.getD (a.length - 1) 0 by omega)
    omega
  rw [blen_shift h4, h3]
theorem nat_Bits {N : Nat} (h : (lim N).length ≤ 1000000) : Go.Ev.Fn CX 161 [natV (lim N)] (.int .i64 (blen N : Nat)) := by
  have t := nat_trim (lim N) (okL_lim N) (by omega)
  rw [wth_lim] at t
  by_cases h0 : N = 0
  · subst h0
    have e : (lim 0).length = 0 := by rw [lim_zero]; rfl
    have e2 : blen 0 = 0 := rfl
    rw [e2]
    refine Go.Ev.Fn.intro (fn := Tryz.f161) (body := (Tryz.f161).body.get!) (by kernel_rfl) (by kernel_rfl) (by kernel_rfl) (fun _ => rfl) (Nat.le_of_ble_eq_true (by kernel_rfl)) ?_; unfold Tryz.f161; simp only [Option.get!_some]
    repeat (first | (simp only [go_sem, Nat.reduceEqDiff, Nat.reduceAdd, Nat.reduceSub, Nat.reduceMul, Nat.reduceLeDiff, Nat.reduceLT, reduceIte, reduceCtorEq, Nat.succ_ne_zero, elemsC, Int.reduceToNat, Nat.reducePow]) | (simp (disch := (first | omega | (simp only [AL, List.length_map]; omega))) only [AR, AL, ifT, ifF, take_all, List.length_cons, List.length_nil, Int.reduceToNat, Int.reducePow, Nat.reducePow]) | (refine wk_intro (by kernel_rfl) ?_) | (refine vf_of (by first | exact t) ?_))
    rfl
  · have e := blen_lims N h0
    have hl := lim_pos h0
    have hg := getD_lt (okL_lim N) ((lim N).length - 1)
    have b := bits_Len32 _ hg
    have hb : blen ((lim N).getD ((lim N).length - 1) 0) ≤ 32 := blen_iff.2 hg
    rw [e]
    generalize hgx : (lim N).getD ((lim N).length - 1) 0 = x at *
    generalize hcs : lim N = cs at *
    have hi : (cs.map limb).length = cs.length := List.length_map _
    have hat : ((cs.map limb).drop (cs.length - 1)).head? = some (limb x) := by
      rw [List.head?_drop, List.getElem?_map, List.getElem?_eq_getElem (by omega)]
      rw [List.getD_eq_getElem?_getD, List.getElem?_eq_getElem (by omega)] at hgx
      rw [← hgx]; rfl
    generalize blen x = y at *
    refine Go.Ev.Fn.intro (fn := Tryz.f161) (body := (Tryz.f161).body.get!) (by kernel_rfl) (by kernel_rfl) (by kernel_rfl) (fun _ => rfl) (Nat.le_of_ble_eq_true (by kernel_rfl)) ?_; unfold Tryz.f161; simp only [Option.get!_some]
    repeat (first | (simp only [go_sem, Nat.reduceEqDiff, Nat.reduceAdd, Nat.reduceSub, Nat.reduceMul, Nat.reduceLeDiff, Nat.reduceLT, reduceIte, reduceCtorEq, Nat.succ_ne_zero, elemsC, Int.reduceToNat, Nat.reducePow, hgx]) | (simp (disch := (first | omega | (simp only [AL, List.length_map]; omega))) only [AR, AL, ifT, ifF, take_all, List.length_cons, List.length_nil, Int.reduceToNat, Int.reducePow, Nat.reducePow, hgx]) | (refine wk_intro (by kernel_rfl) ?_) | (refine vf_of (by first | exact t | exact b) ?_))
    congr 1
theorem fix_Small {a b : Nat} (h : (lim b).length ≤ 1000000) {k : Nat} (hk : k ≤ 1000) : Go.Ev.Fn CX 130 [spanV a b, .int .i64 (k : Int)] (.bool (decide (b < 2 ^ k))) := by
  have s := nat_Bits h
  rw [show decide (b < 2 ^ k) = decide (((blen b : Nat) : Int) ≤ (k : Int)) from decide_eq_decide.2 (by rw [← blen_iff]; omega)]
  generalize blen b = x at *
  refine Go.Ev.Fn.intro (fn := Tryz.f130) (body := (Tryz.f130).body.get!) (by kernel_rfl) (by kernel_rfl) (by kernel_rfl) (fun _ => rfl) (Nat.le_of_ble_eq_true (by kernel_rfl)) ?_; unfold Tryz.f130; simp only [Option.get!_some]
  repeat (first | (simp only [go_sem, Nat.reduceEqDiff, Nat.reduceAdd, Nat.reduceSub, Nat.reduceMul, Nat.reduceLeDiff, Nat.reduceLT, reduceIte, reduceCtorEq, Nat.succ_ne_zero, elemsC, Int.reduceToNat, Nat.reducePow]) | (simp (disch := (first | omega | (simp only [AL, List.length_map]; omega))) only [AR, AL, ifT, ifF, take_all, List.length_cons, List.length_nil, Int.reduceToNat, Int.reducePow, Nat.reducePow]) | (refine wk_intro (by kernel_rfl) ?_) | (refine vf_of (by first | exact s) ?_))
end Go.Proofs.YtodiciendlhkgaaGreat

/- vernierref1.Bits; vernierref4.root, Sqrt, in the evaluator. -/
namespace Go.Proofs.YtodiciendlhkgaaGreat
set_option linter.unusedSimpArgs false
set_option linter.unusedVariables false
set_option maxRecDepth 8000
open Go.Ev
theorem blen_half {x : Nat} (h : x ≠ 0) : blen x = blen (x / 2) + 1 := by
  have h1 := blen_iff (x := x) (k := blen x)
  have h2 := blen_iff (x := x / 2) (k := blen (x / 2))
  have h3 := blen_iff (x := x) (k := blen (x / 2) + 1)
  have h4 := blen_iff (x := x / 2) (k := blen x - 1)
  have h5 : blen x ≠ 0 := fun e => by rw [e] at h1; simp at h1; omega
  have h6 : x < 2 ^ blen x := h1.1 (Nat.le_refl _)
  have h7 : x / 2 < 2 ^ blen (x / 2) := h2.1 (Nat.le_refl _)
  rw [Nat.pow_succ] at h3
  have h8 : 2 ^ blen x = 2 ^ (blen x - 1) * 2 := by rw [← Nat.pow_succ, Nat.succ_eq_add_one, show blen x - 1 + 1 = blen x by omega]
  have h9 := h3.2 (by omega)
  have h10 := h4.2 (by omega)
  omega
/-- There is a root, rounded down. -/
theorem sqrt_ex (a : Nat) : ∃ r, r * r ≤ a ∧ a < (r + 1) * (r + 1) := by
  induction a with
  | zero => exact ⟨0, by omega, by omega⟩
  | succ a ih =>
    obtain ⟨r, h1, h2⟩ := ih
    by_cases h : (r + 1) * (r + 1) ≤ a + 1
    · refine ⟨r + 1, h, ?_⟩
      have : (r + 1 + 1) * (r + 1 + 1) = (r + 1) * (r + 1) + (r + 1) + (r + 2) := by
        rw [Nat.add_mul, Nat.mul_add]; omega
      omega
    · exact ⟨r, by omega, by omega⟩
noncomputable def rtN (a : Nat) : Nat := (sqrt_ex a).choose
theorem rtN_le (a : Nat) : rtN a * rtN a ≤ a := (sqrt_ex a).choose_spec.1
theorem lt_rtN (a : Nat) : a < (rtN a + 1) * (rtN a + 1) := (sqrt_ex a).choose_spec.2
theorem rtN_eq {a r : Nat} (h1 : r * r ≤ a) (h2 : a < (r + 1) * (r + 1)) : r = rtN a := by
  have h3 := rtN_le a
  have h4 := lt_rtN a
  rcases Nat.lt_trichotomy r (rtN a) with h | h | h
  · have := Nat.mul_le_mul (show r + 1 ≤ rtN a from h) (show r + 1 ≤ rtN a from h)
    omega
  · exact h
  · have := Nat.mul_le_mul (show rtN a + 1 ≤ r from h) (show rtN a + 1 ≤ r from h)
    omega
theorem rtN_self (a : Nat) : rtN a ≤ a := by
  have := rtN_le a
  rcases Nat.eq_zero_or_pos (rtN a) with h | h
  · omega
  · have := Nat.le_mul_of_pos_left (rtN a) h
    omega
end Go.Proofs.YtodiciendlhkgaaGreat

/- vernierref4.Prod, in the evaluator. -/
namespace Go.Proofs.YtodiciendlhkgaaGreat
set_option linter.unusedSimpArgs false
set_option linter.unusedVariables false
set_option maxRecDepth 8000
open Go.Ev
def mnZ (m x : Int) : Int := if x < m then x else m
def mxZ (m x : Int) : Int := if m < x then x else m
def loP (p1 p2 p3 p4 : Int) : Nat → Int
  | 0 => p1
  | 1 => p1
  | 2 => mnZ p1 p2
  | 3 => mnZ (mnZ p1 p2) p3
  | _ => mnZ (mnZ (mnZ p1 p2) p3) p4
def hiP (p1 p2 p3 p4 : Int) : Nat → Int
  | 0 => p1
  | 1 => p1
  | 2 => mxZ p1 p2
  | 3 => mxZ (mxZ p1 p2) p3
  | _ => mxZ (mxZ (mxZ p1 p2) p3) p4
/-- The least and the greatest of four products. -/
def loQ (a b c d : Int) : Int := loP (a * c) (a * d) (b * c) (b * d) 4
def hiQ (a b c d : Int) : Int := hiP (a * c) (a * d) (b * c) (b * d) 4
theorem cmpZ_lt {a b : Int} : decide (cmpZ a b < 0) = decide (a < b) := decide_eq_decide.2 (by unfold cmpZ; split <;> (try split) <;> omega)
theorem cmpZ_gt {a b : Int} : decide (cmpZ a b > 0) = decide (b < a) := decide_eq_decide.2 (by unfold cmpZ; split <;> (try split) <;> omega)
theorem cmpZ_le {a b : Int} : decide (cmpZ a b ≤ 0) = decide (a ≤ b) := decide_eq_decide.2 (by unfold cmpZ; split <;> (try split) <;> omega)
theorem mnZ_is (m x : Int) : mnZ m x = m ∨ mnZ m x = x := by unfold mnZ; split <;> simp
theorem loP_is (p1 p2 p3 p4 : Int) (i : Nat) : loP p1 p2 p3 p4 i = p1 ∨ loP p1 p2 p3 p4 i = p2 ∨ loP p1 p2 p3 p4 i = p3 ∨ loP p1 p2 p3 p4 i = p4 := by
  have h2 := mnZ_is p1 p2
  have h3 := mnZ_is (mnZ p1 p2) p3
  have h4 := mnZ_is (mnZ (mnZ p1 p2) p3) p4
  match i with
  | 0 => exact .inl rfl
  | 1 => exact .inl rfl
  | 2 => show mnZ p1 p2 = _ ∨ mnZ p1 p2 = _ ∨ mnZ p1 p2 = _ ∨ mnZ p1 p2 = _; omega
  | 3 => simp only [loP]; omega
  | _ + 4 => simp only [loP]; omega
theorem mxZ_is (m x : Int) : mxZ m x = m ∨ mxZ m x = x := by unfold mxZ; split <;> simp
theorem hiP_is (p1 p2 p3 p4 : Int) (i : Nat) : hiP p1 p2 p3 p4 i = p1 ∨ hiP p1 p2 p3 p4 i = p2 ∨ hiP p1 p2 p3 p4 i = p3 ∨ hiP p1 p2 p3 p4 i = p4 := by
  have h2 := mxZ_is p1 p2
  have h3 := mxZ_is (mxZ p1 p2) p3
  have h4 := mxZ_is (mxZ (mxZ p1 p2) p3) p4
  match i with
  | 0 => exact .inl rfl
  | 1 => exact .inl rfl
  | 2 => show mxZ p1 p2 = _ ∨ mxZ p1 p2 = _ ∨ mxZ p1 p2 = _ ∨ mxZ p1 p2 = _; omega
  | 3 => simp only [hiP]; omega
  | _ + 4 => simp only [hiP]; omega
end Go.Proofs.YtodiciendlhkgaaGreat

/- Pi, to so many digits: pure functions on naturals that mirror arcs.pi and vernierref8.PiIv; the kernel reckons them at all widths that are wanted. No program. -/
namespace Go.Ev
/-- A number is reckoned before it is handed on. -/
def pin {α : Type} (n : Nat) (f : Nat → α) : α := match n with
  | 0 => f 0
  | m + 1 => f (m + 1)
/-- arcs.angle's rounds: the terms by Euler's row, until the last one is small. -/
def angGo (w b1 b2 : Nat) : Nat → Nat → Nat → Nat → Nat → Nat → Option (Nat × Nat)
  | 0, _, _, _, _, _ => none
  | f + 1, k, t1, t2, a1, a2 => if t2 < 4 then some (a1, a2 + 8) else
    pin (t1 * b1 / 2 ^ w * (2 * k) / (2 * k + 1)) fun u1 => pin ((t2 * b2 / 2 ^ w + 1) * (2 * k) / (2 * k + 1) + 1) fun u2 =>
    pin (a1 + u1) fun c1 => pin (a2 + u2) fun c2 => pin (k + 1) fun k' => angGo w b1 b2 f k' u1 u2 c1 c2
def angF (n d w : Nat) : Option (Nat × Nat) :=
  pin (n * n * 2 ^ w / (n * n + d * d)) fun b1 => pin (n * d * 2 ^ w / (n * n + d * d)) fun t1 => angGo w b1 (b1 + 1) 1000 1 t1 (t1 + 1) t1 (t1 + 1)
/-- arcs.pi. -/
def piF (w : Nat) : Option (Nat × Nat) := match angF 1 5 w, angF 1 239 w with
  | some (a1, a2), some (b1, b2) => some (a1 * 16 - (b2 * 4 + 1), (a2 * 16 + 1 - b1 * 4) + 1)
  | _, _ => none
/-- The root of pi, times 2 to 400. -/
def rootPi : Nat := 4576918740415440415430138886030104330034393630387746481038405196946375920276839941112766425178723903652484208164514262098
/-- At so many digits pi lies between two whole numbers, for certain: and the constant's square does. -/
def piOk (p : Nat) : Bool := match piF (p + 64) with
  | some (lo, hi) => pin (lo / 2 ^ 64) fun a => Nat.beq a ((hi - 1) / 2 ^ 64) && (Nat.ble (a * 2 ^ (800 - p)) (rootPi * rootPi) && Nat.ble (rootPi * rootPi) ((a + 1) * 2 ^ (800 - p)))
  | none => false
def allFrom (f : Nat → Bool) : Nat → Nat → Bool
  | 0, _ => true
  | n + 1, k => f k && allFrom f n (k + 1)
theorem pi_ok : allFrom piOk 217 8 = true := by kernel_rfl
/-- Rounded up. -/
def cdv (a b : Nat) : Nat := (a + b - 1) / b
/-- vernierref8.small's rounds; what is added and what is taken away stands apart: the sum is a1 .. a2 less b1 .. b2. -/
def smGo (w s1 s2 : Nat) : Nat → Nat → Bool → Nat → Nat → Nat → Nat → Nat → Nat → Option (Nat × Nat × Nat × Nat)
  | 0, _, _, _, _, _, _, _, _ => none
  | f + 1, i, odd, t1, t2, a1, a2, b1, b2 =>
    pin (t1 * s1 / 2 ^ w) fun u1 => pin (cdv (t2 * s2) (2 ^ w)) fun u2 => pin (u1 / (2 * i + 1)) fun x1 => pin (cdv u2 (2 * i + 1)) fun x2 => pin (i + 1) fun i' =>
    match odd with
    | true => pin (b1 + x1) fun c1 => pin (b2 + x2) fun c2 => if u2 ≤ 2 then some (a1, a2, c1, c2) else smGo w s1 s2 f i' false u1 u2 a1 a2 c1 c2
    | false => pin (a1 + x1) fun c1 => pin (a2 + x2) fun c2 => if u2 ≤ 2 then some (c1, c2, b1, b2) else smGo w s1 s2 f i' true u1 u2 c1 c2 b1 b2
def smF (d w : Nat) : Option (Nat × Nat) := pin (2 ^ w / d) fun y1 => pin (cdv (2 ^ w) d) fun y2 => pin (y1 * y1 / 2 ^ w) fun s1 => pin (cdv (y2 * y2) (2 ^ w)) fun s2 =>
  match smGo w s1 s2 1000 1 true y1 y2 y1 y2 0 0 with
  | some (a1, a2, b1, b2) => if b2 + 4 ≤ a1 ∧ b1 ≤ a2 then some (a1 - b2 - 4, a2 - b1 + 4) else none
  | none => none
/-- vernierref8.PiIv. -/
def piIv (w : Nat) : Option (Nat × Nat) := match smF 5 (w + 10), smF 239 (w + 10) with
  | some (a1, a2), some (b1, b2) => if b2 * 4 ≤ a1 * 16 ∧ b1 * 4 ≤ a2 * 16 then some ((a1 * 16 - b2 * 4) / 2 ^ 10, cdv (a2 * 16 - b1 * 4) (2 ^ 10)) else none
  | _, _ => none
def ivOk (w : Nat) : Bool := match piIv w with
  | some (lo, hi) => Nat.ble (lo * 2 ^ (800 - w)) (rootPi * rootPi) && Nat.ble (rootPi * rootPi) (hi * 2 ^ (800 - w))
  | none => false
theorem iv_ok : allFrom ivOk 121 190 = true := by kernel_rfl
end Go.Ev

/- vernierref8: part, small, PiIv, in the evaluator. -/
namespace Go.Proofs.YtodiciendlhkgaaGreat
set_option linter.unusedSimpArgs false
set_option linter.unusedVariables false
set_option maxRecDepth 8000
open Go.Ev
theorem pin_eq {α : Type} (n : Nat) (f : Nat → α) : pin n f = f n := by cases n <;> rfl
/-- From one natural to another. -/
abbrev ivN (a b : Nat) : SV := .agg [.bool false, natV (lim a), .bool false, natV (lim b)]
abbrev intN (a : Nat) : SV := .agg [.bool false, natV (lim a)]
theorem intN_eq (n : Nat) : intV (n : Int) = intN n := iv_eq (Int.natAbs_natCast n) (decide_eq_false (by omega))
theorem ivN_eq (m n : Nat) : ivV (m : Int) (n : Int) = ivN m n := by
  show SV.agg [.bool (decide ((m : Int) < 0)), natV (lim (m : Int).natAbs), .bool (decide ((n : Int) < 0)), natV (lim (n : Int).natAbs)] = _
  rw [Int.natAbs_natCast, Int.natAbs_natCast, decide_eq_false (by omega), decide_eq_false (by omega)]
theorem cdv_le {a b c : Nat} (hb : 0 < b) (h : a ≤ c * b) : cdv a b ≤ c := by
  unfold cdv
  rw [Nat.div_le_iff_le_mul hb]
  omega
theorem div_le_cdv {a b d : Nat} (hd : 0 < d) (h : a ≤ b) : a / d ≤ cdv b d := by
  unfold cdv
  exact Nat.div_le_div_right (by omega)
theorem cdZ_nat {n d : Nat} (hd : 0 < d) : cdZ (n : Int) d = (cdv n d : Int) := by
  unfold cdZ cdv
  rw [fall_eq (a := -(n : Int)) (by omega), Int.natAbs_neg, Int.natAbs_natCast]
  have hm := Nat.div_add_mod n d
  have hl := Nat.mod_lt n hd
  by_cases h0 : n % d = 0
  · rw [if_neg (fun h => h.2 h0)]
    have e : (n + d - 1) / d = n / d := by
      rw [show n + d - 1 = (d - 1) + d * (n / d) by omega, Nat.add_mul_div_left _ _ hd, Nat.div_eq_of_lt (by omega), Nat.zero_add]
    rw [e]
    by_cases hn : n = 0
    · subst hn; simp [sgn]
    · rw [decide_eq_true (by omega)]
      show -(-((n / d : Nat) : Int)) = _
      omega
  · have hn : n ≠ 0 := by rintro rfl; simp at h0
    rw [if_pos ⟨by omega, h0⟩]
    have e : (n + d - 1) / d = n / d + 1 := by
      rw [show n + d - 1 = (n % d - 1) + d * (n / d + 1) by rw [Nat.mul_add]; omega, Nat.add_mul_div_left _ _ hd, Nat.div_eq_of_lt (by omega), Nat.zero_add]
    rw [e]
    omega
theorem loQ_nat {a b c d : Nat} (h1 : a ≤ b) (h2 : c ≤ d) : loQ a b c d = ((a * c : Nat) : Int) := by
  have e1 : a * c ≤ a * d := Nat.mul_le_mul_left _ h2
  have e2 : a * c ≤ b * c := Nat.mul_le_mul_right _ h1
  have e3 : a * c ≤ b * d := Nat.mul_le_mul h1 h2
  unfold loQ loP mnZ
  rw [← Int.natCast_mul, ← Int.natCast_mul, ← Int.natCast_mul, ← Int.natCast_mul]
  rw [if_neg (show ¬ ((a * d : Nat) : Int) < ((a * c : Nat) : Int) by omega), if_neg (show ¬ ((b * c : Nat) : Int) < ((a * c : Nat) : Int) by omega), if_neg (by omega)]
  rfl
theorem hiQ_nat {a b c d : Nat} (h1 : a ≤ b) (h2 : c ≤ d) : hiQ a b c d = ((b * d : Nat) : Int) := by
  have e1 : a * c ≤ a * d := Nat.mul_le_mul_left _ h2
  have e2 : a * c ≤ b * c := Nat.mul_le_mul_right _ h1
  have e3 : b * c ≤ b * d := Nat.mul_le_mul_left _ h2
  have e4 : a * d ≤ b * d := Nat.mul_le_mul_right _ h1
  unfold hiQ hiP mxZ
  rw [← Int.natCast_mul, ← Int.natCast_mul, ← Int.natCast_mul, ← Int.natCast_mul]
  repeat' split
  all_goals omega
theorem lim_len_p2 {n w : Nat} (h : n ≤ 2 ^ w) (hw : w ≤ 1000) : (lim n).length ≤ 40 := by
  have l := lim_len_shl (a := 1) (n := w)
  have l1 := lim_len1
  rw [Nat.one_mul] at l
  have := lim_len_mono h
  omega
section
variable {w s1 s2 : Nat}
end
/-- An angle's interval is no wider than so. -/
theorem smGo_bd {w s1 s2 T : Nat} (hs1 : s1 ≤ 2 ^ w) (hs : s2 ≤ 2 ^ w) : ∀ (f i : Nat) (odd : Bool) (t1 t2 a1 a2 b1 b2 : Nat) {A1 A2 B1 B2 : Nat}, smGo w s1 s2 f i odd t1 t2 a1 a2 b1 b2 = some (A1, A2, B1, B2) → t1 ≤ T → t2 ≤ T → A1 ≤ a1 + f * T ∧ A2 ≤ a2 + f * T := by
  intro f
  induction f with
  | zero => intro i odd t1 t2 a1 a2 b1 b2 A1 A2 B1 B2 h; simp only [smGo] at h; cases h
  | succ f ih =>
    intro i odd t1 t2 a1 a2 b1 b2 A1 A2 B1 B2 h ht1 ht
    have hP : 0 < 2 ^ w := Nat.pow_pos (by omega)
    have u1t : t1 * s1 / 2 ^ w ≤ t1 := (Nat.div_le_iff_le_mul hP).2 (by have := Nat.mul_le_mul_left t1 hs1; omega)
    have x1u := Nat.div_le_self (t1 * s1 / 2 ^ w) (2 * i + 1)
    have u2t : cdv (t2 * s2) (2 ^ w) ≤ t2 := cdv_le hP (Nat.mul_le_mul_left _ hs)
    have x2u : cdv (cdv (t2 * s2) (2 ^ w)) (2 * i + 1) ≤ cdv (t2 * s2) (2 ^ w) := cdv_le (by omega) (Nat.le_mul_of_pos_right _ (by omega))
    simp only [smGo, pin_eq] at h
    generalize cdv (t2 * s2) (2 ^ w) = u2 at *
    generalize cdv u2 (2 * i + 1) = x2 at *
    generalize t1 * s1 / 2 ^ w = u1 at *
    generalize u1 / (2 * i + 1) = x1 at *
    rw [Nat.add_mul, Nat.one_mul]
    cases odd with
    | true =>
      replace h : (if u2 ≤ 2 then some (a1, a2, b1 + x1, b2 + x2) else smGo w s1 s2 f (i + 1) false u1 u2 a1 a2 (b1 + x1) (b2 + x2)) = some (A1, A2, B1, B2) := h
      split at h
      · simp only [Option.some.injEq, Prod.mk.injEq] at h
        omega
      · have := ih _ _ _ _ _ _ _ _ h (by omega) (by omega)
        omega
    | false =>
      replace h : (if u2 ≤ 2 then some (a1 + x1, a2 + x2, b1, b2) else smGo w s1 s2 f (i + 1) true u1 u2 (a1 + x1) (a2 + x2) b1 b2) = some (A1, A2, B1, B2) := h
      split at h
      · simp only [Option.some.injEq, Prod.mk.injEq] at h
        omega
      · have := ih _ _ _ _ _ _ _ _ h (by omega) (by omega)
        omega
theorem smF_bd {d w A B : Nat} (hd : 0 < d) (hw : w ≤ 900) (h : smF d w = some (A, B)) : (lim A).length ≤ 50 ∧ (lim B).length ≤ 50 := by
  unfold smF at h
  rw [pin_eq, pin_eq, pin_eq, pin_eq] at h
  have hP : 0 < 2 ^ w := Nat.pow_pos (by omega)
  have y2T : cdv (2 ^ w) d ≤ 2 ^ w := cdv_le hd (Nat.le_mul_of_pos_right _ hd)
  have s2T : cdv (cdv (2 ^ w) d * cdv (2 ^ w) d) (2 ^ w) ≤ 2 ^ w := cdv_le hP (Nat.mul_le_mul y2T y2T)
  split at h
  · rename_i A1 A2 B1 B2 hgo
    have y1T : 2 ^ w / d ≤ 2 ^ w := Nat.div_le_self _ _
    have s1T : 2 ^ w / d * (2 ^ w / d) / 2 ^ w ≤ 2 ^ w := (Nat.div_le_iff_le_mul hP).2 (by have := Nat.mul_le_mul y1T y1T; omega)
    have hb := smGo_bd s1T s2T _ _ _ _ _ _ _ _ _ hgo y1T y2T
    split at h
    · simp only [Option.some.injEq, Prod.mk.injEq] at h
      have hbig : 2 ^ w * 2048 = 2 ^ (w + 11) := by rw [Nat.pow_add]
      have l1 := lim_len_p2 (n := B - 4) (w := w + 11) (by omega) (by omega)
      have l2 : (lim B).length ≤ 41 := Nat.le_trans (lim_len_mono (show B ≤ (B - 4) + 4 by omega)) (lim_len_add (L := 40) l1 (Nat.le_trans (lim_len_one (by decide)) (by omega)))
      exact ⟨Nat.le_trans (lim_len_p2 (n := A) (w := w + 11) (by omega) (by omega)) (by omega), by omega⟩
    · cases h
  · cases h
end Go.Proofs.YtodiciendlhkgaaGreat

/- The row of beta's share: a pure function on naturals that mirrors incb.row; it ends; how wide it gets: plain mathematics. -/
namespace Go.Proofs.YtodiciendlhkgaaGreat
open Go.Ev
set_option linter.unusedVariables false
/-- incb.row's rounds. -/
def rowGo (w y1 y2 a b : Nat) : Nat → Nat → Nat → Nat → Nat → Nat → Option (Nat × Nat × Nat)
  | 0, _, _, _, _, _ => none
  | f + 1, k, t1, t2, a1, a2 => if b ≤ k ∧ t2 < 8 then some (a1, a2 + 64, k) else
    rowGo w y1 y2 a b f (k + 1) (t1 * y1 / 2 ^ w * (a + b + 2 * k) / (a + 2 + 2 * k)) ((t2 * y2 / 2 ^ w + 1) * (a + b + 2 * k) / (a + 2 + 2 * k) + 1)
      (a1 + t1 * y1 / 2 ^ w * (a + b + 2 * k) / (a + 2 + 2 * k)) (a2 + ((t2 * y2 / 2 ^ w + 1) * (a + b + 2 * k) / (a + 2 + 2 * k) + 1))
section
variable {P y1 y2 t1 t2 n m : Nat}
theorem up_half (hP : 200 ≤ P) (hy : 2 * y2 ≤ P + 2) : 100 * (t2 * y2 / P) ≤ 51 * t2 := by
  have h1 := Nat.div_mul_le_self (t2 * y2) P
  have h2 := Nat.mul_le_mul_left t2 hy
  have h3 : t2 * 200 ≤ t2 * P := Nat.mul_le_mul_left _ hP
  have h4 : 100 * (t2 * y2 / P) * P ≤ 51 * t2 * P := by
    have e1 : 100 * (t2 * y2 / P) * P = 100 * (t2 * y2 / P * P) := by rw [Nat.mul_assoc]
    have e2 : t2 * (2 * y2) = 2 * (t2 * y2) := by rw [Nat.mul_left_comm]
    have e3 : t2 * (P + 2) = t2 * P + 2 * t2 := by rw [Nat.mul_add]; omega
    have e4 : 51 * t2 * P = 51 * (t2 * P) := by rw [Nat.mul_assoc]
    omega
  exact Nat.le_of_mul_le_mul_right h4 (by omega)
/-- A quotient times a number is not above what it came from. -/
theorem quo_le {v n m c d : Nat} (hm : 0 < m) (h : d * n ≤ c * m) : d * (v * n / m) ≤ c * v := by
  have h1 := Nat.div_mul_le_self (v * n) m
  have h2 : d * (v * n / m) * m ≤ c * v * m := by
    have e1 : d * (v * n / m) * m = d * (v * n / m * m) := by rw [Nat.mul_assoc]
    have e2 : d * (v * n) = v * (d * n) := by rw [Nat.mul_left_comm]
    have e3 : c * v * m = v * (c * m) := by rw [Nat.mul_assoc, Nat.mul_left_comm]
    have h3 := Nat.mul_le_mul_left v h
    have h4 := Nat.mul_le_mul_left d h1
    omega
  exact Nat.le_of_mul_le_mul_right h2 hm
theorem quo_sub {v1 v2 n m : Nat} (h : v1 ≤ v2) (hm : 0 < m) : v2 * n / m ≤ v1 * n / m + (v2 - v1) * n / m + 1 := by
  have h1 := Nat.div_add_mod (v1 * n) m
  have h2 := Nat.div_add_mod ((v2 - v1) * n) m
  have m1 := Nat.mod_lt (v1 * n) hm
  have m2 := Nat.mod_lt ((v2 - v1) * n) hm
  have e : v2 * n = v1 * n + (v2 - v1) * n := by rw [← Nat.add_mul]; congr 1; omega
  have h3 : v2 * n < (v1 * n / m + (v2 - v1) * n / m + 2) * m := by
    rw [Nat.add_mul, Nat.add_mul, Nat.mul_comm _ m, Nat.mul_comm _ m]
    omega
  have := (Nat.div_lt_iff_lt_mul hm).2 h3
  omega
end
section
variable {w y1 y2 a b : Nat}
/-- Late terms fall by a fifth. -/
theorem late_step {k t2 : Nat} (hP : 200 ≤ 2 ^ w) (hy : 2 * y2 ≤ 2 ^ w + 2) (ha : 1 ≤ a) (hb : b ≤ 20) (hk : 200 ≤ k) (ht : 8 ≤ t2) : 5 * ((t2 * y2 / 2 ^ w + 1) * (a + b + 2 * k) / (a + 2 + 2 * k) + 1) ≤ 4 * t2 := by
  have h1 := up_half (t2 := t2) hP hy
  have h2 := quo_le (v := t2 * y2 / 2 ^ w + 1) (n := a + b + 2 * k) (m := a + 2 + 2 * k) (c := 21) (d := 20) (by omega) (by omega)
  omega
theorem row_late (hP : 200 ≤ 2 ^ w) (hy : 2 * y2 ≤ 2 ^ w + 2) (ha : 1 ≤ a) (hb : b ≤ 20) : ∀ (f k t1 t2 a1 a2 : Nat), 200 ≤ k → 4 ^ f * t2 < 8 * 5 ^ f → ∃ A B K, rowGo w y1 y2 a b (f + 1) k t1 t2 a1 a2 = some (A, B, K) ∧ K ≤ k + f := by
  intro f
  induction f with
  | zero =>
    intro k t1 t2 a1 a2 hk h
    refine ⟨a1, a2 + 64, k, ?_, by omega⟩
    rw [rowGo, if_pos ⟨by omega, by omega⟩]
  | succ f ih =>
    intro k t1 t2 a1 a2 hk h
    rw [rowGo]
    by_cases hs : b ≤ k ∧ t2 < 8
    · rw [if_pos hs]
      exact ⟨_, _, _, rfl, by omega⟩
    · rw [if_neg hs]
      have h1 := late_step (k := k) (t2 := t2) hP hy ha hb hk (by omega)
      obtain ⟨A, B, K, g1, g2⟩ := ih (k + 1) (t1 * y1 / 2 ^ w * (a + b + 2 * k) / (a + 2 + 2 * k)) ((t2 * y2 / 2 ^ w + 1) * (a + b + 2 * k) / (a + 2 + 2 * k) + 1) (a1 + t1 * y1 / 2 ^ w * (a + b + 2 * k) / (a + 2 + 2 * k)) (a2 + ((t2 * y2 / 2 ^ w + 1) * (a + b + 2 * k) / (a + 2 + 2 * k) + 1)) (by omega) (by
        rw [Nat.pow_succ, Nat.pow_succ] at h
        generalize (t2 * y2 / 2 ^ w + 1) * (a + b + 2 * k) / (a + 2 + 2 * k) + 1 = u at *
        have h2 := Nat.mul_le_mul_left (4 ^ f) h1
        have e1 : 4 ^ f * (5 * u) = 5 * (4 ^ f * u) := Nat.mul_left_comm _ _ _
        have e2 : 4 ^ f * (4 * t2) = 4 ^ f * 4 * t2 := by rw [Nat.mul_assoc]
        omega)
      exact ⟨A, B, K, g1, by omega⟩
/-- An early step grows less than fourfold. -/
theorem early_up {k t2 T : Nat} (hP : 200 ≤ 2 ^ w) (hy : 2 * y2 ≤ 2 ^ w + 2) (ha : 1 ≤ a) (hb : b ≤ 20) (ht : t2 ≤ T) (hT : 100 ≤ T) : (t2 * y2 / 2 ^ w + 1) * (a + b + 2 * k) / (a + 2 + 2 * k) + 1 ≤ 4 * T := by
  have h1 := up_half (t2 := t2) hP hy
  have h2 := quo_le (v := t2 * y2 / 2 ^ w + 1) (n := a + b + 2 * k) (m := a + 2 + 2 * k) (c := 7) (d := 1) (by omega) (by omega)
  omega
theorem mid_up {k t2 T : Nat} (hP : 200 ≤ 2 ^ w) (hy : 2 * y2 ≤ 2 ^ w + 2) (ha : 1 ≤ a) (hk : b ≤ k) (ht : t2 ≤ T) (hT : 100 ≤ T) : (t2 * y2 / 2 ^ w + 1) * (a + b + 2 * k) / (a + 2 + 2 * k) + 1 ≤ T := by
  have h1 := up_half (t2 := t2) hP hy
  have h2 := quo_le (v := t2 * y2 / 2 ^ w + 1) (n := a + b + 2 * k) (m := a + 2 + 2 * k) (c := 3) (d := 2) (by omega) (by omega)
  omega
/-- How far apart a term's ends get in a step. -/
theorem gap_step {k t1 t2 C : Nat} (hP : 200 ≤ 2 ^ w) (hy12 : y2 = y1 + 1) (hy1 : 2 * y1 ≤ 2 ^ w) (ht : t1 ≤ t2) (hC : t2 ≤ C * 2 ^ w) : t2 * y2 / 2 ^ w + 1 ≤ t1 * y1 / 2 ^ w + ((t2 - t1) / 2 + C + 4) := by
  subst hy12
  generalize 2 ^ w = P at *
  have e : t2 * (y1 + 1) = t1 * y1 + ((t2 - t1) * y1 + t2) := by
    have : t2 * y1 = t1 * y1 + (t2 - t1) * y1 := by rw [← Nat.add_mul]; congr 1; omega
    rw [Nat.mul_add]; omega
  have d1 := Nat.div_add_mod (t1 * y1) P
  have d2 := Nat.mod_lt (t1 * y1) (show 0 < P by omega)
  have h1 : (t2 - t1) * y1 ≤ ((t2 - t1) / 2 + 1) * P := by
    have h3 := Nat.mul_le_mul (show t2 - t1 ≤ 2 * ((t2 - t1) / 2 + 1) by omega) (Nat.le_refl y1)
    have h4 := Nat.mul_le_mul_left ((t2 - t1) / 2 + 1) hy1
    have e5 : 2 * ((t2 - t1) / 2 + 1) * y1 = ((t2 - t1) / 2 + 1) * (2 * y1) := by rw [Nat.mul_comm 2, Nat.mul_assoc]
    omega
  have h2 : t2 * (y1 + 1) < (t1 * y1 / P + ((t2 - t1) / 2 + C + 3)) * P := by
    have e6 : (t1 * y1 / P + ((t2 - t1) / 2 + C + 3)) * P = P * (t1 * y1 / P) + ((t2 - t1) / 2 + 1) * P + C * P + 2 * P := by
      have : (t2 - t1) / 2 + C + 3 = ((t2 - t1) / 2 + 1) + C + 2 := by omega
      rw [this]; simp only [Nat.add_mul]; rw [Nat.mul_comm _ P]; omega
    omega
  have := (Nat.div_lt_iff_lt_mul (show 0 < P by omega)).2 h2
  omega
theorem gap_quo {k v1 v2 D : Nat} (hv : v1 ≤ v2) (hm : 0 < a + 2 + 2 * k) {c d : Nat} (hd : 0 < d) (h : d * (a + b + 2 * k) ≤ c * (a + 2 + 2 * k)) (hD : v2 ≤ v1 + D) : d * (v2 * (a + b + 2 * k) / (a + 2 + 2 * k) + 1) ≤ d * (v1 * (a + b + 2 * k) / (a + 2 + 2 * k)) + c * D + 2 * d := by
  have h1 := quo_sub (n := a + b + 2 * k) (m := a + 2 + 2 * k) hv hm
  have h2 := quo_le (v := v2 - v1) hm h
  have h3 : c * (v2 - v1) ≤ c * D := Nat.mul_le_mul_left _ (by omega)
  generalize v2 * (a + b + 2 * k) / (a + 2 + 2 * k) = q2 at *
  generalize v1 * (a + b + 2 * k) / (a + 2 + 2 * k) = q1 at *
  generalize (v2 - v1) * (a + b + 2 * k) / (a + 2 + 2 * k) = q3 at *
  have h4 := Nat.mul_le_mul_left d h1
  have e1 : d * (q1 + q3 + 1) = d * q1 + d * q3 + d := by rw [Nat.mul_add, Nat.mul_add, Nat.mul_one]
  have e2 : d * (q2 + 1) = d * q2 + d := by rw [Nat.mul_add, Nat.mul_one]
  omega
/-- Terms, and what they sum to, in a row's first rounds and in its later ones. -/
def okT (w k t1 t2 a1 a2 T D : Nat) : Prop := t1 ≤ t2 ∧ a1 ≤ a2 ∧ t2 ≤ T ∧ t2 ≤ t1 + D ∧ a2 ≤ a1 + k * D + D ∧ a2 ≤ (k + 1) * T
theorem okT_early {k t1 t2 a1 a2 T D C : Nat} (hP : 200 ≤ 2 ^ w) (hy12 : y2 = y1 + 1) (hy1 : 2 * y1 ≤ 2 ^ w) (ha : 1 ≤ a) (hb : b ≤ 20) (hT : 100 ≤ T) (hC : T ≤ C * 2 ^ w) (hD : 14 * C + 62 ≤ D) (h : okT w k t1 t2 a1 a2 T D) :
    okT w (k + 1) (t1 * y1 / 2 ^ w * (a + b + 2 * k) / (a + 2 + 2 * k)) ((t2 * y2 / 2 ^ w + 1) * (a + b + 2 * k) / (a + 2 + 2 * k) + 1)
      (a1 + t1 * y1 / 2 ^ w * (a + b + 2 * k) / (a + 2 + 2 * k)) (a2 + ((t2 * y2 / 2 ^ w + 1) * (a + b + 2 * k) / (a + 2 + 2 * k) + 1)) (4 * T) (4 * D) := by
  obtain ⟨h1, h2, h3, h4, h5, h6⟩ := h
  have u := early_up (k := k) hP (show 2 * y2 ≤ 2 ^ w + 2 by omega) ha hb h3 hT
  have g := gap_step (k := k) hP hy12 hy1 h1 (Nat.le_trans h3 hC)
  have v12 : t1 * y1 / 2 ^ w ≤ t2 * y2 / 2 ^ w + 1 := Nat.le_succ_of_le (Nat.div_le_div_right (Nat.mul_le_mul h1 (by omega)))
  have q := gap_quo (a := a) (b := b) (k := k) (c := 7) (d := 1) v12 (by omega) (by omega) (by omega) g
  have q0 : t1 * y1 / 2 ^ w * (a + b + 2 * k) / (a + 2 + 2 * k) ≤ (t2 * y2 / 2 ^ w + 1) * (a + b + 2 * k) / (a + 2 + 2 * k) := Nat.div_le_div_right (Nat.mul_le_mul_right _ v12)
  generalize t1 * y1 / 2 ^ w * (a + b + 2 * k) / (a + 2 + 2 * k) = u1 at *
  generalize (t2 * y2 / 2 ^ w + 1) * (a + b + 2 * k) / (a + 2 + 2 * k) = u2 at *
  have e1 : (k + 1) * (4 * D) = 4 * (k * D) + 4 * D := by rw [Nat.add_mul, Nat.mul_left_comm]; omega
  have e2 : (k + 1 + 1) * (4 * T) = 4 * ((k + 1) * T) + 4 * T := by rw [Nat.add_mul, Nat.mul_left_comm]; omega
  have e3 : (k + 1) * T = k * T + T := by rw [Nat.add_mul]; omega
  refine ⟨?_, ?_, ?_, ?_, ?_, ?_⟩ <;> omega
theorem okT_mid {k t1 t2 a1 a2 T D C : Nat} (hP : 200 ≤ 2 ^ w) (hy12 : y2 = y1 + 1) (hy1 : 2 * y1 ≤ 2 ^ w) (ha : 1 ≤ a) (hk : b ≤ k) (hT : 100 ≤ T) (hC : T ≤ C * 2 ^ w) (hD : 14 * C + 62 ≤ D) (h : okT w k t1 t2 a1 a2 T D) :
    okT w (k + 1) (t1 * y1 / 2 ^ w * (a + b + 2 * k) / (a + 2 + 2 * k)) ((t2 * y2 / 2 ^ w + 1) * (a + b + 2 * k) / (a + 2 + 2 * k) + 1)
      (a1 + t1 * y1 / 2 ^ w * (a + b + 2 * k) / (a + 2 + 2 * k)) (a2 + ((t2 * y2 / 2 ^ w + 1) * (a + b + 2 * k) / (a + 2 + 2 * k) + 1)) T D := by
  obtain ⟨h1, h2, h3, h4, h5, h6⟩ := h
  have u := mid_up (k := k) hP (show 2 * y2 ≤ 2 ^ w + 2 by omega) ha hk h3 hT
  have g := gap_step (k := k) hP hy12 hy1 h1 (Nat.le_trans h3 hC)
  have v12 : t1 * y1 / 2 ^ w ≤ t2 * y2 / 2 ^ w + 1 := Nat.le_succ_of_le (Nat.div_le_div_right (Nat.mul_le_mul h1 (by omega)))
  have q := gap_quo (a := a) (b := b) (k := k) (c := 3) (d := 2) v12 (by omega) (by omega) (by omega) g
  have q0 : t1 * y1 / 2 ^ w * (a + b + 2 * k) / (a + 2 + 2 * k) ≤ (t2 * y2 / 2 ^ w + 1) * (a + b + 2 * k) / (a + 2 + 2 * k) := Nat.div_le_div_right (Nat.mul_le_mul_right _ v12)
  generalize t1 * y1 / 2 ^ w * (a + b + 2 * k) / (a + 2 + 2 * k) = u1 at *
  generalize (t2 * y2 / 2 ^ w + 1) * (a + b + 2 * k) / (a + 2 + 2 * k) = u2 at *
  have e1 : (k + 1) * D = k * D + D := by rw [Nat.add_mul]; omega
  have e2 : (k + 1 + 1) * T = (k + 1) * T + T := by rw [Nat.add_mul]; omega
  refine ⟨?_, ?_, ?_, ?_, ?_, ?_⟩ <;> omega
/-- The row ends; and what it ends in. -/
theorem row_mid {C T D : Nat} (hP : 200 ≤ 2 ^ w) (hy12 : y2 = y1 + 1) (hy1 : 2 * y1 ≤ 2 ^ w) (ha : 1 ≤ a) (hb : b ≤ 20) (hT : 100 ≤ T) (hC : T ≤ C * 2 ^ w) (hD : 14 * C + 62 ≤ D) {F : Nat} (hF : 4 ^ F * T < 8 * 5 ^ F) :
    ∀ (g k t1 t2 a1 a2 : Nat), b ≤ k → g + k = 200 → okT w k t1 t2 a1 a2 T D → ∃ A B K, rowGo w y1 y2 a b (g + F + 1) k t1 t2 a1 a2 = some (A, B, K) := by
  intro g
  induction g with
  | zero =>
    intro k t1 t2 a1 a2 hk hg h
    obtain ⟨A, B, K, e, -⟩ := row_late hP (show 2 * y2 ≤ 2 ^ w + 2 by omega) ha hb F k t1 t2 a1 a2 (by omega) (Nat.lt_of_le_of_lt (Nat.mul_le_mul_left _ h.2.2.1) hF)
    exact ⟨A, B, K, by rw [Nat.zero_add]; exact e⟩
  | succ g ih =>
    intro k t1 t2 a1 a2 hk hg h
    rw [show g + 1 + F + 1 = (g + F + 1) + 1 by omega, rowGo]
    by_cases hs : b ≤ k ∧ t2 < 8
    · rw [if_pos hs]; exact ⟨_, _, _, rfl⟩
    · rw [if_neg hs]
      exact ih _ _ _ _ _ (by omega) (by omega) (okT_mid hP hy12 hy1 ha hk hT hC hD h)
theorem row_early {C F : Nat} (hP : 200 ≤ 2 ^ w) (hy12 : y2 = y1 + 1) (hy1 : 2 * y1 ≤ 2 ^ w) (ha : 1 ≤ a) (hb : b ≤ 20) :
    ∀ (g k t1 t2 a1 a2 T D : Nat), k + g = b → 100 ≤ T → 4 ^ g * T ≤ C * 2 ^ w → 14 * C + 62 ≤ D → 4 ^ F * (4 ^ g * T) < 8 * 5 ^ F → okT w k t1 t2 a1 a2 T D → ∃ A B K, rowGo w y1 y2 a b (200 + F + 1 - k) k t1 t2 a1 a2 = some (A, B, K) := by
  intro g
  induction g with
  | zero =>
    intro k t1 t2 a1 a2 T D hk hT hC hD hF h
    rw [Nat.pow_zero, Nat.one_mul] at hC hF
    have := row_mid hP hy12 hy1 ha hb hT hC hD hF (200 - k) k t1 t2 a1 a2 (by omega) (by omega) h
    rw [show 200 - k + F + 1 = 200 + F + 1 - k by omega] at this
    exact this
  | succ g ih =>
    intro k t1 t2 a1 a2 T D hk hT hC hD hF h
    rw [show 200 + F + 1 - k = (200 + F + 1 - (k + 1)) + 1 by omega, rowGo, if_neg (by omega)]
    have hp : 1 ≤ 4 ^ (g + 1) := Nat.pow_pos (by omega)
    have hTC : T ≤ C * 2 ^ w := Nat.le_trans (Nat.le_mul_of_pos_left T hp) hC
    have hp2 : 4 ^ g * (4 * T) = 4 ^ (g + 1) * T := by rw [Nat.pow_succ, Nat.mul_assoc]
    exact ih (k + 1) _ _ _ _ (4 * T) (4 * D) (by omega) (by omega) (by rw [hp2]; exact hC) (by omega) (by rw [hp2]; exact hF) (okT_early hP hy12 hy1 ha hb hT hTC hD h)
end
end Go.Proofs.YtodiciendlhkgaaGreat

/- The row of beta's share: what it ends in, what lies in it; powers: plain mathematics. -/
namespace Go.Proofs.YtodiciendlhkgaaGreat
open Go.Ev
set_option linter.unusedVariables false
section
variable {w y1 y2 a b T D C : Nat}
def okK (w b T D k t1 t2 a1 a2 : Nat) : Prop := okT w k t1 t2 a1 a2 (4 ^ min k b * T) (4 ^ min k b * D)
theorem four_le {k b T : Nat} : T ≤ 4 ^ min k b * T ∧ 4 ^ min k b * T ≤ 4 ^ b * T :=
  ⟨Nat.le_mul_of_pos_left T (Nat.pow_pos (by omega)), Nat.mul_le_mul_right T (Nat.pow_le_pow_right (by omega) (Nat.min_le_right k b))⟩
theorem okK_step {k t1 t2 a1 a2 : Nat} (hP : 200 ≤ 2 ^ w) (hy12 : y2 = y1 + 1) (hy1 : 2 * y1 ≤ 2 ^ w) (ha : 1 ≤ a) (hb : b ≤ 20) (hT : 100 ≤ T) (hC : 4 ^ b * T ≤ C * 2 ^ w) (hD : 14 * C + 62 ≤ D) (h : okK w b T D k t1 t2 a1 a2) :
    okK w b T D (k + 1) (t1 * y1 / 2 ^ w * (a + b + 2 * k) / (a + 2 + 2 * k)) ((t2 * y2 / 2 ^ w + 1) * (a + b + 2 * k) / (a + 2 + 2 * k) + 1)
      (a1 + t1 * y1 / 2 ^ w * (a + b + 2 * k) / (a + 2 + 2 * k)) (a2 + ((t2 * y2 / 2 ^ w + 1) * (a + b + 2 * k) / (a + 2 + 2 * k) + 1)) := by
  have f1 := four_le (k := k) (b := b) (T := T)
  have f2 := four_le (k := k) (b := b) (T := D)
  unfold okK at h ⊢
  by_cases hk : b ≤ k
  · rw [Nat.min_eq_right (show b ≤ k + 1 by omega)]
    rw [Nat.min_eq_right hk] at h f1 f2
    exact okT_mid hP hy12 hy1 ha hk (by omega) hC (by omega) h
  · rw [Nat.min_eq_left (show k + 1 ≤ b by omega), show 4 ^ (k + 1) * T = 4 * (4 ^ k * T) by rw [Nat.pow_succ, Nat.mul_comm (4 ^ k) 4, Nat.mul_assoc], show 4 ^ (k + 1) * D = 4 * (4 ^ k * D) by rw [Nat.pow_succ, Nat.mul_comm (4 ^ k) 4, Nat.mul_assoc]]
    rw [Nat.min_eq_left (show k ≤ b by omega)] at h f1 f2
    exact okT_early hP hy12 hy1 ha hb (by omega) (Nat.le_trans f1.2 hC) (by omega) h
theorem row_inv (hP : 200 ≤ 2 ^ w) (hy12 : y2 = y1 + 1) (hy1 : 2 * y1 ≤ 2 ^ w) (ha : 1 ≤ a) (hb : b ≤ 20) (hT : 100 ≤ T) (hC : 4 ^ b * T ≤ C * 2 ^ w) (hD : 14 * C + 62 ≤ D) :
    ∀ (f k t1 t2 a1 a2 : Nat) {A B K : Nat}, rowGo w y1 y2 a b f k t1 t2 a1 a2 = some (A, B, K) → okK w b T D k t1 t2 a1 a2 → K < k + f ∧ A ≤ B ∧ B ≤ A + (K + 1) * (4 ^ b * D) + 64 ∧ B ≤ (K + 1) * (4 ^ b * T) + 64 := by
  intro f
  induction f with
  | zero => intro k t1 t2 a1 a2 A B K h; simp only [rowGo] at h; cases h
  | succ f ih =>
    intro k t1 t2 a1 a2 A B K h ho
    rw [rowGo] at h
    by_cases hs : b ≤ k ∧ t2 < 8
    · rw [if_pos hs] at h
      simp only [Option.some.injEq, Prod.mk.injEq] at h
      obtain ⟨rfl, rfl, rfl⟩ := h
      obtain ⟨h1, h2, h3, h4, h5, h6⟩ := ho
      rw [Nat.min_eq_right hs.1] at h5 h6
      rw [Nat.add_mul, Nat.one_mul]
      rw [Nat.add_mul, Nat.one_mul] at h6
      rw [Nat.add_mul, Nat.one_mul]
      omega
    · rw [if_neg hs] at h
      have := ih _ _ _ _ _ h (okK_step hP hy12 hy1 ha hb hT hC hD ho)
      omega
/-- A term by the first one. -/
def rR (x : Rat) (a b : Nat) : Nat → Rat
  | 0 => 1
  | k + 1 => rR x a b k * x * ((a + b + 2 * k : Nat) : Rat) / ((a + 2 + 2 * k : Nat) : Rat)
/-- Terms' sum by the first one. -/
def sR (x : Rat) (a b : Nat) : Nat → Rat
  | 0 => 1
  | k + 1 => sR x a b k + rR x a b (k + 1)
theorem row_enc {x c : Rat} (hx : Enc w y1 y2 x) : ∀ (f k t1 t2 a1 a2 : Nat) {A B K : Nat}, rowGo w y1 y2 a b f k t1 t2 a1 a2 = some (A, B, K) → Enc w t1 t2 (c * rR x a b k) → Enc w a1 a2 (c * sR x a b k) →
    b ≤ K ∧ (A : Rat) ≤ c * sR x a b K * p2 w ∧ c * sR x a b K * p2 w + 64 ≤ (B : Rat) ∧ c * rR x a b K * p2 w ≤ 8 := by
  intro f
  induction f with
  | zero => intro k t1 t2 a1 a2 A B K h; simp only [rowGo] at h; cases h
  | succ f ih =>
    intro k t1 t2 a1 a2 A B K h ht ha
    rw [rowGo] at h
    by_cases hs : b ≤ k ∧ t2 < 8
    · rw [if_pos hs] at h
      simp only [Option.some.injEq, Prod.mk.injEq] at h
      obtain ⟨rfl, rfl, rfl⟩ := h
      refine ⟨hs.1, ha.1, ?_, ?_⟩
      · have h1 := ha.2
        have h2 : ((a2 + 64 : Nat) : Rat) = (a2 : Rat) + 64 := by exact_mod_cast rfl
        rw [h2]
        grind
      · have h1 := ht.2
        have h2 : (t2 : Rat) ≤ ((8 : Nat) : Rat) := (show ((t2 : Nat) : Rat) ≤ ((8 : Nat) : Rat) by exact_mod_cast (show t2 ≤ 8 by omega))
        exact Rat.le_trans h1 h2
    · rw [if_neg hs] at h
      have m := enc_times (n := a + b + 2 * k) (d := a + 2 + 2 * k) (by omega) (enc_mul ht hx)
      have e : c * rR x a b k * x * ((a + b + 2 * k : Nat) : Rat) / ((a + 2 + 2 * k : Nat) : Rat) = c * rR x a b (k + 1) := by
        show _ = c * (rR x a b k * x * ((a + b + 2 * k : Nat) : Rat) / ((a + 2 + 2 * k : Nat) : Rat))
        rw [Rat.div_def, Rat.div_def]
        grind
      rw [e] at m
      have s := enc_add ha m
      have e2 : c * sR x a b k + c * rR x a b (k + 1) = c * sR x a b (k + 1) := by
        show _ = c * (sR x a b k + rR x a b (k + 1))
        grind
      rw [e2] at s
      exact ih _ _ _ _ _ h m s
end
/-- A number so many times by itself. -/
def pwR (q : Rat) : Nat → Rat
  | 0 => 1
  | n + 1 => pwR q n * q
theorem pwR_two (q : Rat) (n : Nat) : pwR (q * q) n = pwR q (2 * n) := by
  induction n with
  | zero => rfl
  | succ n ih =>
    show pwR (q * q) n * (q * q) = pwR q (2 * n) * q * q
    rw [ih]; grind
/-- fix.Power's rounds. -/
def powGo (w : Nat) : Nat → Nat → Nat → Nat → Nat → Nat → Nat × Nat
  | 0, _, l1, l2, _, _ => (l1, l2)
  | f + 1, n, l1, l2, a1, a2 => if n = 0 then (l1, l2) else
    if n % 2 = 1 then powGo w f (n / 2) (l1 * a1 / 2 ^ w) (l2 * a2 / 2 ^ w + 1) (a1 * a1 / 2 ^ w) (a2 * a2 / 2 ^ w + 1)
    else powGo w f (n / 2) l1 l2 (a1 * a1 / 2 ^ w) (a2 * a2 / 2 ^ w + 1)
theorem powGo_zero (w f l1 l2 a1 a2 : Nat) : powGo w f 0 l1 l2 a1 a2 = (l1, l2) := by cases f <;> rfl
theorem powGo_enc {w : Nat} : ∀ (f n l1 l2 a1 a2 : Nat) {p q : Rat}, n < 2 ^ f → Enc w l1 l2 p → Enc w a1 a2 q → Enc w (powGo w f n l1 l2 a1 a2).1 (powGo w f n l1 l2 a1 a2).2 (p * pwR q n) := by
  intro f
  induction f with
  | zero =>
    intro n l1 l2 a1 a2 p q hn hl ha
    obtain rfl : n = 0 := by omega
    rw [powGo_zero]
    show Enc w l1 l2 (p * 1)
    rw [Rat.mul_one]; exact hl
  | succ f ih =>
    intro n l1 l2 a1 a2 p q hn hl ha
    rw [Nat.pow_succ] at hn
    rw [powGo]
    by_cases h0 : n = 0
    · subst h0
      rw [if_pos rfl]
      show Enc w l1 l2 (p * 1)
      rw [Rat.mul_one]; exact hl
    · rw [if_neg h0]
      by_cases h1 : n % 2 = 1
      · rw [if_pos h1]
        have := ih (n / 2) _ _ _ _ (by omega) (enc_mul hl ha) (enc_mul ha ha)
        rw [pwR_two] at this
        have e : pwR q n = pwR q (2 * (n / 2)) * q := by
          conv => lhs; rw [show n = 2 * (n / 2) + 1 by omega]
          rfl
        rw [e]
        have e2 : p * q * pwR q (2 * (n / 2)) = p * (pwR q (2 * (n / 2)) * q) := by grind
        rw [e2] at this
        exact this
      · rw [if_neg h1]
        have := ih (n / 2) _ _ _ _ (by omega) hl (enc_mul ha ha)
        rw [pwR_two, show 2 * (n / 2) = n by omega] at this
        exact this
/-- A number that is at most a little above 1, known up to a little. -/
def okS (P a b e : Nat) : Prop := a ≤ b ∧ b ≤ a + e ∧ b ≤ P + e
theorem okS_mul {P a b c d e g : Nat} (hP : 1000000 ≤ P) (he : e ≤ 1000) (hg : g ≤ 1000) (h : okS P a b e) (h2 : okS P c d g) : okS P (a * c / P) (b * d / P + 1) (2 * (e + g) + 2) := by
  obtain ⟨h1, h3, h4⟩ := h
  obtain ⟨k1, k3, k4⟩ := h2
  have hP0 : 0 < P := by omega
  have m1 := Nat.mul_le_mul h1 k1
  refine ⟨Nat.le_succ_of_le (Nat.div_le_div_right m1), ?_, ?_⟩
  · -- the gap
    have d1 := Nat.div_add_mod (a * c) P
    have d2 := Nat.mod_lt (a * c) hP0
    have e1 : b * d ≤ a * c + (e * d + b * g) := by
      have x1 : b * d ≤ (a + e) * d := Nat.mul_le_mul_right d h3
      have x2 : a * d ≤ a * (c + g) := Nat.mul_le_mul_left a k3
      have x3 : a * g ≤ b * g := Nat.mul_le_mul_right g h1
      rw [Nat.add_mul] at x1
      rw [Nat.mul_add] at x2
      omega
    have e2 : e * d ≤ e * (2 * P) := Nat.mul_le_mul_left e (by omega)
    have e3 : b * g ≤ 2 * P * g := Nat.mul_le_mul_right g (by omega)
    have e4 : b * d < (a * c / P + (2 * (e + g) + 2)) * P := by
      have y1 : (a * c / P + (2 * (e + g) + 2)) * P = P * (a * c / P) + (e * (2 * P) + 2 * P * g + 2 * P) := by
        rw [Nat.add_mul, Nat.mul_comm _ P]
        congr 1
        grind
      omega
    have := (Nat.div_lt_iff_lt_mul hP0).2 e4
    omega
  · have e1 : b * d ≤ (P + e) * (P + g) := Nat.mul_le_mul h4 k4
    have e2 : (P + e) * (P + g) = P * P + (e + g) * P + e * g := by grind
    have e3 : e * g ≤ 1000 * 1000 := Nat.mul_le_mul he hg
    have e4 : b * d < (P + (e + g) + 2) * P := by
      have : (P + (e + g) + 2) * P = P * P + (e + g) * P + 2 * P := by rw [Nat.add_mul, Nat.add_mul]
      omega
    have := (Nat.div_lt_iff_lt_mul hP0).2 e4
    omega
theorem okS_mono {P a b e g : Nat} (h : okS P a b e) (hg : e ≤ g) : okS P a b g := ⟨h.1, Nat.le_trans h.2.1 (by omega), Nat.le_trans h.2.2 (by omega)⟩
theorem powGo_ok {w : Nat} (hP : 1000000 ≤ 2 ^ w) : ∀ (f n l1 l2 a1 a2 E : Nat), (E + 1) * 4 ^ f ≤ 512 → okS (2 ^ w) l1 l2 E → okS (2 ^ w) a1 a2 E → okS (2 ^ w) (powGo w f n l1 l2 a1 a2).1 (powGo w f n l1 l2 a1 a2).2 511 := by
  intro f
  induction f with
  | zero =>
    intro n l1 l2 a1 a2 E hE hl ha
    rw [Nat.pow_zero] at hE
    exact okS_mono hl (by omega)
  | succ f ih =>
    intro n l1 l2 a1 a2 E hE hl ha
    have hp : 1 ≤ 4 ^ f := Nat.pow_pos (by omega)
    rw [Nat.pow_succ] at hE
    have hE2 : (4 * E + 2 + 1) * 4 ^ f ≤ 512 := Nat.le_trans (Nat.mul_le_mul_right _ (show 4 * E + 2 + 1 ≤ (E + 1) * 4 by omega)) (by rw [Nat.mul_assoc, Nat.mul_comm 4]; exact hE)
    have hE1 : E ≤ 1000 := by
      have := Nat.le_mul_of_pos_right (E + 1) (show 0 < 4 ^ f * 4 by omega)
      omega
    have sq := okS_mul hP hE1 hE1 ha ha
    have ml := okS_mul hP hE1 hE1 hl ha
    rw [show 2 * (E + E) + 2 = 4 * E + 2 by omega] at sq ml
    rw [powGo]
    by_cases h0 : n = 0
    · rw [if_pos h0]
      exact okS_mono hl (by have := Nat.le_mul_of_pos_right (E + 1) (show 0 < 4 ^ f * 4 by omega); omega)
    · rw [if_neg h0]
      by_cases h1 : n % 2 = 1
      · rw [if_pos h1]
        exact ih _ _ _ _ _ _ hE2 ml sq
      · rw [if_neg h1]
        exact ih _ _ _ _ _ _ hE2 (okS_mono hl (by omega)) sq
end Go.Proofs.YtodiciendlhkgaaGreat

/- The row's sum: it rises, and what is left out is at most three times the last term: plain mathematics. -/
namespace Go.Proofs.YtodiciendlhkgaaGreat
open Go.Ev
set_option linter.unusedVariables false
section
variable {x : Rat} {a b : Nat}
theorem rR_step (k : Nat) : rR x a b (k + 1) * ((a + 2 + 2 * k : Nat) : Rat) = rR x a b k * x * ((a + b + 2 * k : Nat) : Rat) := by
  have M : (0 : Rat) < ((a + 2 + 2 * k : Nat) : Rat) := by exact_mod_cast (show 0 < a + 2 + 2 * k by omega)
  show rR x a b k * x * ((a + b + 2 * k : Nat) : Rat) / ((a + 2 + 2 * k : Nat) : Rat) * _ = _
  exact Rat.div_mul_cancel (by grind)
theorem rR_nn (h : 0 ≤ x) : ∀ k, 0 ≤ rR x a b k := by
  intro k
  induction k with
  | zero => show (0 : Rat) ≤ 1; decide
  | succ k ih =>
    have M : (0 : Rat) < ((a + 2 + 2 * k : Nat) : Rat) := by exact_mod_cast (show 0 < a + 2 + 2 * k by omega)
    have e := rR_step (x := x) (a := a) (b := b) k
    refine le_by M ?_
    rw [e, Rat.zero_mul]
    exact Rat.mul_nonneg (Rat.mul_nonneg ih h) (nat_nonneg _)
theorem rR_fall (h : 0 ≤ x) (h1 : x + x ≤ 1) {k : Nat} (hk : b ≤ k) : 4 * rR x a b (k + 1) ≤ 3 * rR x a b k := by
  have M : (0 : Rat) < ((a + 2 + 2 * k : Nat) : Rat) := by exact_mod_cast (show 0 < a + 2 + 2 * k by omega)
  have e := rR_step (x := x) (a := a) (b := b) k
  have r0 := rR_nn (a := a) (b := b) h k
  have hn : ((2 * (a + b + 2 * k) : Nat) : Rat) ≤ ((3 * (a + 2 + 2 * k) : Nat) : Rat) := by exact_mod_cast (show 2 * (a + b + 2 * k) ≤ 3 * (a + 2 + 2 * k) by omega)
  have c1 : ((2 * (a + b + 2 * k) : Nat) : Rat) = 2 * ((a + b + 2 * k : Nat) : Rat) := by exact_mod_cast rfl
  have c2 : ((3 * (a + 2 + 2 * k) : Nat) : Rat) = 3 * ((a + 2 + 2 * k : Nat) : Rat) := by exact_mod_cast rfl
  rw [c1, c2] at hn
  have n0 := nat_nonneg (a + b + 2 * k)
  generalize ((a + 2 + 2 * k : Nat) : Rat) = m at *
  generalize ((a + b + 2 * k : Nat) : Rat) = n at *
  generalize rR x a b (k + 1) = r' at *
  generalize rR x a b k = r at *
  refine le_by M ?_
  have k1 : r * (n * (x + x)) ≤ r * (n * 1) := Rat.mul_le_mul_of_nonneg_left (Rat.mul_le_mul_of_nonneg_left h1 n0) r0
  have k2 : r * (2 * n) ≤ r * (3 * m) := Rat.mul_le_mul_of_nonneg_left hn r0
  have e1 : 4 * r' * m = 2 * (r * (n * (x + x))) := by
    have : 4 * r' * m = 4 * (r' * m) := by grind
    rw [this, e]; grind
  rw [e1]
  grind
theorem sR_up (h : 0 ≤ x) {k m : Nat} (hkm : k ≤ m) : sR x a b k ≤ sR x a b m := by
  obtain ⟨j, rfl⟩ := Nat.exists_eq_add_of_le hkm
  clear hkm
  induction j with
  | zero => exact Rat.le_refl
  | succ j ih =>
    have := rR_nn (a := a) (b := b) h (k + j + 1)
    show sR x a b k ≤ sR x a b (k + j) + rR x a b (k + j + 1)
    grind
/-- What is left out behind a late term is at most three times the term. -/
theorem sR_rest (h : 0 ≤ x) (h1 : x + x ≤ 1) {k m : Nat} (hk : b ≤ k) (hkm : k ≤ m) : sR x a b m + 3 * rR x a b m ≤ sR x a b k + 3 * rR x a b k := by
  obtain ⟨j, rfl⟩ := Nat.exists_eq_add_of_le hkm
  clear hkm
  induction j with
  | zero => exact Rat.le_refl
  | succ j ih =>
    have := rR_fall (a := a) h h1 (k := k + j) (show b ≤ k + j by omega)
    show sR x a b (k + j) + rR x a b (k + j + 1) + 3 * rR x a b (k + j + 1) ≤ _
    grind
/-- Any sum is at most a late one and three of its terms. -/
theorem sR_top (h : 0 ≤ x) (h1 : x + x ≤ 1) {k m : Nat} (hk : b ≤ k) : sR x a b m ≤ sR x a b k + 3 * rR x a b k := by
  rcases Nat.le_total m k with g | g
  · have := sR_up (a := a) (b := b) h g
    have := rR_nn (a := a) (b := b) h k
    grind
  · have := sR_rest (a := a) h h1 hk g
    have := rR_nn (a := a) (b := b) h m
    grind
end
end Go.Proofs.YtodiciendlhkgaaGreat

/- Gamma at halves, ways to choose: plain mathematics, no program. -/
namespace Go.Ev
/-- The product of so many numbers, from one on, each so much more. -/
def prodN (a by' : Nat) : Nat → Nat
  | 0 => 1
  | c + 1 => prodN a by' c * (a + c * by')
theorem prodN_pos {a b : Nat} (ha : 0 < a) : ∀ c, 0 < prodN a b c := by
  intro c
  induction c with
  | zero => exact Nat.one_pos
  | succ c ih => exact Nat.mul_pos ih (by omega)
theorem prodN_len {a b c : Nat} (h : ∀ i, i < c → a + i * b < 4294967296) : (lim (prodN a b c)).length ≤ c + 1 := by
  induction c with
  | zero => exact lim_len_one (show 1 < 4294967296 by decide)
  | succ c ih =>
    have h1 := ih fun i hi => h i (by omega)
    have h2 := lim_len_mul (a := prodN a b c) (b := a + c * b)
    have h3 := lim_len_one (h c (by omega))
    show (lim (prodN a b c * (a + c * b))).length ≤ _
    omega
/-- From the front. -/
theorem prodN_front (a b : Nat) : ∀ c, prodN a b (c + 1) = a * prodN (a + b) b c := by
  intro c
  induction c with
  | zero => simp [prodN]
  | succ c ih =>
    show prodN a b (c + 1) * (a + (c + 1) * b) = a * (prodN (a + b) b c * (a + b + c * b))
    rw [ih, Nat.mul_assoc, Nat.add_mul c 1 b, Nat.one_mul, Nat.add_comm (c * b) b, ← Nat.add_assoc]
/-- Gamma of n by 2, but for the root of pi. -/
def gam2 (n : Nat) : Rat := if n % 2 = 0 then (prodN 2 1 (n / 2 - 2) : Nat) else mkRat (prodN 3 2 ((n - 3) / 2) : Nat) (2 ^ (n / 2))
theorem gam2_step {n : Nat} (hn : 1 ≤ n) : gam2 (n + 2) = gam2 n * mkRat n 2 := by
  unfold gam2
  have e1 : (n + 2) % 2 = n % 2 := by omega
  rw [e1]
  split
  · rename_i h
    obtain ⟨m, rfl⟩ : ∃ m, n = 2 * (m + 1) := ⟨n / 2 - 1, by omega⟩
    have e2 : ((prodN 2 1 ((2 * (m + 1) + 2) / 2 - 2) : Nat)) = prodN 2 1 (2 * (m + 1) / 2 - 2) * (m + 1) := by
      rcases Nat.eq_zero_or_pos m with rfl | h0
      · rfl
      · obtain ⟨k, rfl⟩ : ∃ k, m = k + 1 := ⟨m - 1, by omega⟩
        rw [show (2 * (k + 1 + 1) + 2) / 2 - 2 = k + 1 by omega, show 2 * (k + 1 + 1) / 2 - 2 = k by omega]
        show prodN 2 1 k * (2 + k * 1) = _
        rw [Nat.mul_one, Nat.add_comm 2 k]
    have e3 : mkRat ((2 * (m + 1) : Nat) : Int) 2 = ((m + 1 : Nat) : Rat) := by
      rw [Rat.mkRat_eq_div]
      push_cast
      grind
    rw [e2, e3, Rat.natCast_mul]
  · rename_i h
    obtain ⟨m, rfl⟩ : ∃ m, n = 2 * m + 1 := ⟨n / 2, by omega⟩
    rw [Rat.mkRat_mul_mkRat]
    have e2 : prodN 3 2 ((2 * m + 1 + 2 - 3) / 2) = prodN 3 2 ((2 * m + 1 - 3) / 2) * (2 * m + 1) := by
      rcases Nat.eq_zero_or_pos m with rfl | h0
      · rfl
      · obtain ⟨k, rfl⟩ : ∃ k, m = k + 1 := ⟨m - 1, by omega⟩
        rw [show (2 * (k + 1) + 1 + 2 - 3) / 2 = k + 1 by omega, show (2 * (k + 1) + 1 - 3) / 2 = k by omega]
        show prodN 3 2 k * (3 + k * 2) = _
        congr 1
        omega
    rw [e2, Int.natCast_mul, show (2 * m + 1 + 2) / 2 = (2 * m + 1) / 2 + 1 by omega, Nat.pow_succ]
/-- Ways to choose so many out of so many others and these. -/
def cc : Nat → Nat → Nat
  | 0, _ => 1
  | _ + 1, 0 => 1
  | m + 1, k + 1 => cc m (k + 1) + cc (m + 1) k
theorem cc_zero (m : Nat) : cc m 0 = 1 := by cases m <;> simp [cc]
theorem cc_succ (m k : Nat) : cc (m + 1) (k + 1) = cc m (k + 1) + cc (m + 1) k := by rw [cc]
theorem cc_symm : ∀ m k, cc m k = cc k m := by
  intro m
  induction m with
  | zero => intro k; rw [cc_zero]; simp [cc]
  | succ m ih =>
    intro k
    induction k with
    | zero => rw [cc_zero]; simp [cc]
    | succ k ihk =>
      rw [cc_succ, cc_succ, ih (k + 1), ihk, Nat.add_comm]
def facN (k : Nat) : Nat := prodN 1 1 k
theorem facN_succ (k : Nat) : facN (k + 1) = facN k * (k + 1) := by
  show prodN 1 1 k * (1 + k * 1) = _
  rw [Nat.mul_one, Nat.add_comm 1 k]
  rfl
theorem facN_pos (k : Nat) : 0 < facN k := prodN_pos (by decide) k
theorem facN_two (k : Nat) : prodN 2 1 (k - 1) = facN k := by
  cases k with
  | zero => rfl
  | succ k =>
    rw [Nat.add_sub_cancel]
    show _ = prodN 1 1 (k + 1)
    rw [prodN_front 1 1 k, Nat.one_mul]
theorem prod_cc : ∀ m k, prodN (m + 1) 1 k = cc m k * facN k := by
  intro m
  induction m with
  | zero => intro k; simp [cc, facN]
  | succ m ih =>
    intro k
    induction k with
    | zero => rw [cc_zero]; rfl
    | succ k ihk =>
      have h1 := ih (k + 1)
      have h2 := prodN_front (m + 1) 1 k
      rw [cc_succ, Nat.add_mul, ← h1, h2, facN_succ, ← Nat.mul_assoc, ← ihk]
      show prodN (m + 1 + 1) 1 k * (m + 1 + 1 + k * 1) = _
      rw [Nat.mul_comm (m + 1), ← Nat.mul_add]
      congr 1
      omega
theorem cc_step (m k : Nat) : cc m (k + 1) * (k + 1) = cc m k * (m + (k + 1)) := by
  have h1 := prod_cc m (k + 1)
  have h2 := prod_cc m k
  have h3 : prodN (m + 1) 1 (k + 1) = prodN (m + 1) 1 k * (m + 1 + k * 1) := rfl
  rw [h3, h2, facN_succ] at h1
  have h4 := facN_pos k
  refine Nat.eq_of_mul_eq_mul_right h4 ?_
  rw [Nat.mul_assoc, Nat.mul_comm (k + 1), ← h1, Nat.mul_right_comm]
  congr 1
  congr 1
  omega
theorem cc_pos : ∀ m k, 0 < cc m k := by
  intro m
  induction m with
  | zero => intro k; simp [cc]
  | succ m ih =>
    intro k
    induction k with
    | zero => simp [cc]
    | succ k ihk =>
      rw [cc_succ]
      omega
theorem cc_le {m k : Nat} : cc m k ≤ prodN (m + 1) 1 k := by
  rw [prod_cc]
  exact Nat.le_mul_of_pos_right _ (facN_pos k)
/-- How many ways there are to choose k of n; none, where it makes no sense. -/
def chR (n k : Int) : Nat := if 0 ≤ n ∧ n ≤ 512 ∧ 0 ≤ k ∧ k ≤ n then cc (n - k).toNat k.toNat else 0
theorem mk_whole (s : Bool) (a b : Nat) (hb : 0 < b) : mkRat (sgn s (a * b)) b = mkRat (sgn s a) 1 := by
  have e : sgn s (a * b) = sgn s a * (b : Int) := by
    unfold sgn
    split
    · rw [Int.natCast_mul, Int.neg_mul]
    · rw [Int.natCast_mul]
  rw [e]
  have := Rat.mkRat_mul_right (n := sgn s a) (d := 1) (a := b) (by omega)
  rw [Nat.one_mul] at this
  exact this
theorem gam2_pos {n : Nat} : gam2 n ≠ 0 := by
  unfold gam2
  split
  · have := prodN_pos (a := 2) (b := 1) (by decide) (n / 2 - 2)
    intro h
    have h2 : prodN 2 1 (n / 2 - 2) = 0 := by exact_mod_cast h
    omega
  · have := prodN_pos (a := 3) (b := 2) (by decide) ((n - 3) / 2)
    intro h
    rw [Rat.mkRat_eq_zero (Nat.ne_of_gt (Nat.pow_pos (by decide)))] at h
    omega
/-- Beta of halves, but for how often pi. -/
def beta2 (a b : Nat) : Rat := gam2 a * gam2 b / gam2 (a + b)
theorem beta2_symm (a b : Nat) : beta2 a b = beta2 b a := by unfold beta2; rw [Rat.mul_comm, Nat.add_comm]
theorem beta2_mul (a b : Nat) : beta2 a b * gam2 (a + b) = gam2 a * gam2 b := by
  unfold beta2
  exact Rat.div_mul_cancel gam2_pos
end Go.Ev

/- Ways times chances: plain mathematics, no program. -/
namespace Go.Ev
/-- Of n tries, how many parts just j successes have; p: a success's parts, f: a failure's. -/
def termN (p f n j : Nat) : Nat := cc (n - j) j * p ^ j * f ^ (n - j)
/-- At most k successes: so many of the first. -/
def sumN (p f n : Nat) : Nat → Nat
  | 0 => 0
  | k + 1 => sumN p f n k + termN p f n k
theorem cc_move (m j : Nat) : cc (m + 1) j * (m + 1) = cc m (j + 1) * (j + 1) := by
  rw [cc_step, cc_symm (m + 1) j, cc_step, cc_symm j m]
  congr 1
  omega
theorem ways_step {p n j : Nat} (h : j < n) : cc (n - j) j * p ^ j * p * (n - j) / (j + 1) = cc (n - (j + 1)) (j + 1) * p ^ (j + 1) := by
  obtain ⟨m, hm⟩ : ∃ m, n - j = m + 1 := ⟨n - j - 1, by omega⟩
  rw [hm, show n - (j + 1) = m by omega]
  have h1 := cc_move m j
  have e : cc (m + 1) j * p ^ j * p * (m + 1) = cc m (j + 1) * p ^ (j + 1) * (j + 1) := by
    rw [Nat.mul_assoc (cc (m + 1) j), ← Nat.pow_succ, Nat.mul_right_comm, h1, Nat.mul_right_comm]
  rw [e, Nat.mul_div_cancel _ (by omega)]
/-- All of them are all. -/
theorem sumN_all : ∀ (p f n : Nat), sumN p f n (n + 1) = (p + f) ^ n := by
  have hz : ∀ p f n k, (∀ j, j < k → n < j → termN p f n j = 0) → True := fun _ _ _ _ _ => trivial
  intro p f n
  have key : ∀ n k, k ≤ n → sumN p f (n + 1) (k + 1) = f * sumN p f n (k + 1) + p * sumN p f n k := by
    intro n k hk
    induction k with
    | zero =>
      show 0 + termN p f (n + 1) 0 = f * (0 + termN p f n 0) + p * 0
      unfold termN
      simp only [Nat.sub_zero, cc_zero, Nat.pow_zero, Nat.mul_one, Nat.one_mul, Nat.zero_add, Nat.mul_zero, Nat.add_zero]
      rw [Nat.pow_succ, Nat.mul_comm]
    | succ k ih =>
      have h1 := ih (by omega)
      have h2 : termN p f (n + 1) (k + 1) = f * termN p f n (k + 1) + p * termN p f n k := by
        unfold termN
        obtain ⟨m, rfl⟩ : ∃ m, n = m + (k + 1) := ⟨n - (k + 1), by omega⟩
        rw [show m + (k + 1) + 1 - (k + 1) = m + 1 by omega, show m + (k + 1) - (k + 1) = m by omega, show m + (k + 1) - k = m + 1 by omega, cc_succ, Nat.add_mul, Nat.add_mul]
        rw [Nat.pow_succ f m, Nat.pow_succ p k]
        have e1 : cc m (k + 1) * (p ^ k * p) * (f ^ m * f) = f * (cc m (k + 1) * (p ^ k * p) * f ^ m) := by
          rw [← Nat.mul_assoc, Nat.mul_comm]
        have e2 : cc (m + 1) k * (p ^ k * p) * (f ^ m * f) = p * (cc (m + 1) k * p ^ k * (f ^ m * f)) := by
          rw [← Nat.mul_assoc (cc (m + 1) k), Nat.mul_comm (cc (m + 1) k * p ^ k) p, Nat.mul_assoc p]
        rw [e1, e2]
      show sumN p f (n + 1) (k + 1) + termN p f (n + 1) (k + 1) = f * (sumN p f n (k + 1) + termN p f n (k + 1)) + p * (sumN p f n k + termN p f n k)
      rw [h1, h2, Nat.mul_add, Nat.mul_add]
      omega
  induction n with
  | zero => show 0 + termN p f 0 0 = 1; simp [termN, cc]
  | succ n ih =>
    have h1 := key n n (Nat.le_refl _)
    have h2 : termN p f (n + 1) (n + 1) = p * termN p f n n := by
      unfold termN
      simp only [Nat.sub_self, Nat.pow_zero, Nat.mul_one]
      rw [show cc 0 (n + 1) = 1 by simp [cc], show cc 0 n = 1 by simp [cc], Nat.one_mul, Nat.one_mul, Nat.pow_succ, Nat.mul_comm]
    show sumN p f (n + 1) (n + 1) + termN p f (n + 1) (n + 1) = _
    rw [h1, h2, Nat.add_assoc, ← Nat.mul_add]
    show f * sumN p f n (n + 1) + p * sumN p f n (n + 1) = _
    rw [ih, ← Nat.add_mul, Nat.pow_succ, Nat.mul_comm, Nat.add_comm f p]
theorem sumN_mono (p f n : Nat) {a b : Nat} (h : a ≤ b) : sumN p f n a ≤ sumN p f n b := by
  induction b with
  | zero => have : a = 0 := by omega
            subst this; exact Nat.le_refl _
  | succ b ih =>
    rcases Nat.lt_or_ge b a with h1 | h1
    · have : a = b + 1 := by omega
      subst this; exact Nat.le_refl _
    · exact Nat.le_trans (ih h1) (Nat.le_add_right _ _)
end Go.Ev

/- Fractions of one denominator; the least count that is so likely: plain mathematics, no program. -/
namespace Go.Ev
theorem mk_mul (a : Int) {D : Nat} (hD : D ≠ 0) : mkRat a D * ((D : Nat) : Rat) = (a : Rat) := by
  rw [Rat.mkRat_eq_div]
  exact Rat.div_mul_cancel (by exact_mod_cast hD)
theorem le_mul_iff {x y c : Rat} (hc : 0 < c) : x ≤ y ↔ x * c ≤ y * c := by
  constructor
  · intro h
    exact Rat.mul_le_mul_of_nonneg_right h (by grind)
  · intro h
    rcases Rat.le_total (a := x) (b := y) with h1 | h1
    · exact h1
    · have h2 := Rat.mul_le_mul_of_nonneg_right h1 (by grind : (0 : Rat) ≤ c)
      have h3 : (x - y) * c = 0 := by grind
      rcases Rat.mul_eq_zero.1 h3 with h4 | h4 <;> grind
theorem mk_le {a b : Int} {D : Nat} (hD : 0 < D) : mkRat a D ≤ mkRat b D ↔ a ≤ b := by
  have hc : (0 : Rat) < ((D : Nat) : Rat) := by exact_mod_cast hD
  rw [le_mul_iff hc, mk_mul _ (by omega), mk_mul _ (by omega)]
  exact Rat.intCast_le_intCast
theorem mk_self {D : Nat} (hD : 0 < D) : mkRat (D : Int) D = 1 := by
  rw [Rat.mkRat_eq_div]
  have hc : ((D : Nat) : Rat) ≠ 0 := by exact_mod_cast (show D ≠ 0 by omega)
  have e : (((D : Nat) : Int) : Rat) = ((D : Nat) : Rat) := rfl
  rw [e]
  rw [Rat.div_def]
  exact Rat.mul_inv_cancel _ hc
/-- How likely at most k of n tries succeed. -/
def cdfB (n : Nat) (k : Int) (x : Rat) : Rat := if k < 0 then 0 else if (n : Int) ≤ k then 1 else mkRat (sumN x.num.natAbs (x.den - x.num.natAbs) n (k.toNat + 1) : Nat) (x.den ^ n)
theorem unit_num {x : Rat} (h0 : 0 ≤ x) (h1 : x ≤ 1) : x.num.natAbs ≤ x.den ∧ (x.num.natAbs : Int) = x.num := by
  have h2 := Rat.num_nonneg.2 h0
  have h3 := (Rat.le_iff x 1).1 h1
  rw [show (1 : Rat).den = 1 from rfl, show (1 : Rat).num = 1 from rfl] at h3
  omega
theorem den_pos (x : Rat) (n : Nat) : 0 < x.den ^ n := Nat.pow_pos (Nat.pos_of_ne_zero x.den_nz)
theorem cdfB_mono {n : Nat} {x : Rat} (h0 : 0 ≤ x) (h1 : x ≤ 1) {i j : Nat} (h : i ≤ j) : cdfB n i x ≤ cdfB n j x := by
  obtain ⟨hle, -⟩ := unit_num h0 h1
  unfold cdfB
  rw [if_neg (show ¬ ((i : Nat) : Int) < 0 by omega), if_neg (show ¬ ((j : Nat) : Int) < 0 by omega)]
  by_cases hj : (n : Int) ≤ j
  · rw [if_pos hj]
    by_cases hi : (n : Int) ≤ i
    · rw [if_pos hi]
      exact Rat.le_refl
    · rw [if_neg hi, ← mk_self (den_pos x n), mk_le (den_pos x n)]
      have h2 := sumN_mono x.num.natAbs (x.den - x.num.natAbs) n (show i + 1 ≤ n + 1 by omega)
      rw [sumN_all, show x.num.natAbs + (x.den - x.num.natAbs) = x.den by omega] at h2
      rw [Int.toNat_natCast]
      exact Int.ofNat_le.2 h2
  · rw [if_neg hj, if_neg (show ¬ (n : Int) ≤ i by omega), mk_le (den_pos x n)]
    have h2 := sumN_mono x.num.natAbs (x.den - x.num.natAbs) n (show i + 1 ≤ j + 1 by omega)
    rw [Int.toNat_natCast, Int.toNat_natCast]
    exact Int.ofNat_le.2 h2
/-- The least count that is so likely. -/
def isLeast (n : Nat) (x q : Rat) (k : Nat) : Prop := k ≤ n ∧ (∀ j : Nat, j < k → cdfB n j x < q) ∧ (k = n ∨ q ≤ cdfB n k x)
theorem isLeast_unique {n : Nat} {x q : Rat} {k l : Nat} (hk : isLeast n x q k) (hl : isLeast n x q l) : k = l := by
  obtain ⟨k1, k2, k3⟩ := hk
  obtain ⟨l1, l2, l3⟩ := hl
  rcases Nat.lt_trichotomy k l with h | h | h
  · have := l2 k h
    rcases k3 with h3 | h3
    · omega
    · exfalso; grind
  · exact h
  · have := k2 l h
    rcases l3 with h3 | h3
    · omega
    · exfalso; grind
/-- Is it so likely? By whole numbers. -/
theorem cdfB_ge {n k : Nat} {x q : Rat} (hk : k < n) : q ≤ cdfB n k x ↔ q.num * ((x.den ^ n : Nat) : Int) ≤ ((sumN x.num.natAbs (x.den - x.num.natAbs) n (k + 1) * q.den : Nat) : Int) := by
  unfold cdfB
  rw [if_neg (by omega), if_neg (by omega), Int.toNat_natCast]
  have hD := den_pos x n
  generalize x.den ^ n = D at *
  generalize sumN x.num.natAbs (x.den - x.num.natAbs) n (k + 1) = S
  have hc : (0 : Rat) < ((D : Nat) : Rat) := by exact_mod_cast hD
  have hq : (0 : Rat) < ((q.den : Nat) : Rat) := by exact_mod_cast Nat.pos_of_ne_zero q.den_nz
  rw [le_mul_iff hc, mk_mul _ (by omega), le_mul_iff hq]
  have e1 : q * ((D : Nat) : Rat) * ((q.den : Nat) : Rat) = ((q.num * ((D : Nat) : Int) : Int) : Rat) := by
    have h := mk_mul q.num q.den_nz
    rw [Rat.mkRat_self] at h
    rw [Rat.intCast_mul, ← h, Rat.intCast_natCast]
    grind
  have e2 : (((S : Nat) : Int) : Rat) * ((q.den : Nat) : Rat) = (((S * q.den : Nat) : Int) : Rat) := by
    rw [Int.natCast_mul, Rat.intCast_mul]
    rfl
  rw [e1, e2]
  exact Rat.intCast_le_intCast
end Go.Ev

/- Of whole numbers beta's share is how likely so many tries succeed: plain mathematics. -/
namespace Go.Proofs.YtodiciendlhkgaaGreat
open Go.Ev
set_option linter.unusedVariables false
/-- How likely just i of n fail (y), the others succeed (x). -/
def trm (x y : Rat) (n i : Nat) : Rat := ((cc (n - i) i : Nat) : Rat) * pwR x (n - i) * pwR y i
def sS (x y : Rat) (n : Nat) : Nat → Rat
  | 0 => 0
  | j + 1 => sS x y n j + trm x y n j
theorem pwR_succ (q : Rat) (n : Nat) : pwR q (n + 1) = pwR q n * q := rfl
theorem pwR_nn {q : Rat} (h : 0 ≤ q) : ∀ n, 0 ≤ pwR q n
  | 0 => by show (0 : Rat) ≤ 1; decide
  | n + 1 => Rat.mul_nonneg (pwR_nn h n) h
theorem cn (a b : Nat) : ((a + b : Nat) : Rat) = (a : Rat) + (b : Rat) := by exact_mod_cast rfl
theorem cm (a b : Nat) : ((a * b : Nat) : Rat) = (a : Rat) * (b : Rat) := by exact_mod_cast rfl
theorem trm_nn {x y : Rat} (hx : 0 ≤ x) (hy : 0 ≤ y) (n i : Nat) : 0 ≤ trm x y n i :=
  Rat.mul_nonneg (Rat.mul_nonneg (nat_nonneg _) (pwR_nn hx _)) (pwR_nn hy _)
theorem trm_step {x y : Rat} {n i : Nat} (h : i ≤ n) : trm x y (n + 1) (i + 1) = x * trm x y n (i + 1) + y * trm x y n i ∨ i = n := by
  by_cases e : i = n
  · exact .inr e
  · left
    obtain ⟨m, rfl⟩ : ∃ m, n = m + 1 + i := ⟨n - i - 1, by omega⟩
    unfold trm
    rw [show m + 1 + i + 1 - (i + 1) = m + 1 by omega, show m + 1 + i - (i + 1) = m by omega, show m + 1 + i - i = m + 1 by omega, cc_succ, cn]
    simp only [pwR_succ]
    grind
theorem sS_step {x y : Rat} {n : Nat} : ∀ j, j ≤ n → sS x y (n + 1) (j + 1) = x * sS x y n (j + 1) + y * sS x y n j := by
  intro j
  induction j with
  | zero =>
    intro _
    show 0 + trm x y (n + 1) 0 = x * (0 + trm x y n 0) + y * 0
    unfold trm
    rw [cc_zero, cc_zero, Nat.sub_zero, Nat.sub_zero, pwR_succ]
    grind
  | succ j ih =>
    intro h
    have h1 := ih (by omega)
    have h2 := (trm_step (x := x) (y := y) (n := n) (i := j) (by omega)).resolve_right (by omega)
    show sS x y (n + 1) (j + 1) + trm x y (n + 1) (j + 1) = x * (sS x y n (j + 1) + trm x y n (j + 1)) + y * (sS x y n j + trm x y n j)
    rw [h1, h2]
    grind
section
variable {x y : Rat} {B : Nat}
/-- From one shape to the next just one term is lost. -/
theorem share_step (hxy : x + y = 1) (hB : 1 ≤ B) (m : Nat) : sS x y (m + B - 1) B = trm x y (m + B - 1) (B - 1) * y + sS x y (m + 1 + B - 1) B := by
  obtain ⟨b, rfl⟩ : ∃ b, B = b + 1 := ⟨B - 1, by omega⟩
  rw [show m + (b + 1) - 1 = m + b by omega, show m + 1 + (b + 1) - 1 = m + b + 1 by omega, Nat.add_sub_cancel]
  have h := sS_step (x := x) (y := y) (n := m + b) b (by omega)
  have h2 : sS x y (m + b) (b + 1) = sS x y (m + b) b + trm x y (m + b) b := rfl
  rw [h]
  have e : y = 1 - x := by grind
  rw [h2, e]
  grind
theorem trm_half (hx : 0 ≤ x) (hxy : x ≤ y) (hy : 0 < y) {n i : Nat} (hi : 1 ≤ i) (hn : 3 * i ≤ n + 1) : 2 * trm x y n (i - 1) ≤ trm x y n i := by
  obtain ⟨j, rfl⟩ : ∃ j, i = j + 1 := ⟨i - 1, by omega⟩
  obtain ⟨m, rfl⟩ : ∃ m, n = m + (j + 1) := ⟨n - (j + 1), by omega⟩
  rw [Nat.add_sub_cancel]
  unfold trm
  rw [show m + (j + 1) - j = m + 1 by omega, Nat.add_sub_cancel]
  have h := cc_move m j
  have h' : ((cc (m + 1) j : Nat) : Rat) * ((m + 1 : Nat) : Rat) = ((cc m (j + 1) : Nat) : Rat) * ((j + 1 : Nat) : Rat) := by rw [← cm, ← cm, h]
  have hm : ((2 * (j + 1) : Nat) : Rat) ≤ ((m + 1 : Nat) : Rat) := by exact_mod_cast (show 2 * (j + 1) ≤ m + 1 by omega)
  rw [cm] at hm
  have hj : (0 : Rat) < ((j + 1 : Nat) : Rat) := by exact_mod_cast Nat.succ_pos j
  simp only [pwR_succ]
  have c0 := nat_nonneg (cc (m + 1) j)
  have p1 := pwR_nn hx m
  have p2 := pwR_nn (show 0 ≤ y by grind) j
  generalize ((cc (m + 1) j : Nat) : Rat) = c at *
  generalize ((cc m (j + 1) : Nat) : Rat) = d at *
  generalize ((m + 1 : Nat) : Rat) = M at *
  generalize ((j + 1 : Nat) : Rat) = J at *
  generalize pwR x m = X at *
  generalize pwR y j = Y at *
  have two : ((2 : Nat) : Rat) = 2 := rfl
  rw [two] at hm
  -- 2 c x J <= c y M = d J y
  refine le_by hj ?_
  have s1 : c * (X * Y) * x ≤ c * (X * Y) * y := Rat.mul_le_mul_of_nonneg_left hxy (Rat.mul_nonneg c0 (Rat.mul_nonneg p1 p2))
  have s2 : c * (X * Y) * y * (2 * J) ≤ c * (X * Y) * y * M := Rat.mul_le_mul_of_nonneg_left hm (Rat.mul_nonneg (Rat.mul_nonneg c0 (Rat.mul_nonneg p1 p2)) (by grind))
  have s3 : c * (X * Y) * x * (2 * J) ≤ c * (X * Y) * y * (2 * J) := Rat.mul_le_mul_of_nonneg_right s1 (by grind)
  have e1 : 2 * (c * (X * x) * Y) * J = c * (X * Y) * x * (2 * J) := by grind
  have e2 : d * X * (Y * y) * J = c * (X * Y) * y * M := by
    have : d * X * (Y * y) * J = (d * J) * (X * Y * y) := by grind
    rw [this, ← h']; grind
  rw [e1, e2]
  exact Rat.le_trans s3 s2
theorem sS_le_two (hx : 0 ≤ x) (hxy : x ≤ y) (hy : 0 < y) {n : Nat} : ∀ j, 3 * j ≤ n + 1 → sS x y n (j + 1) ≤ 2 * trm x y n j := by
  intro j
  induction j with
  | zero =>
    intro _
    have := trm_nn hx (show 0 ≤ y by grind) n 0
    show 0 + trm x y n 0 ≤ _
    grind
  | succ j ih =>
    intro h
    have h1 := ih (by omega)
    have h2 := trm_half hx hxy hy (n := n) (i := j + 1) (by omega) (by omega)
    rw [Nat.add_sub_cancel] at h2
    show sS x y n (j + 1) + trm x y n (j + 1) ≤ _
    grind
theorem sS_nn (hx : 0 ≤ x) (hy : 0 ≤ y) (n : Nat) : ∀ j, 0 ≤ sS x y n j
  | 0 => Rat.le_refl
  | j + 1 => by
    have h1 := sS_nn hx hy n j
    have h2 := trm_nn hx hy n j
    show 0 ≤ sS x y n j + trm x y n j
    grind
/-- What is left out is at most four times the term. -/
theorem share_le (hx : 0 ≤ x) (hxy : x ≤ y) (h1 : x + y = 1) (hB : 1 ≤ B) {m : Nat} (hm : 2 * B ≤ m) : sS x y (m + B - 1) B ≤ 4 * (trm x y (m + B - 1) (B - 1) * y) := by
  obtain ⟨b, rfl⟩ : ∃ b, B = b + 1 := ⟨B - 1, by omega⟩
  rw [Nat.add_sub_cancel]
  have hy : 0 < y := by grind
  have h2 := sS_le_two hx hxy hy (n := m + (b + 1) - 1) b (by omega)
  have t0 := trm_nn hx (show 0 ≤ y by grind) (m + (b + 1) - 1) b
  generalize trm x y (m + (b + 1) - 1) b = t at *
  have h3 : t * 1 ≤ t * (2 * y) := Rat.mul_le_mul_of_nonneg_left (by grind) t0
  grind
/-- A term of the row is a term of the share. -/
theorem term_is (hB : 1 ≤ B) {A : Nat} (hA : 1 ≤ A) : ∀ k, ((cc (B - 1) A : Nat) : Rat) * (pwR x A * pwR y B) * rR x (2 * A) (2 * B) k = trm x y (A + k + B - 1) (B - 1) * y := by
  obtain ⟨b, rfl⟩ : ∃ b, B = b + 1 := ⟨B - 1, by omega⟩
  intro k
  induction k with
  | zero =>
    unfold trm
    rw [show A + 0 + (b + 1) - 1 - (b + 1 - 1) = A by omega, Nat.add_sub_cancel, cc_symm b A]
    show _ * (pwR x A * (pwR y b * y)) * 1 = _
    grind
  | succ k ih =>
    have e1 : rR x (2 * A) (2 * (b + 1)) (k + 1) = rR x (2 * A) (2 * (b + 1)) k * x * ((2 * A + 2 * (b + 1) + 2 * k : Nat) : Rat) / ((2 * A + 2 + 2 * k : Nat) : Rat) := rfl
    have D : (0 : Rat) < ((2 * A + 2 + 2 * k : Nat) : Rat) := by exact_mod_cast (show 0 < 2 * A + 2 + 2 * k by omega)
    have e2 : ((cc (b + 1 - 1) A : Nat) : Rat) * (pwR x A * pwR y (b + 1)) * rR x (2 * A) (2 * (b + 1)) (k + 1) * ((2 * A + 2 + 2 * k : Nat) : Rat) = trm x y (A + k + (b + 1) - 1) (b + 1 - 1) * y * (x * ((2 * A + 2 * (b + 1) + 2 * k : Nat) : Rat)) := by
      rw [e1, ← ih]
      have := Rat.div_mul_cancel (a := rR x (2 * A) (2 * (b + 1)) k * x * ((2 * A + 2 * (b + 1) + 2 * k : Nat) : Rat)) (b := ((2 * A + 2 + 2 * k : Nat) : Rat)) (by grind)
      generalize rR x (2 * A) (2 * (b + 1)) k * x * ((2 * A + 2 * (b + 1) + 2 * k : Nat) : Rat) / ((2 * A + 2 + 2 * k : Nat) : Rat) = z at *
      grind
    have e3 : trm x y (A + (k + 1) + (b + 1) - 1) (b + 1 - 1) * y * ((2 * A + 2 + 2 * k : Nat) : Rat) = trm x y (A + k + (b + 1) - 1) (b + 1 - 1) * y * (x * ((2 * A + 2 * (b + 1) + 2 * k : Nat) : Rat)) := by
      unfold trm
      rw [Nat.add_sub_cancel, show A + (k + 1) + (b + 1) - 1 - b = A + k + 1 by omega, show A + k + (b + 1) - 1 - b = A + k by omega]
      have h := cc_step b (A + k)
      rw [cc_symm b (A + k + 1), cc_symm b (A + k)] at h
      have h' : ((cc (A + k + 1) b : Nat) : Rat) * ((2 * A + 2 + 2 * k : Nat) : Rat) = ((cc (A + k) b : Nat) : Rat) * ((2 * A + 2 * (b + 1) + 2 * k : Nat) : Rat) := by
        rw [← cm, ← cm]
        congr 1
        have x1 : 2 * A + 2 + 2 * k = (A + k + 1) * 2 := by omega
        have x2 : 2 * A + 2 * (b + 1) + 2 * k = (b + (A + k + 1)) * 2 := by omega
        rw [x1, x2, ← Nat.mul_assoc, ← Nat.mul_assoc, h]
      rw [pwR_succ]
      generalize ((2 * A + 2 + 2 * k : Nat) : Rat) = u at *
      generalize ((2 * A + 2 * (b + 1) + 2 * k : Nat) : Rat) = v at *
      grind
    rw [← e3] at e2
    have e4 : (((cc (b + 1 - 1) A : Nat) : Rat) * (pwR x A * pwR y (b + 1)) * rR x (2 * A) (2 * (b + 1)) (k + 1) - trm x y (A + (k + 1) + (b + 1) - 1) (b + 1 - 1) * y) * ((2 * A + 2 + 2 * k : Nat) : Rat) = 0 := by
      generalize ((2 * A + 2 + 2 * k : Nat) : Rat) = u at *
      grind
    rcases Rat.mul_eq_zero.1 e4 with g | g
    · grind
    · grind
/-- The row's sum, and what is left out, are the share. -/
theorem sum_is (hxy : x + y = 1) (hB : 1 ≤ B) {A : Nat} (hA : 1 ≤ A) : ∀ k, sS x y (A + B - 1) B = ((cc (B - 1) A : Nat) : Rat) * (pwR x A * pwR y B) * sR x (2 * A) (2 * B) k + sS x y (A + k + 1 + B - 1) B := by
  intro k
  induction k with
  | zero =>
    have h := share_step hxy hB A
    have t := term_is (x := x) (y := y) hB hA 0
    rw [h]
    rw [show A + 0 + B - 1 = A + B - 1 by omega] at t
    rw [← t]
    rfl
  | succ k ih =>
    have h := share_step hxy hB (A + k + 1)
    have t := term_is (x := x) (y := y) hB hA (k + 1)
    rw [ih, h]
    rw [show A + (k + 1) + B - 1 = A + k + 1 + B - 1 by omega] at t
    rw [← t]
    show _ = _ * (sR x (2 * A) (2 * B) k + rR x (2 * A) (2 * B) (k + 1)) + _
    rw [show A + (k + 1) + 1 + B - 1 = A + k + 1 + 1 + B - 1 by omega]
    grind
end
end Go.Proofs.YtodiciendlhkgaaGreat

/- Plain mathematics: what has a slope that is nowhere below 0 does not fall; so beta's share (its square, without roots). -/
namespace Go.Proofs.YtodiciendlhkgaaGreat
open Go.Ev
set_option linter.unusedVariables false
/-- Between 0 and 1. -/
def In1 (x : Rat) : Prop := 0 ≤ x ∧ x ≤ 1
/-- What two numbers make is held. -/
def Bd (F : Rat → Rat → Rat) : Prop := ∃ C : Rat, 0 ≤ C ∧ ∀ x y, In1 x → In1 y → -C ≤ F x y ∧ F x y ≤ C
theorem mul_held {a b C D : Rat} (h1 : -C ≤ a) (h2 : a ≤ C) (h3 : -D ≤ b) (h4 : b ≤ D) : -(C * D) ≤ a * b ∧ a * b ≤ C * D := by
  have m1 := Rat.mul_nonneg (show 0 ≤ C - a by grind) (show 0 ≤ D - b by grind)
  have m2 := Rat.mul_nonneg (show 0 ≤ C + a by grind) (show 0 ≤ D + b by grind)
  have m3 := Rat.mul_nonneg (show 0 ≤ C - a by grind) (show 0 ≤ D + b by grind)
  have m4 := Rat.mul_nonneg (show 0 ≤ C + a by grind) (show 0 ≤ D - b by grind)
  constructor <;> grind
theorem bd_const (c : Rat) : Bd (fun _ _ => c) := by
  refine ⟨if 0 ≤ c then c else -c, by split <;> grind, fun x y _ _ => ?_⟩
  split <;> constructor <;> grind
theorem bd_add {F G : Rat → Rat → Rat} (h : Bd F) (g : Bd G) : Bd (fun x y => F x y + G x y) := by
  obtain ⟨C, c0, c1⟩ := h
  obtain ⟨D, d0, d1⟩ := g
  refine ⟨C + D, by grind, fun x y hx hy => ?_⟩
  have := c1 x y hx hy
  have := d1 x y hx hy
  constructor <;> grind
theorem bd_mul {F G : Rat → Rat → Rat} (h : Bd F) (g : Bd G) : Bd (fun x y => F x y * G x y) := by
  obtain ⟨C, c0, c1⟩ := h
  obtain ⟨D, d0, d1⟩ := g
  refine ⟨C * D, Rat.mul_nonneg c0 d0, fun x y hx hy => ?_⟩
  have a := c1 x y hx hy
  have b := d1 x y hx hy
  exact mul_held a.1 a.2 b.1 b.2
theorem bd_dist : Bd (fun x y => y - x) := ⟨1, by decide, fun x y hx hy => by unfold In1 at hx hy; constructor <;> grind⟩
/-- f's slope is g. -/
def Dif (f g : Rat → Rat) : Prop := ∃ R : Rat → Rat → Rat, Bd (fun x _ => f x) ∧ Bd (fun x _ => g x) ∧ Bd R ∧ ∀ x y, f y = f x + g x * (y - x) + R x y * ((y - x) * (y - x))
theorem dif_const (c : Rat) : Dif (fun _ => c) (fun _ => 0) := ⟨fun _ _ => 0, bd_const c, bd_const 0, bd_const 0, fun x y => by grind⟩
theorem dif_id : Dif (fun x => x) (fun _ => 1) := ⟨fun _ _ => 0, ⟨1, by decide, fun x y hx hy => by unfold In1 at hx; constructor <;> grind⟩, bd_const 1, bd_const 0, fun x y => by grind⟩
theorem dif_add {f g f' g' : Rat → Rat} (h : Dif f g) (h' : Dif f' g') : Dif (fun x => f x + f' x) (fun x => g x + g' x) := by
  obtain ⟨R, a1, a2, a3, a4⟩ := h
  obtain ⟨S, b1, b2, b3, b4⟩ := h'
  refine ⟨fun x y => R x y + S x y, bd_add a1 b1, bd_add a2 b2, bd_add a3 b3, fun x y => ?_⟩
  show f y + f' y = _
  rw [a4 x y, b4 x y]; grind
theorem dif_mul {f g f' g' : Rat → Rat} (h : Dif f g) (h' : Dif f' g') : Dif (fun x => f x * f' x) (fun x => f x * g' x + g x * f' x) := by
  obtain ⟨R, a1, a2, a3, a4⟩ := h
  obtain ⟨S, b1, b2, b3, b4⟩ := h'
  refine ⟨fun x y => (f x * S x y + R x y * f' x) + (g x * g' x + ((y - x) * (g x * S x y + R x y * g' x) + (y - x) * ((y - x) * (R x y * S x y)))), bd_mul a1 b1, bd_add (bd_mul a1 b2) (bd_mul a2 b1), ?_, fun x y => ?_⟩
  · exact bd_add (bd_add (bd_mul a1 b3) (bd_mul a3 b1)) (bd_add (bd_mul a2 b2) (bd_add (bd_mul bd_dist (bd_add (bd_mul a2 b3) (bd_mul a3 b2))) (bd_mul bd_dist (bd_mul bd_dist (bd_mul a3 b3)))))
  · show f y * f' y = _
    rw [a4 x y, b4 x y]
    show _ = f x * f' x + (f x * g' x + g x * f' x) * (y - x) + ((f x * S x y + R x y * f' x) + (g x * g' x + ((y - x) * (g x * S x y + R x y * g' x) + (y - x) * ((y - x) * (R x y * S x y))))) * ((y - x) * (y - x))
    generalize y - x = d
    generalize f x = t1
    generalize f' x = t2
    generalize g x = t3
    generalize g' x = t4
    generalize R x y = t5
    generalize S x y = t6
    grind
theorem dif_congr {f g f' g' : Rat → Rat} (h : Dif f g) (e : ∀ x, f x = f' x) (e' : ∀ x, g x = g' x) : Dif f' g' := by
  have h1 : f = f' := funext e
  have h2 : g = g' := funext e'
  rw [← h1, ← h2]; exact h
theorem mul_denR (D : Rat) : D * (D.den : Rat) = (D.num : Rat) := by
  have dn : (0 : Rat) < (D.den : Rat) := by exact_mod_cast Rat.den_pos (self := D)
  have := (Rat.mkRat_eq_div D.num D.den).symm.trans (Rat.mkRat_self D)
  have e := Rat.div_mul_cancel (a := (D.num : Rat)) (b := (D.den : Rat)) (by grind)
  rwa [this] at e
/-- A number between two rationals' difference: some part is smaller. -/
theorem arch {D e : Rat} (hD : 0 ≤ D) (he : 0 < e) : ∃ n : Nat, 1 ≤ n ∧ D ≤ e * (n : Rat) := by
  refine ⟨(D.num.natAbs * e.den + 1), by omega, ?_⟩
  have dn : (0 : Rat) < (D.den : Rat) := by exact_mod_cast Rat.den_pos (self := D)
  have en : (0 : Rat) < (e.den : Rat) := by exact_mod_cast Rat.den_pos (self := e)
  have e1 := mul_denR D
  have e2 := mul_denR e
  have n1 : 1 ≤ e.num := by
    have q : 0 ≤ e.num := Rat.num_nonneg.2 (by grind)
    have q2 : e.num ≠ 0 := fun z => by rw [Rat.num_eq_zero.1 z] at he; exact absurd he (by decide)
    omega
  have n0 : 0 ≤ D.num := Rat.num_nonneg.2 hD
  have c1 : ((D.num.natAbs : Nat) : Rat) = (D.num : Rat) := by
    have : ((D.num.natAbs : Nat) : Int) = D.num := by omega
    calc ((D.num.natAbs : Nat) : Rat) = (((D.num.natAbs : Nat) : Int) : Rat) := by rfl
      _ = _ := by rw [this]
  have n1' : (1 : Rat) ≤ (e.num : Rat) := by exact_mod_cast n1
  have n0' : (0 : Rat) ≤ (D.num : Rat) := by exact_mod_cast n0
  have dn1 : (1 : Rat) ≤ (D.den : Rat) := by exact_mod_cast (show 1 ≤ D.den from Rat.den_pos (self := D))
  have c2 : ((D.num.natAbs * e.den + 1 : Nat) : Rat) = (D.num : Rat) * (e.den : Rat) + 1 := by
    rw [← c1]; exact_mod_cast rfl
  rw [c2]
  have k1 : D ≤ (D.num : Rat) := by
    have := Rat.mul_le_mul_of_nonneg_left dn1 hD
    rw [e1] at this; grind
  have k2 : e * ((D.num : Rat) * (e.den : Rat) + 1) = (D.num : Rat) * (e * (e.den : Rat)) + e := by grind
  rw [k2, e2]
  have := Rat.mul_le_mul_of_nonneg_left n1' n0'
  grind
theorem lim_le {A B D : Rat} (hD : 0 ≤ D) (h : ∀ n : Nat, 1 ≤ n → (A - B) * (n : Rat) ≤ D) : A ≤ B := by
  rcases Rat.le_total (a := A) (b := B) with g | g
  · exact g
  · by_cases e : A = B
    · rw [e]; exact Rat.le_refl
    · have hp : 0 < A - B := by grind
      obtain ⟨n, n1, n2⟩ := arch (D := D + 1) (by grind) hp
      have := h n n1
      grind
/-- What nowhere falls is not above. -/
theorem dif_mono {f g : Rat → Rat} (h : Dif f g) {x y : Rat} (hx : 0 ≤ x) (hxy : x ≤ y) (hy : y ≤ 1) (hg : ∀ z, x ≤ z → z ≤ y → 0 ≤ g z) : f x ≤ f y := by
  obtain ⟨R, a1, a2, ⟨C, c0, c1⟩, a4⟩ := h
  refine lim_le (D := C * ((y - x) * (y - x))) (Rat.mul_nonneg c0 (Rat.mul_nonneg (by grind) (by grind))) fun n hn => ?_
  have N : (1 : Rat) ≤ (n : Rat) := by exact_mod_cast hn
  obtain ⟨d, hd⟩ : ∃ d, d = (y - x) / (n : Rat) := ⟨_, rfl⟩
  have hdn : d * (n : Rat) = y - x := by rw [hd]; exact Rat.div_mul_cancel (by grind)
  have d0 : 0 ≤ d := le_by (c := (n : Rat)) (by grind) (by rw [hdn]; grind)
  have step : ∀ k : Nat, k ≤ n → x + d * (k : Rat) ≤ y ∧ f x ≤ f (x + d * (k : Rat)) + C * (d * d) * (k : Rat) := by
    intro k
    induction k with
    | zero => intro _; rw [show ((0 : Nat) : Rat) = 0 from rfl, Rat.mul_zero, Rat.add_zero, Rat.mul_zero, Rat.add_zero]; exact ⟨hxy, Rat.le_refl⟩
    | succ k ih =>
      intro hk
      obtain ⟨i1, i2⟩ := ih (by omega)
      have ck : ((k + 1 : Nat) : Rat) = (k : Rat) + 1 := by exact_mod_cast rfl
      have kn : ((k + 1 : Nat) : Rat) ≤ (n : Rat) := by exact_mod_cast hk
      have k0 : (0 : Rat) ≤ (k : Rat) := by exact_mod_cast Nat.zero_le k
      have m := Rat.mul_le_mul_of_nonneg_left kn d0
      rw [hdn, ck] at m
      rw [ck]
      have z0 : 0 ≤ d * (k : Rat) := Rat.mul_nonneg d0 k0
      have e := a4 (x + d * (k : Rat)) (x + d * ((k : Rat) + 1))
      have b := c1 (x + d * (k : Rat)) (x + d * ((k : Rat) + 1)) ⟨by grind, by grind⟩ ⟨by grind, by grind⟩
      have s := hg (x + d * (k : Rat)) (by grind) i1
      have ed : x + d * ((k : Rat) + 1) - (x + d * (k : Rat)) = d := by grind
      rw [ed] at e
      have s1 := Rat.mul_nonneg s d0
      have s2 := Rat.mul_nonneg (show 0 ≤ R (x + d * (k : Rat)) (x + d * ((k : Rat) + 1)) + C by grind) (Rat.mul_nonneg d0 d0)
      refine ⟨by grind, ?_⟩
      rw [e]
      grind
  have r := (step n (Nat.le_refl _)).2
  have e : x + d * (n : Rat) = y := by grind
  rw [e] at r
  have m := Rat.mul_le_mul_of_nonneg_right (show f x - f y ≤ C * (d * d) * (n : Rat) by grind) (show 0 ≤ (n : Rat) by grind)
  have e2 : C * (d * d) * (n : Rat) * (n : Rat) = C * ((d * (n : Rat)) * (d * (n : Rat))) := by grind
  rw [e2, hdn] at m
  exact m
section
variable {a b : Nat}
/-- A power's slope. -/
theorem dif_pw {f g : Rat → Rat} (h : Dif f g) (n : Nat) : ∃ s : Rat → Rat, Dif (fun x => pwR (f x) n) s ∧ ∀ x, f x * s x = (n : Rat) * (pwR (f x) n * g x) := by
  induction n with
  | zero => exact ⟨fun _ => 0, dif_const 1, fun x => by rw [Rat.mul_zero, show ((0 : Nat) : Rat) = 0 from rfl, Rat.zero_mul]⟩
  | succ n ih =>
    obtain ⟨s, h1, h2⟩ := ih
    refine ⟨_, dif_mul h1 h, fun x => ?_⟩
    have := h2 x
    have ck : ((n + 1 : Nat) : Rat) = (n : Rat) + 1 := by exact_mod_cast rfl
    show f x * (pwR (f x) n * g x + s x * f x) = _ * (pwR (f x) n * f x * g x)
    rw [ck]
    generalize pwR (f x) n = q at *
    generalize f x = u at *
    generalize s x = v at *
    generalize g x = w at *
    have e : u * (q * w + v * u) = u * v * u + u * q * w := by grind
    rw [e, this]; grind
/-- The slope of a term, times the number. -/
theorem dif_rR (k : Nat) : ∃ s : Rat → Rat, Dif (fun x => rR x a b k) s ∧ ∀ x, x * s x = (k : Rat) * rR x a b k := by
  induction k with
  | zero => exact ⟨fun _ => 0, dif_const 1, fun x => by rw [Rat.mul_zero, show ((0 : Nat) : Rat) = 0 from rfl, Rat.zero_mul]⟩
  | succ k ih =>
    obtain ⟨s, h1, h2⟩ := ih
    obtain ⟨c, hc⟩ : ∃ c : Rat, c = ((a + b + 2 * k : Nat) : Rat) * ((a + 2 + 2 * k : Nat) : Rat)⁻¹ := ⟨_, rfl⟩
    have e : ∀ x, rR x a b (k + 1) = rR x a b k * x * c := fun x => by
      show rR x a b k * x * ((a + b + 2 * k : Nat) : Rat) / ((a + 2 + 2 * k : Nat) : Rat) = _
      rw [Rat.div_def, hc]; grind
    refine ⟨_, dif_congr (dif_mul (dif_mul h1 dif_id) (dif_const c)) (fun x => (e x).symm) (fun x => rfl), fun x => ?_⟩
    have := h2 x
    have ck : ((k + 1 : Nat) : Rat) = (k : Rat) + 1 := by exact_mod_cast rfl
    rw [e, ck]
    show x * (rR x a b k * x * 0 + (rR x a b k * 1 + s x * x) * c) = _
    generalize rR x a b k = r at *
    have e2 : x * (r * x * 0 + (r * 1 + s x * x) * c) = x * s x * x * c + x * r * c := by grind
    rw [e2, this]; grind
/-- The slope of the row's sum. -/
theorem dif_sR (k : Nat) : ∃ s : Rat → Rat, Dif (fun x => sR x a b k) s ∧ ∀ x, (a : Rat) * (1 - x) * sR x a b k - (b : Rat) * x * sR x a b k + 2 * (1 - x) * (x * s x) = (a : Rat) - ((a + b + 2 * k : Nat) : Rat) * x * rR x a b k := by
  induction k with
  | zero =>
    refine ⟨fun _ => 0, dif_const 1, fun x => ?_⟩
    have c1 : ((a + b + 2 * 0 : Nat) : Rat) = (a : Rat) + (b : Rat) := by exact_mod_cast rfl
    show (a : Rat) * (1 - x) * 1 - (b : Rat) * x * 1 + 2 * (1 - x) * (x * 0) = (a : Rat) - _ * x * 1
    rw [c1]; grind
  | succ k ih =>
    obtain ⟨s, h1, h2⟩ := ih
    obtain ⟨t, g1, g2⟩ := dif_rR (a := a) (b := b) (k + 1)
    refine ⟨_, dif_add h1 g1, fun x => ?_⟩
    have i := h2 x
    have j := g2 x
    have st := rR_step (x := x) (a := a) (b := b) k
    have ck : ((k + 1 : Nat) : Rat) = (k : Rat) + 1 := by exact_mod_cast rfl
    have c1 : ((a + b + 2 * k : Nat) : Rat) = (a : Rat) + (b : Rat) + 2 * (k : Rat) := by exact_mod_cast rfl
    have c2 : ((a + 2 + 2 * k : Nat) : Rat) = (a : Rat) + 2 + 2 * (k : Rat) := by exact_mod_cast rfl
    have c3 : ((a + b + 2 * (k + 1) : Nat) : Rat) = (a : Rat) + (b : Rat) + 2 * ((k : Rat) + 1) := by exact_mod_cast rfl
    rw [c1] at i
    rw [c1, c2] at st
    rw [c3]
    rw [ck] at j
    show (a : Rat) * (1 - x) * (sR x a b k + rR x a b (k + 1)) - (b : Rat) * x * (sR x a b k + rR x a b (k + 1)) + 2 * (1 - x) * (x * (s x + t x)) = _
    generalize rR x a b (k + 1) = r' at *
    generalize rR x a b k = r at *
    generalize sR x a b k = z at *
    generalize (a : Rat) = A at *
    generalize (b : Rat) = B at *
    generalize (k : Rat) = K at *
    generalize s x = u at *
    generalize t x = v at *
    have e : A * (1 - x) * (z + r') - B * x * (z + r') + 2 * (1 - x) * (x * (u + v)) = (A * (1 - x) * z - B * x * z + 2 * (1 - x) * (x * u)) + (A * (1 - x) * r' - B * x * r' + 2 * (1 - x) * (x * v)) := by grind
    rw [e, i, j]
    grind
/-- The share's square but for a factor. -/
def shG (a b k : Nat) (x : Rat) : Rat := pwR x a * pwR (1 - x) b * (sR x a b k * sR x a b k)
theorem dif_one_sub : Dif (fun x => 1 - x) (fun _ => -1) := ⟨fun _ _ => 0, ⟨1, by decide, fun x y hx hy => by unfold In1 at hx; constructor <;> grind⟩, bd_const (-1), bd_const 0, fun x y => by grind⟩
theorem slope_id {A B x S s q r pa pb : Rat} (h1 : x * q = A * (pa * 1)) (h2 : (1 - x) * r = B * (pb * (-1))) :
    (pa * pb * (S * s + s * S) + (pa * r + q * pb) * (S * S)) * (x * (1 - x)) = pa * pb * S * (A * (1 - x) * S - B * x * S + 2 * (1 - x) * (x * s)) := by
  have e : (pa * pb * (S * s + s * S) + (pa * r + q * pb) * (S * S)) * (x * (1 - x)) = pa * pb * S * (2 * (1 - x) * (x * s)) + pa * x * ((1 - x) * r) * (S * S) + x * q * (1 - x) * pb * (S * S) := by grind
  rw [e, h1, h2]; grind
/-- It nowhere falls, up to a half. -/
theorem shG_mono {k : Nat} {x y : Rat} (h0 : 0 < x) (hxy : x ≤ y) (hy : y + y ≤ 1) (hk : ∀ z, x ≤ z → z ≤ y → ((a + b + 2 * k : Nat) : Rat) * z * rR z a b k ≤ (a : Rat)) : shG a b k x ≤ shG a b k y := by
  obtain ⟨q, d1, e1⟩ := dif_pw dif_id a
  obtain ⟨r, d2, e2⟩ := dif_pw dif_one_sub b
  obtain ⟨s, d3, e3⟩ := dif_sR (a := a) (b := b) k
  refine dif_mono (dif_mul (dif_mul d1 d2) (dif_mul d3 d3)) (by grind) hxy (by grind) fun z z1 z2 => ?_
  have P : 0 < z * (1 - z) := Rat.mul_pos (by grind) (by grind)
  refine le_by P ?_
  rw [Rat.zero_mul, slope_id (e1 z) (e2 z), e3 z]
  have n1 := pwR_nn (q := z) (by grind) a
  have n2 := pwR_nn (q := 1 - z) (by grind) b
  have n3 : 0 ≤ sR z a b k := Rat.le_trans (show (0 : Rat) ≤ 1 by decide) (sR_up (a := a) (b := b) (show 0 ≤ z by grind) (Nat.zero_le k))
  have := hk z z1 z2
  exact Rat.mul_nonneg (Rat.mul_nonneg (Rat.mul_nonneg n1 n2) n3) (by grind)
/-- Late terms are small. -/
theorem late_fall {x : Rat} (h : 0 ≤ x) (h1 : x + x ≤ 1) {k c d : Nat} (hk : d * (a + b + 2 * k + 2) ≤ 2 * c * (a + 2 + 2 * k)) : (d : Rat) * (((a + b + 2 * (k + 1) : Nat) : Rat) * rR x a b (k + 1)) ≤ (c : Rat) * (((a + b + 2 * k : Nat) : Rat) * rR x a b k) := by
  have M : (0 : Rat) < ((a + 2 + 2 * k : Nat) : Rat) := by exact_mod_cast (show 0 < a + 2 + 2 * k by omega)
  have st := rR_step (x := x) (a := a) (b := b) k
  have r0 := rR_nn (a := a) (b := b) h k
  have hn : ((d * (a + b + 2 * k + 2) : Nat) : Rat) ≤ ((2 * c * (a + 2 + 2 * k) : Nat) : Rat) := by exact_mod_cast hk
  have c1 : ((d * (a + b + 2 * k + 2) : Nat) : Rat) = (d : Rat) * ((a + b + 2 * (k + 1) : Nat) : Rat) := by exact_mod_cast rfl
  have c2 : ((2 * c * (a + 2 + 2 * k) : Nat) : Rat) = 2 * (c : Rat) * ((a + 2 + 2 * k : Nat) : Rat) := by exact_mod_cast rfl
  rw [c1, c2] at hn
  have n0 := nat_nonneg (a + b + 2 * k)
  have n1 := nat_nonneg (a + b + 2 * (k + 1))
  have n2 := nat_nonneg d
  generalize ((a + 2 + 2 * k : Nat) : Rat) = m at *
  generalize ((a + b + 2 * (k + 1) : Nat) : Rat) = n' at *
  generalize ((a + b + 2 * k : Nat) : Rat) = n at *
  generalize rR x a b (k + 1) = r' at *
  generalize rR x a b k = r at *
  generalize (d : Rat) = D at *
  generalize (c : Rat) = C at *
  refine le_by M ?_
  have e1 : D * (n' * r') * m = D * n' * (r' * m) := by grind
  rw [e1, st]
  have rn := Rat.mul_nonneg r0 n0
  have k1 : D * n' * (r * n) * (x + x) ≤ D * n' * (r * n) * 1 := Rat.mul_le_mul_of_nonneg_left h1 (Rat.mul_nonneg (Rat.mul_nonneg n2 n1) rn)
  have k2 := Rat.mul_le_mul_of_nonneg_right hn rn
  grind
theorem late_small {x : Rat} (h : 0 ≤ x) (h1 : x + x ≤ 1) (ha : 1 ≤ a) (ha2 : a ≤ 20) (hb2 : b ≤ 20) {k : Nat} (hk : 160 ≤ k) : ((a + b + 2 * k : Nat) : Rat) * rR x a b k ≤ 1 := by
  have A : ∀ j : Nat, ((a + b + 2 * j : Nat) : Rat) * rR x a b j ≤ 40 * pwR 4 j := by
    intro j
    induction j with
    | zero =>
      show ((a + b + 2 * 0 : Nat) : Rat) * 1 ≤ 40 * 1
      have : ((a + b + 2 * 0 : Nat) : Rat) ≤ ((40 : Nat) : Rat) := by exact_mod_cast (show a + b + 2 * 0 ≤ 40 by omega)
      rw [show ((40 : Nat) : Rat) = 40 from rfl] at this
      grind
    | succ j ih =>
      have := late_fall (a := a) (b := b) h h1 (k := j) (c := 4) (d := 1) (by omega)
      rw [show ((1 : Nat) : Rat) = 1 from rfl, show ((4 : Nat) : Rat) = 4 from rfl] at this
      show _ ≤ 40 * (pwR 4 j * 4)
      grind
  have B : ∀ j : Nat, ((a + b + 2 * (20 + j) : Nat) : Rat) * rR x a b (20 + j) * pwR 4 j ≤ 40 * pwR 4 20 * pwR 3 j := by
    intro j
    induction j with
    | zero => show _ * 1 ≤ _ * 1; have := A 20; rw [Nat.add_zero]; grind
    | succ j ih =>
      have t := late_fall (a := a) (b := b) h h1 (k := 20 + j) (c := 3) (d := 4) (by omega)
      rw [show ((3 : Nat) : Rat) = 3 from rfl, show ((4 : Nat) : Rat) = 4 from rfl] at t
      have p4 := pwR_nn (q := 4) (by decide) j
      have m := Rat.mul_le_mul_of_nonneg_right t p4
      show _ * (pwR 4 j * 4) ≤ _ * (pwR 3 j * 3)
      rw [show 20 + (j + 1) = 20 + j + 1 by omega]
      generalize ((a + b + 2 * (20 + j + 1) : Nat) : Rat) * rR x a b (20 + j + 1) = u at *
      generalize ((a + b + 2 * (20 + j) : Nat) : Rat) * rR x a b (20 + j) = v at *
      generalize 40 * pwR 4 20 = z at *
      generalize pwR 4 j = w at *
      generalize pwR 3 j = w' at *
      grind
  have C : ∀ j : Nat, 40 * pwR 4 20 * pwR 3 (140 + j) ≤ pwR 4 (140 + j) := by
    intro j
    induction j with
    | zero => decide +kernel
    | succ j ih =>
      show 40 * pwR 4 20 * (pwR 3 (140 + j) * 3) ≤ pwR 4 (140 + j) * 4
      have := pwR_nn (q := 4) (by decide) (140 + j)
      generalize 40 * pwR 4 20 = z at *
      generalize pwR 4 (140 + j) = w at *
      generalize pwR 3 (140 + j) = w' at *
      grind
  obtain ⟨j, rfl⟩ : ∃ j, k = 20 + (140 + j) := ⟨k - 160, by omega⟩
  have t := Rat.le_trans (B (140 + j)) (C j)
  have pp : ∀ n, 0 < pwR 4 n := by
    intro n
    induction n with
    | zero => show (0 : Rat) < 1; decide
    | succ n ih => show 0 < pwR 4 n * 4; grind
  refine le_by (pp (140 + j)) ?_
  rw [Rat.one_mul]; exact t
/-- So it does, if there are many terms. -/
theorem shG_up {k : Nat} {x y : Rat} (ha : 1 ≤ a) (ha2 : a ≤ 20) (hb2 : b ≤ 20) (hk : 160 ≤ k) (h0 : 0 < x) (hxy : x ≤ y) (hy : y + y ≤ 1) : shG a b k x ≤ shG a b k y := by
  refine shG_mono h0 hxy hy fun z z1 z2 => ?_
  have t := late_small (x := z) (a := a) (b := b) (by grind) (by grind) ha ha2 hb2 hk
  have r0 := Rat.mul_nonneg (nat_nonneg (a + b + 2 * k)) (rR_nn (x := z) (a := a) (b := b) (by grind) k)
  have m := Rat.mul_le_mul_of_nonneg_left (show z ≤ 1 by grind) r0
  have n1 : (1 : Rat) ≤ (a : Rat) := by exact_mod_cast ha
  grind
end
end Go.Proofs.YtodiciendlhkgaaGreat
