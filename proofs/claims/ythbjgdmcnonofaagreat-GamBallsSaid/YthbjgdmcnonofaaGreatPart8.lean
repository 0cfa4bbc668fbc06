/- Part 8 of the proof: the evaluator, contracts of functions and their plain laws (joined by program). No condition. -/
import Derived.Test.YthbjgdmcnonofaaGreatPart7
import Derived.KernelRfl
/- test: over, square, isBelow, student, paired, spread, pooled, fisher, in the evaluator. -/
namespace Go.Proofs.YthbjgdmcnonofaaGreat
set_option linter.unusedSimpArgs false
set_option linter.unusedVariables false
set_option maxRecDepth 8000
open Go.Ev
theorem rat_Zero {v : SV} {q : Rat} {L : Nat} (hv : RatA v q L) (hL : 1 ≤ L) (hL2 : L ≤ 16777216) : Go.Ev.Fn CX 48 [v] (.bool (decide (q = 0))) := by
  have hN := rat_Norm hv (by omega)
  obtain ⟨s, n, d, rfl, -⟩ := hv
  by_cases h : q = 0
  · subst h
    rw [decide_eq_true rfl]
    rw [rv_zero] at hN
    refine Go.Ev.Fn.intro (fn := Tryz.f48) (body := (Tryz.f48).body.get!) (by kernel_rfl) (by kernel_rfl) (by kernel_rfl) (fun _ => rfl) (Nat.le_of_ble_eq_true (by kernel_rfl)) ?_; unfold Tryz.f48; simp only [Option.get!_some]
    repeat (first | (simp only [go_sem, Nat.reduceEqDiff, Nat.reduceAdd, Nat.reduceSub, Nat.reduceMul, Nat.reduceLeDiff, Nat.reduceLT, reduceIte, reduceCtorEq, Nat.succ_ne_zero, elemsC, Int.reduceToNat, Nat.reducePow]) | (simp (disch := (first | omega | (simp only [AL, List.length_map]; omega))) only [AR, AL, ifT, ifF, take_all, List.length_cons, List.length_nil, Int.reduceToNat, Int.reducePow, Nat.reducePow]) | (refine wk_intro (by kernel_rfl) ?_) | (refine vf_of (by first | exact hN) ?_))
  · have hp := lim_pos (N := q.num.natAbs) (fun e => h (num_zero.1 (by omega)))
    rw [decide_eq_false h]
    refine Go.Ev.Fn.intro (fn := Tryz.f48) (body := (Tryz.f48).body.get!) (by kernel_rfl) (by kernel_rfl) (by kernel_rfl) (fun _ => rfl) (Nat.le_of_ble_eq_true (by kernel_rfl)) ?_; unfold Tryz.f48; simp only [Option.get!_some]
    repeat (first | (simp only [go_sem, Nat.reduceEqDiff, Nat.reduceAdd, Nat.reduceSub, Nat.reduceMul, Nat.reduceLeDiff, Nat.reduceLT, reduceIte, reduceCtorEq, Nat.succ_ne_zero, elemsC, Int.reduceToNat, Nat.reducePow]) | (simp (disch := (first | omega | (simp only [AL, List.length_map]; omega))) only [AR, AL, ifT, ifF, take_all, List.length_cons, List.length_nil, Int.reduceToNat, Int.reducePow, Nat.reducePow]) | (refine wk_intro (by kernel_rfl) ?_) | (refine vf_of (by first | exact hN) ?_))
theorem ref2_Zero {v : SV} {q : Rat} {L : Nat} (hv : RatA v q L) (hL : 1 ≤ L) (hL2 : L ≤ 16777216) : Go.Ev.Fn CX 25 [v] (.bool (decide (q = 0))) := by
  have hN := ref2_Norm hv (by omega)
  obtain ⟨s, n, d, rfl, -⟩ := hv
  by_cases h : q = 0
  · subst h
    rw [decide_eq_true rfl]
    rw [rv_zero] at hN
    refine Go.Ev.Fn.intro (fn := Tryz.f25) (body := (Tryz.f25).body.get!) (by kernel_rfl) (by kernel_rfl) (by kernel_rfl) (fun _ => rfl) (Nat.le_of_ble_eq_true (by kernel_rfl)) ?_; unfold Tryz.f25; simp only [Option.get!_some]
    repeat (first | (simp only [go_sem, Nat.reduceEqDiff, Nat.reduceAdd, Nat.reduceSub, Nat.reduceMul, Nat.reduceLeDiff, Nat.reduceLT, reduceIte, reduceCtorEq, Nat.succ_ne_zero, elemsC, Int.reduceToNat, Nat.reducePow]) | (simp (disch := (first | omega | (simp only [AL, List.length_map]; omega))) only [AR, AL, ifT, ifF, take_all, List.length_cons, List.length_nil, Int.reduceToNat, Int.reducePow, Nat.reducePow]) | (refine wk_intro (by kernel_rfl) ?_) | (refine vf_of (by first | exact hN) ?_))
  · have hp := lim_pos (N := q.num.natAbs) (fun e => h (num_zero.1 (by omega)))
    rw [decide_eq_false h]
    refine Go.Ev.Fn.intro (fn := Tryz.f25) (body := (Tryz.f25).body.get!) (by kernel_rfl) (by kernel_rfl) (by kernel_rfl) (fun _ => rfl) (Nat.le_of_ble_eq_true (by kernel_rfl)) ?_; unfold Tryz.f25; simp only [Option.get!_some]
    repeat (first | (simp only [go_sem, Nat.reduceEqDiff, Nat.reduceAdd, Nat.reduceSub, Nat.reduceMul, Nat.reduceLeDiff, Nat.reduceLT, reduceIte, reduceCtorEq, Nat.succ_ne_zero, elemsC, Int.reduceToNat, Nat.reducePow]) | (simp (disch := (first | omega | (simp only [AL, List.length_map]; omega))) only [AR, AL, ifT, ifF, take_all, List.length_cons, List.length_nil, Int.reduceToNat, Int.reducePow, Nat.reducePow]) | (refine wk_intro (by kernel_rfl) ?_) | (refine vf_of (by first | exact hN) ?_))
theorem test_over {v w : SV} {q r : Rat} {L M : Nat} (hv : RatA v q L) (hw : RatA w r M) (hL : 1 ≤ L) (hM : 1 ≤ M) (h : L + M ≤ 1000000) : Go.Ev.Fn CX 70 [v, w] (rv (q / r)) := by
  have d := rat_Div hv hw hL hM (by omega)
  generalize decide (r ≠ 0) = b at *
  obtain ⟨s, n, d', rfl, -⟩ := hv
  obtain ⟨s', n', d'', rfl, -⟩ := hw
  refine Go.Ev.Fn.intro (fn := Tryz.f70) (body := (Tryz.f70).body.get!) (by kernel_rfl) (by kernel_rfl) (by kernel_rfl) (fun _ => rfl) (Nat.le_of_ble_eq_true (by kernel_rfl)) ?_; unfold Tryz.f70; simp only [Option.get!_some]
  repeat (first | (simp only [go_sem, Nat.reduceEqDiff, Nat.reduceAdd, Nat.reduceSub, Nat.reduceMul, Nat.reduceLeDiff, Nat.reduceLT, reduceIte, reduceCtorEq, Nat.succ_ne_zero, elemsC, Int.reduceToNat, Nat.reducePow]) | (simp (disch := (first | omega | (simp only [AL, List.length_map]; omega))) only [AR, AL, ifT, ifF, take_all, List.length_cons, List.length_nil, Int.reduceToNat, Int.reducePow, Nat.reducePow]) | (refine wk_intro (by kernel_rfl) ?_) | (refine vf_of (by first | exact d) ?_))
theorem test_square {v : SV} {q : Rat} {L : Nat} (hv : RatA v q L) (hL : 1 ≤ L) (h : L ≤ 1000000) : Go.Ev.Fn CX 179 [v] (rv (q * q)) := by
  have d := rat_Mul hv hv hL hL (by omega)
  obtain ⟨s, n, d', rfl, -⟩ := hv
  refine Go.Ev.Fn.intro (fn := Tryz.f179) (body := (Tryz.f179).body.get!) (by kernel_rfl) (by kernel_rfl) (by kernel_rfl) (fun _ => rfl) (Nat.le_of_ble_eq_true (by kernel_rfl)) ?_; unfold Tryz.f179; simp only [Option.get!_some]
  repeat (first | (simp only [go_sem, Nat.reduceEqDiff, Nat.reduceAdd, Nat.reduceSub, Nat.reduceMul, Nat.reduceLeDiff, Nat.reduceLT, reduceIte, reduceCtorEq, Nat.succ_ne_zero, elemsC, Int.reduceToNat, Nat.reducePow]) | (simp (disch := (first | omega | (simp only [AL, List.length_map]; omega))) only [AR, AL, ifT, ifF, take_all, List.length_cons, List.length_nil, Int.reduceToNat, Int.reducePow, Nat.reducePow]) | (refine wk_intro (by kernel_rfl) ?_) | (refine vf_of (by first | exact d) ?_))
/-- A statistic's result. -/
abbrev resV (r : Res) : SV := .tup [rv r.1, .sl r.2.1.length (r.2.1.map fun i => .int .i64 i), .int .i64 r.2.2]
theorem test_student {cs : List SV} {l : List Rat} {v : SV} {mu : Rat} {L M : Nat} (h : RowC cs l L) (hm : RatA v mu M) (hL : 1 ≤ L) (hL2 : L ≤ 100) (hM : 1 ≤ M) (hM2 : M ≤ 100) (hl : l.length ≤ 12) :
    Go.Ev.Fn CX 125 [.sl l.length cs, v] (resV (stuR l mu)) := by
  have r0 := rat_Int 0 (by omega)
  have v1 := stat_Variance h hL (by omega) hl
  have hz := row_sz hL h
  have zv := sz_var hL hz hl
  have zm := sz_mean hL hz hl
  unfold stuR
  by_cases h0 : l.length < 2
  · rw [if_pos h0] at v1 ⊢
    clear hz zv zm
    obtain ⟨s, n, d, rfl, -⟩ := hm
    refine Go.Ev.Fn.intro (fn := Tryz.f125) (body := (Tryz.f125).body.get!) (by kernel_rfl) (by kernel_rfl) (by kernel_rfl) (fun _ => rfl) (Nat.le_of_ble_eq_true (by kernel_rfl)) ?_; unfold Tryz.f125; simp only [Option.get!_some]
    repeat (first | (simp only [go_sem, Nat.reduceEqDiff, Nat.reduceAdd, Nat.reduceSub, Nat.reduceMul, Nat.reduceLeDiff, Nat.reduceLT, reduceIte, reduceCtorEq, Nat.succ_ne_zero, elemsC, Int.reduceToNat, Nat.reducePow]) | (simp (disch := (first | omega | (simp only [AL, List.length_map]; omega))) only [AR, AL, ifT, ifF, take_all, List.length_cons, List.length_nil, Int.reduceToNat, Int.reducePow, Nat.reducePow]) | (refine wk_intro (by kernel_rfl) ?_) | (refine vp_draw (id := 7) (l := []) (by kernel_rfl) ?_) | (refine vf_of (by first | exact v1 | exact r0) ?_))
    rfl
  · rw [if_neg h0] at v1 ⊢
    have zz := rat_Zero (RatA_rv zv) (by omega) (by omega)
    by_cases hv : varR l = 0
    · rw [if_pos hv]
      rw [decide_eq_true hv] at zz
      clear hz zv zm
      obtain ⟨s, n, d, rfl, -⟩ := hm
      refine Go.Ev.Fn.intro (fn := Tryz.f125) (body := (Tryz.f125).body.get!) (by kernel_rfl) (by kernel_rfl) (by kernel_rfl) (fun _ => rfl) (Nat.le_of_ble_eq_true (by kernel_rfl)) ?_; unfold Tryz.f125; simp only [Option.get!_some]
      repeat (first | (simp only [go_sem, Nat.reduceEqDiff, Nat.reduceAdd, Nat.reduceSub, Nat.reduceMul, Nat.reduceLeDiff, Nat.reduceLT, reduceIte, reduceCtorEq, Nat.succ_ne_zero, elemsC, Int.reduceToNat, Nat.reducePow]) | (simp (disch := (first | omega | (simp only [AL, List.length_map]; omega))) only [AR, AL, ifT, ifF, take_all, List.length_cons, List.length_nil, Int.reduceToNat, Int.reducePow, Nat.reducePow]) | (refine wk_intro (by kernel_rfl) ?_) | (refine vp_draw (id := 7) (l := []) (by kernel_rfl) ?_) | (refine vf_of (by first | exact v1 | exact zz | exact r0) ?_))
      rfl
    · rw [if_neg hv]
      rw [decide_eq_false hv] at zz
      have m1 := stat_Mean h hL (by omega) hl
      rw [if_neg (by omega)] at m1
      have i1 := rat_Int (l.length : Int) (by omega)
      have zi := int_szR (n := (l.length : Int)) (by omega)
      have d1 := rat_Sub (RatA_rv zm) hm (by omega) (by omega) (by omega)
      have zd := szR_sub zm (szR_of hm hM) (by omega)
      have s1 := test_square (RatA_rv zd) (by omega) (by omega)
      have zs := szR_mul zd zd (by omega)
      have p1 := rat_Mul (RatA_rv zi) (RatA_rv zs) (by omega) (by omega) (by omega)
      have o1 := test_over (RatA_rv (szR_mul zi zs (by omega))) (RatA_rv zv) (by omega) (by omega) (by omega)
      clear hz zv zm zi zd zs h
      obtain ⟨s, n, d, rfl, -⟩ := hm
      generalize meanR l = m at *
      generalize varR l = w at *
      refine Go.Ev.Fn.intro (fn := Tryz.f125) (body := (Tryz.f125).body.get!) (by kernel_rfl) (by kernel_rfl) (by kernel_rfl) (fun _ => rfl) (Nat.le_of_ble_eq_true (by kernel_rfl)) ?_; unfold Tryz.f125; simp only [Option.get!_some]
      repeat (first | (simp only [go_sem, Nat.reduceEqDiff, Nat.reduceAdd, Nat.reduceSub, Nat.reduceMul, Nat.reduceLeDiff, Nat.reduceLT, reduceIte, reduceCtorEq, Nat.succ_ne_zero, elemsC, Int.reduceToNat, Nat.reducePow]) | (simp (disch := (first | omega | (simp only [AL, List.length_map]; omega))) only [AR, AL, ifT, ifF, take_all, List.length_cons, List.length_nil, Int.reduceToNat, Int.reducePow, Nat.reducePow]) | (refine wk_intro (by kernel_rfl) ?_) | (refine vp_draw (id := 7) (l := []) (by kernel_rfl) ?_) | (refine vf_of (by first | exact v1 | exact zz | exact m1 | exact i1 | exact d1 | exact s1 | exact p1 | exact o1) ?_))
theorem test_paired {cs ds : List SV} {l m : List Rat} (h : RowC cs l 1) (h2 : RowC ds m 1) (hl : l.length ≤ 12) (hm : m.length ≤ 12) :
    Go.Ev.Fn CX 126 [.sl l.length cs, .sl m.length ds] (resV (if l.length ≠ m.length then (0, [], 1) else stuR (List.zipWith (fun a b => a - b) l m) 0)) := by
  have r0 := rat_Int 0 (by omega)
  by_cases hlm : l.length = m.length
  · rw [if_neg (not_not_intro hlm)]
    have hzl : (List.zipWith (fun a b => a - b) l m).length = l.length := by rw [List.length_zipWith]; omega
    have hzg : ∀ i, i < l.length → (List.zipWith (fun a b => a - b) l m).getD i 0 = l.getD i 0 - m.getD i 0 := by
      intro i hi
      rw [List.getD_eq_getElem?_getD, List.getD_eq_getElem?_getD, List.getD_eq_getElem?_getD, List.getElem?_eq_getElem (by omega), List.getElem?_eq_getElem hi, List.getElem?_eq_getElem (by omega), List.getElem_zipWith]
      rfl
    have hlen := row_len h
    have hlen2 := row_len h2
    have hzz : ∀ x ∈ List.zipWith (fun a b => a - b) l m, szR x 3 := by
      intro x hx
      obtain ⟨i, hi, rfl⟩ := List.getElem_of_mem hx
      rw [List.getElem_zipWith]
      exact szR_sub (row_sz (by omega) h _ (List.getElem_mem _)) (row_sz (by omega) h2 _ (List.getElem_mem _)) (by omega)
    generalize hZ : List.zipWith (fun a b => a - b) l m = z at *
    have t1 := test_student (rvsC_row z hzz) (RatA_rv (int_szR (n := 0) (by omega))) (by omega) (by omega) (by omega) (by omega) (by omega)
    have e0 : ((0 : Int) : Rat) = 0 := rfl
    rw [e0] at t1 r0
    rw [hzl] at t1
    have hrl := rvsC_len z
    rw [hzl] at hrl
    refine Go.Ev.Fn.intro (fn := Tryz.f126) (body := (Tryz.f126).body.get!) (by kernel_rfl) (by kernel_rfl) (by kernel_rfl) (fun _ => rfl) (Nat.le_of_ble_eq_true (by kernel_rfl)) ?_; unfold Tryz.f126; simp only [Option.get!_some]
    repeat (first | (simp only [go_sem, Nat.reduceEqDiff, Nat.reduceAdd, Nat.reduceSub, Nat.reduceMul, Nat.reduceLeDiff, Nat.reduceLT, reduceIte, reduceCtorEq, Nat.succ_ne_zero, elemsC, Int.reduceToNat, Nat.reducePow]) | (simp (disch := (first | omega | (simp only [AL, List.length_map]; omega))) only [AR, AL, ifT, ifF, take_all, List.length_cons, List.length_nil, Int.reduceToNat, Int.reducePow, Nat.reducePow]) | (refine wk_intro (by kernel_rfl) ?_) | (refine vp_draw (id := 7) (l := []) (by kernel_rfl) ?_))
    refine vp_loop_inv (fun s => s.tmp 4 = .ptr 4 0 0 ∧ s.obj 4 0 = some [.bool false, .sl 0 [], .sl 0 []] ∧ s.tmp 1 = .sv (.sl m.length ds) ∧ s.tmp 16 = .sv (.sl l.length cs) ∧ s.tmp 17 = .sv (.int .i64 (l.length : Int)) ∧
        ∃ i : Nat, s.tmp 18 = .sv (.int .i64 (i : Int)) ∧ i ≤ l.length ∧ ((i = 0 ∧ s.tmp 7 = .nil ∧ s.gen 31 = 0) ∨ (0 < i ∧ s.tmp 7 = .ref 31 0 3 0 i ∧ s.obj 31 0 = some (rvsC (z.take i)))))
      (fun s => match s.tmp 18 with | .sv (.int _ i) => l.length - i.toNat | _ => 0) ⟨rfl, rfl, rfl, rfl, rfl, 0, rfl, by omega, .inl ⟨rfl, rfl, rfl⟩⟩ ?_
    rintro s2 ⟨i4, iO, i1, i16, i17, i, i18, hi, hc⟩
    by_cases hend : i = l.length
    · subst hend
      rcases hc with ⟨h00, i7, _⟩ | ⟨_, i7, iP⟩
      · rw [h00] at t1 hzl
        have hz0 : z = [] := List.length_eq_zero_iff.1 hzl
        subst hz0
        rw [rvsC_nil] at t1
        repeat (first | (simp only [go_sem, Nat.reduceEqDiff, Nat.reduceAdd, Nat.reduceSub, Nat.reduceMul, Nat.reduceLeDiff, Nat.reduceLT, reduceIte, reduceCtorEq, Nat.succ_ne_zero, elemsC, Int.reduceToNat, Nat.reducePow, i4, iO, i1, i16, i17, i18, i7]) | (simp (disch := (first | omega | (simp only [AL, List.length_map]; omega))) only [AR, AL, ifT, ifF, take_all, List.length_cons, List.length_nil, Int.reduceToNat, Int.reducePow, Nat.reducePow, i4, iO, i1, i16, i17, i18, i7]) | (refine wk_intro (by kernel_rfl) ?_) | (refine vp_draw (id := 7) (l := []) (by kernel_rfl) ?_) | (refine vf_of (by first | exact r0 | exact t1) ?_))
      · rw [List.take_of_length_le (by omega)] at iP
        have htk : (rvsC z).take (l.length * 3) = rvsC z := List.take_of_length_le (by omega)
        repeat (first | (simp only [go_sem, Nat.reduceEqDiff, Nat.reduceAdd, Nat.reduceSub, Nat.reduceMul, Nat.reduceLeDiff, Nat.reduceLT, reduceIte, reduceCtorEq, Nat.succ_ne_zero, elemsC, Int.reduceToNat, Nat.reducePow, i4, iO, i1, i16, i17, i18, i7, iP, rvC, htk, List.drop_zero]) | (simp (disch := (first | omega | (simp only [AL, List.length_map]; omega))) only [AR, AL, ifT, ifF, take_all, List.length_cons, List.length_nil, Int.reduceToNat, Int.reducePow, Nat.reducePow, i4, iO, i1, i16, i17, i18, i7, iP, rvC, htk, List.drop_zero]) | (refine wk_intro (by kernel_rfl) ?_) | (refine vp_draw (id := 7) (l := []) (by kernel_rfl) ?_) | (refine vf_of (by first | exact r0 | exact t1) ?_))
    · obtain ⟨s, n, d, rest, hat, hA⟩ := row_at (i := i) h (by omega)
      obtain ⟨s', n', d', rest2, hat2, hA2⟩ := row_at (i := i) h2 (by omega)
      have a := rat_Sub hA hA2 (by omega) (by omega) (by omega)
      have hsn := rvs_snoc (l := z) (i := i) (by omega)
      rw [← hzg i (by omega)] at a
      have hrl2 := rvsC_len (z.take i)
      rw [List.length_take, hzl, Nat.min_eq_left (by omega)] at hrl2
      clear hzz h h2 hA hA2 t1 r0 hzg
      rcases hc with ⟨h00, i7, ig⟩ | ⟨h00, i7, iP⟩
      · subst h00
        rw [List.take_zero, rvsC_nil, List.nil_append] at hsn
        rw [Nat.zero_mul, List.drop_zero] at hat hat2
        subst hat hat2
        repeat (first | (simp only [go_sem, Nat.reduceEqDiff, Nat.reduceAdd, Nat.reduceSub, Nat.reduceMul, Nat.reduceLeDiff, Nat.reduceLT, reduceIte, reduceCtorEq, Nat.succ_ne_zero, elemsC, Int.reduceToNat, Nat.reducePow, i4, iO, i1, i16, i17, i18, i7, ig, N0]) | (simp (disch := (first | omega | (simp only [AL, List.length_map]; omega))) only [AR, AL, ifT, ifF, take_all, List.length_cons, List.length_nil, Int.reduceToNat, Int.reducePow, Nat.reducePow, i4, iO, i1, i16, i17, i18, i7, ig, N0]) | (refine wk_intro (by kernel_rfl) ?_) | (refine vp_draw (id := 7) (l := []) (by kernel_rfl) ?_) | (refine vf_of (by first | exact a) ?_))
        exact ⟨⟨1, rfl, by omega, .inr ⟨by omega, rfl, by first | (rw [← hsn]; rfl) | rw [← hsn]⟩⟩, by omega⟩
      · unfold rvC at hsn
        repeat (first | (simp only [go_sem, Nat.reduceEqDiff, Nat.reduceAdd, Nat.reduceSub, Nat.reduceMul, Nat.reduceLeDiff, Nat.reduceLT, reduceIte, reduceCtorEq, Nat.succ_ne_zero, elemsC, Int.reduceToNat, Nat.reducePow, i4, iO, i1, i16, i17, i18, i7, iP, hat, hat2, hlen, hlen2, rvC, N0, hsn, hrl2]) | (simp (disch := (first | omega | (simp only [AL, List.length_map]; omega))) only [AR, AL, ifT, ifF, take_all, List.length_cons, List.length_nil, Int.reduceToNat, Int.reducePow, Nat.reducePow, i4, iO, i1, i16, i17, i18, i7, iP, hat, hat2, hlen, hlen2, rvC, N0, hsn, hrl2]) | (refine wk_intro (by kernel_rfl) ?_) | (refine vp_draw (id := 7) (l := []) (by kernel_rfl) ?_) | (refine vf_of (by first | exact a) ?_))
        exact ⟨⟨i + 1, rfl, by omega, .inr ⟨by omega, rfl, by first | (rw [← hsn]; rfl) | rw [← hsn]⟩⟩, by omega⟩
  · rw [if_pos hlm]
    clear h h2
    refine Go.Ev.Fn.intro (fn := Tryz.f126) (body := (Tryz.f126).body.get!) (by kernel_rfl) (by kernel_rfl) (by kernel_rfl) (fun _ => rfl) (Nat.le_of_ble_eq_true (by kernel_rfl)) ?_; unfold Tryz.f126; simp only [Option.get!_some]
    repeat (first | (simp only [go_sem, Nat.reduceEqDiff, Nat.reduceAdd, Nat.reduceSub, Nat.reduceMul, Nat.reduceLeDiff, Nat.reduceLT, reduceIte, reduceCtorEq, Nat.succ_ne_zero, elemsC, Int.reduceToNat, Nat.reducePow]) | (simp (disch := (first | omega | (simp only [AL, List.length_map]; omega))) only [AR, AL, ifT, ifF, take_all, List.length_cons, List.length_nil, Int.reduceToNat, Int.reducePow, Nat.reducePow]) | (refine wk_intro (by kernel_rfl) ?_) | (refine vp_draw (id := 7) (l := []) (by kernel_rfl) ?_) | (refine vf_of (by first | exact r0) ?_))
    rfl
theorem test_spread {cs : List SV} {l : List Rat} (h : RowC cs l 1) (hl : l.length ≤ 12) (h0 : 1 ≤ l.length) : Go.Ev.Fn CX 181 [.sl l.length cs] (rv (sqR l)) := by
  have c1 := stat_Central h (by omega) (by omega) hl h0
  have z := sz_sq (by omega) (row_sz (by omega) h) hl
  have i1 := rat_Int (l.length : Int) (by omega)
  have zi := int_szR (n := (l.length : Int)) (by omega)
  have m1 := rat_Mul (RatA_rv (szR_div z zi (by omega) (by omega))) (RatA_rv zi) (by omega) (by omega) (by omega)
  rw [div_cancel' (lenR_ne (l := l) (by rintro rfl; simp at h0))] at m1
  clear h z
  refine Go.Ev.Fn.intro (fn := Tryz.f181) (body := (Tryz.f181).body.get!) (by kernel_rfl) (by kernel_rfl) (by kernel_rfl) (fun _ => rfl) (Nat.le_of_ble_eq_true (by kernel_rfl)) ?_; unfold Tryz.f181; simp only [Option.get!_some]
  repeat (first | (simp only [go_sem, Nat.reduceEqDiff, Nat.reduceAdd, Nat.reduceSub, Nat.reduceMul, Nat.reduceLeDiff, Nat.reduceLT, reduceIte, reduceCtorEq, Nat.succ_ne_zero, elemsC, Int.reduceToNat, Nat.reducePow]) | (simp (disch := (first | omega | (simp only [AL, List.length_map]; omega))) only [AR, AL, ifT, ifF, take_all, List.length_cons, List.length_nil, Int.reduceToNat, Int.reducePow, Nat.reducePow]) | (refine wk_intro (by kernel_rfl) ?_) | (refine vp_draw (id := 2) (l := []) (by kernel_rfl) ?_) | (refine vf_of (by first | exact c1 | exact i1 | exact m1) ?_))
theorem test_pooled {cs ds : List SV} {l m : List Rat} (h : RowC cs l 1) (h2 : RowC ds m 1) (hl : l.length ≤ 12) (hm : m.length ≤ 12) :
    Go.Ev.Fn CX 127 [.sl l.length cs, .sl m.length ds] (resV (poolR l m)) := by
  have r0 := rat_Int 0 (by omega)
  unfold poolR
  by_cases c1 : l.length = 0
  · rw [if_pos (.inl c1)]
    clear h h2
    refine Go.Ev.Fn.intro (fn := Tryz.f127) (body := (Tryz.f127).body.get!) (by kernel_rfl) (by kernel_rfl) (by kernel_rfl) (fun _ => rfl) (Nat.le_of_ble_eq_true (by kernel_rfl)) ?_; unfold Tryz.f127; simp only [Option.get!_some]
    repeat (first | (simp only [go_sem, Nat.reduceEqDiff, Nat.reduceAdd, Nat.reduceSub, Nat.reduceMul, Nat.reduceLeDiff, Nat.reduceLT, reduceIte, reduceCtorEq, Nat.succ_ne_zero, elemsC, Int.reduceToNat, Nat.reducePow]) | (simp (disch := (first | omega | (simp only [AL, List.length_map]; omega))) only [AR, AL, ifT, ifF, take_all, List.length_cons, List.length_nil, Int.reduceToNat, Int.reducePow, Nat.reducePow]) | (refine wk_intro (by kernel_rfl) ?_) | (refine vp_draw (id := 10) (l := []) (by kernel_rfl) ?_) | (refine vf_of (by first | exact r0) ?_))
    rfl
  by_cases c2 : m.length = 0
  · rw [if_pos (.inr (.inl c2))]
    clear h h2
    refine Go.Ev.Fn.intro (fn := Tryz.f127) (body := (Tryz.f127).body.get!) (by kernel_rfl) (by kernel_rfl) (by kernel_rfl) (fun _ => rfl) (Nat.le_of_ble_eq_true (by kernel_rfl)) ?_; unfold Tryz.f127; simp only [Option.get!_some]
    repeat (first | (simp only [go_sem, Nat.reduceEqDiff, Nat.reduceAdd, Nat.reduceSub, Nat.reduceMul, Nat.reduceLeDiff, Nat.reduceLT, reduceIte, reduceCtorEq, Nat.succ_ne_zero, elemsC, Int.reduceToNat, Nat.reducePow]) | (simp (disch := (first | omega | (simp only [AL, List.length_map]; omega))) only [AR, AL, ifT, ifF, take_all, List.length_cons, List.length_nil, Int.reduceToNat, Int.reducePow, Nat.reducePow]) | (refine wk_intro (by kernel_rfl) ?_) | (refine vp_draw (id := 10) (l := []) (by kernel_rfl) ?_) | (refine vf_of (by first | exact r0) ?_))
    rfl
  by_cases c3 : l.length + m.length < 3
  · rw [if_pos (.inr (.inr c3))]
    clear h h2
    refine Go.Ev.Fn.intro (fn := Tryz.f127) (body := (Tryz.f127).body.get!) (by kernel_rfl) (by kernel_rfl) (by kernel_rfl) (fun _ => rfl) (Nat.le_of_ble_eq_true (by kernel_rfl)) ?_; unfold Tryz.f127; simp only [Option.get!_some]
    repeat (first | (simp only [go_sem, Nat.reduceEqDiff, Nat.reduceAdd, Nat.reduceSub, Nat.reduceMul, Nat.reduceLeDiff, Nat.reduceLT, reduceIte, reduceCtorEq, Nat.succ_ne_zero, elemsC, Int.reduceToNat, Nat.reducePow]) | (simp (disch := (first | omega | (simp only [AL, List.length_map]; omega))) only [AR, AL, ifT, ifF, take_all, List.length_cons, List.length_nil, Int.reduceToNat, Int.reducePow, Nat.reducePow]) | (refine wk_intro (by kernel_rfl) ?_) | (refine vp_draw (id := 10) (l := []) (by kernel_rfl) ?_) | (refine vf_of (by first | exact r0) ?_))
    rfl
  rw [if_neg (by omega)]
  have s1 := test_spread h hl (by omega)
  have s2 := test_spread h2 hm (by omega)
  have z1 := sz_sq (by omega) (row_sz (by omega) h) hl
  have z2 := sz_sq (by omega) (row_sz (by omega) h2) hm
  have y1 := sz_mean (by omega) (row_sz (by omega) h) hl
  have y2 := sz_mean (by omega) (row_sz (by omega) h2) hm
  have m1 := stat_Mean h (by omega) (by omega) hl
  have m2 := stat_Mean h2 (by omega) (by omega) hm
  rw [if_neg c1] at m1
  rw [if_neg c2] at m2
  have a1 := rat_Add (RatA_rv z1) (RatA_rv z2) (by omega) (by omega) (by omega)
  have za := szR_add z1 z2 (by omega)
  have i1 := rat_Int ((l.length : Int) + (m.length : Int) - 2) (by omega)
  have zi1 := int_szR (n := (l.length : Int) + (m.length : Int) - 2) (by omega)
  have o1 := test_over (RatA_rv za) (RatA_rv zi1) (by omega) (by omega) (by omega)
  have zo := szR_div za zi1 (by omega) (by omega)
  have zz := rat_Zero (RatA_rv zo) (by omega) (by omega)
  clear z1 z2 za zi1 h h2
  by_cases hv : (sqR l + sqR m) / (((l.length : Int) + (m.length : Int) - 2 : Int) : Rat) = 0
  · rw [if_pos hv]
    rw [decide_eq_true hv] at zz
    clear hv
    refine Go.Ev.Fn.intro (fn := Tryz.f127) (body := (Tryz.f127).body.get!) (by kernel_rfl) (by kernel_rfl) (by kernel_rfl) (fun _ => rfl) (Nat.le_of_ble_eq_true (by kernel_rfl)) ?_; unfold Tryz.f127; simp only [Option.get!_some]
    repeat (first | (simp only [go_sem, Nat.reduceEqDiff, Nat.reduceAdd, Nat.reduceSub, Nat.reduceMul, Nat.reduceLeDiff, Nat.reduceLT, reduceIte, reduceCtorEq, Nat.succ_ne_zero, elemsC, Int.reduceToNat, Nat.reducePow]) | (simp (disch := (first | omega | (simp only [AL, List.length_map]; omega))) only [AR, AL, ifT, ifF, take_all, List.length_cons, List.length_nil, Int.reduceToNat, Int.reducePow, Nat.reducePow]) | (refine wk_intro (by kernel_rfl) ?_) | (refine vp_draw (id := 10) (l := []) (by kernel_rfl) ?_) | (refine vf_of (by first | exact s1 | exact s2 | exact a1 | exact i1 | exact o1 | exact zz | exact r0) ?_))
    rfl
  · rw [if_neg hv]
    rw [decide_eq_false hv] at zz
    have lm : 1 ≤ l.length * m.length ∧ l.length * m.length ≤ 144 := ⟨Nat.mul_pos (by omega) (by omega), Nat.mul_le_mul hl hm⟩
    have elm : (l.length : Int) * (m.length : Int) = ((l.length * m.length : Nat) : Int) := (Int.natCast_mul _ _).symm
    have i2 := rat_Int ((l.length : Int) + (m.length : Int)) (by omega)
    have zi2 := int_szR (n := (l.length : Int) + (m.length : Int)) (by omega)
    have i3 := rat_Int ((l.length : Int) * (m.length : Int)) (by rw [elm]; omega)
    have zi3 := int_szR (n := (l.length : Int) * (m.length : Int)) (by rw [elm]; omega)
    have o2 := test_over (RatA_rv zi2) (RatA_rv zi3) (by omega) (by omega) (by omega)
    have zo2 := szR_div zi2 zi3 (by omega) (by omega)
    have d1 := rat_Sub (RatA_rv y1) (RatA_rv y2) (by omega) (by omega) (by omega)
    have zd := szR_sub y1 y2 (by omega)
    have q1 := test_square (RatA_rv zd) (by omega) (by omega)
    have zq := szR_mul zd zd (by omega)
    have p1 := rat_Mul (RatA_rv zo) (RatA_rv zo2) (by omega) (by omega) (by omega)
    have o3 := test_over (RatA_rv zq) (RatA_rv (szR_mul zo zo2 (by omega))) (by omega) (by omega) (by omega)
    clear zi2 zi3 zo zo2 zd zq y1 y2 hv
    generalize meanR l = x at *
    generalize meanR m = y at *
    generalize (sqR l + sqR m) / (((l.length : Int) + (m.length : Int) - 2 : Int) : Rat) = v at *
    generalize sqR l + sqR m = v2 at *
    generalize (((l.length : Int) + (m.length : Int) : Int) : Rat) / (((l.length : Int) * (m.length : Int) : Int) : Rat) = w at *
    rw [elm] at i3 o2
    generalize hpr : l.length * m.length = pr at *
    have hmul : IntKind.i64.wrap ((l.length : Int) * (m.length : Int)) = (pr : Int) := by rw [elm]; exact wI64 (by omega)
    clear elm
    refine Go.Ev.Fn.intro (fn := Tryz.f127) (body := (Tryz.f127).body.get!) (by kernel_rfl) (by kernel_rfl) (by kernel_rfl) (fun _ => rfl) (Nat.le_of_ble_eq_true (by kernel_rfl)) ?_; unfold Tryz.f127; simp only [Option.get!_some]
    repeat (first | (simp only [go_sem, Nat.reduceEqDiff, Nat.reduceAdd, Nat.reduceSub, Nat.reduceMul, Nat.reduceLeDiff, Nat.reduceLT, reduceIte, reduceCtorEq, Nat.succ_ne_zero, elemsC, Int.reduceToNat, Nat.reducePow, hmul]) | (simp (disch := (first | omega | (simp only [AL, List.length_map]; omega))) only [AR, AL, ifT, ifF, take_all, List.length_cons, List.length_nil, Int.reduceToNat, Int.reducePow, Nat.reducePow, hmul]) | (refine wk_intro (by kernel_rfl) ?_) | (refine vp_draw (id := 10) (l := []) (by kernel_rfl) ?_) | (refine vf_of (by first | exact s1 | exact s2 | exact a1 | exact i1 | exact o1 | exact zz | exact m1 | exact m2 | exact i2 | exact i3 | exact o2 | exact d1 | exact q1 | exact p1 | exact o3) ?_))
theorem test_fisher {cs ds : List SV} {l m : List Rat} (h : RowC cs l 1) (h2 : RowC ds m 1) (hl : l.length ≤ 12) (hm : m.length ≤ 12) :
    Go.Ev.Fn CX 128 [.sl l.length cs, .sl m.length ds] (resV (fisR l m)) := by
  have r0 := rat_Int 0 (by omega)
  have v1 := stat_Variance h (by omega) (by omega) hl
  have v2 := stat_Variance h2 (by omega) (by omega) hm
  have z1 := sz_var (by omega) (row_sz (by omega) h) hl
  have z2 := sz_var (by omega) (row_sz (by omega) h2) hm
  have q1 := rat_Zero (RatA_rv z1) (by omega) (by omega)
  have q2 := rat_Zero (RatA_rv z2) (by omega) (by omega)
  have o1 := test_over (RatA_rv z1) (RatA_rv z2) (by omega) (by omega) (by omega)
  unfold fisR
  clear h h2 z1 z2
  by_cases c1 : l.length < 2
  · rw [if_pos (.inl c1)]
    rw [if_pos c1] at v1
    refine Go.Ev.Fn.intro (fn := Tryz.f128) (body := (Tryz.f128).body.get!) (by kernel_rfl) (by kernel_rfl) (by kernel_rfl) (fun _ => rfl) (Nat.le_of_ble_eq_true (by kernel_rfl)) ?_; unfold Tryz.f128; simp only [Option.get!_some]
    repeat (first | (simp only [go_sem, Nat.reduceEqDiff, Nat.reduceAdd, Nat.reduceSub, Nat.reduceMul, Nat.reduceLeDiff, Nat.reduceLT, reduceIte, reduceCtorEq, Nat.succ_ne_zero, elemsC, Int.reduceToNat, Nat.reducePow]) | (simp (disch := (first | omega | (simp only [AL, List.length_map]; omega))) only [AR, AL, ifT, ifF, take_all, List.length_cons, List.length_nil, Int.reduceToNat, Int.reducePow, Nat.reducePow]) | (refine wk_intro (by kernel_rfl) ?_) | (refine vf_of (by first | exact v1 | exact r0) ?_))
    rfl
  rw [if_neg c1] at v1
  by_cases c2 : m.length < 2
  · rw [if_pos (.inr c2)]
    rw [if_pos c2] at v2
    refine Go.Ev.Fn.intro (fn := Tryz.f128) (body := (Tryz.f128).body.get!) (by kernel_rfl) (by kernel_rfl) (by kernel_rfl) (fun _ => rfl) (Nat.le_of_ble_eq_true (by kernel_rfl)) ?_; unfold Tryz.f128; simp only [Option.get!_some]
    repeat (first | (simp only [go_sem, Nat.reduceEqDiff, Nat.reduceAdd, Nat.reduceSub, Nat.reduceMul, Nat.reduceLeDiff, Nat.reduceLT, reduceIte, reduceCtorEq, Nat.succ_ne_zero, elemsC, Int.reduceToNat, Nat.reducePow]) | (simp (disch := (first | omega | (simp only [AL, List.length_map]; omega))) only [AR, AL, ifT, ifF, take_all, List.length_cons, List.length_nil, Int.reduceToNat, Int.reducePow, Nat.reducePow]) | (refine wk_intro (by kernel_rfl) ?_) | (refine vf_of (by first | exact v1 | exact v2 | exact r0) ?_))
    rfl
  rw [if_neg c2] at v2
  rw [if_neg (by omega)]
  generalize varR l = a at *
  generalize varR m = b at *
  by_cases c3 : a = 0
  · rw [if_pos (.inl c3)]
    rw [decide_eq_true c3] at q1
    refine Go.Ev.Fn.intro (fn := Tryz.f128) (body := (Tryz.f128).body.get!) (by kernel_rfl) (by kernel_rfl) (by kernel_rfl) (fun _ => rfl) (Nat.le_of_ble_eq_true (by kernel_rfl)) ?_; unfold Tryz.f128; simp only [Option.get!_some]
    repeat (first | (simp only [go_sem, Nat.reduceEqDiff, Nat.reduceAdd, Nat.reduceSub, Nat.reduceMul, Nat.reduceLeDiff, Nat.reduceLT, reduceIte, reduceCtorEq, Nat.succ_ne_zero, elemsC, Int.reduceToNat, Nat.reducePow]) | (simp (disch := (first | omega | (simp only [AL, List.length_map]; omega))) only [AR, AL, ifT, ifF, take_all, List.length_cons, List.length_nil, Int.reduceToNat, Int.reducePow, Nat.reducePow]) | (refine wk_intro (by kernel_rfl) ?_) | (refine vf_of (by first | exact v1 | exact v2 | exact q1 | exact r0) ?_))
    rfl
  rw [decide_eq_false c3] at q1
  by_cases c4 : b = 0
  · rw [if_pos (.inr c4)]
    rw [decide_eq_true c4] at q2
    refine Go.Ev.Fn.intro (fn := Tryz.f128) (body := (Tryz.f128).body.get!) (by kernel_rfl) (by kernel_rfl) (by kernel_rfl) (fun _ => rfl) (Nat.le_of_ble_eq_true (by kernel_rfl)) ?_; unfold Tryz.f128; simp only [Option.get!_some]
    repeat (first | (simp only [go_sem, Nat.reduceEqDiff, Nat.reduceAdd, Nat.reduceSub, Nat.reduceMul, Nat.reduceLeDiff, Nat.reduceLT, reduceIte, reduceCtorEq, Nat.succ_ne_zero, elemsC, Int.reduceToNat, Nat.reducePow]) | (simp (disch := (first | omega | (simp only [AL, List.length_map]; omega))) only [AR, AL, ifT, ifF, take_all, List.length_cons, List.length_nil, Int.reduceToNat, Int.reducePow, Nat.reducePow]) | (refine wk_intro (by kernel_rfl) ?_) | (refine vf_of (by first | exact v1 | exact v2 | exact q1 | exact q2 | exact r0) ?_))
    rfl
  rw [decide_eq_false c4] at q2
  rw [if_neg (fun h => h.elim c3 c4)]
  refine Go.Ev.Fn.intro (fn := Tryz.f128) (body := (Tryz.f128).body.get!) (by kernel_rfl) (by kernel_rfl) (by kernel_rfl) (fun _ => rfl) (Nat.le_of_ble_eq_true (by kernel_rfl)) ?_; unfold Tryz.f128; simp only [Option.get!_some]
  repeat (first | (simp only [go_sem, Nat.reduceEqDiff, Nat.reduceAdd, Nat.reduceSub, Nat.reduceMul, Nat.reduceLeDiff, Nat.reduceLT, reduceIte, reduceCtorEq, Nat.succ_ne_zero, elemsC, Int.reduceToNat, Nat.reducePow]) | (simp (disch := (first | omega | (simp only [AL, List.length_map]; omega))) only [AR, AL, ifT, ifF, take_all, List.length_cons, List.length_nil, Int.reduceToNat, Int.reducePow, Nat.reducePow]) | (refine wk_intro (by kernel_rfl) ?_) | (refine vf_of (by first | exact v1 | exact v2 | exact q1 | exact q2 | exact o1) ?_))
  refine ro_ref (cs := [.int .i64 ((l.length - 1 : Nat) : Int), .int .i64 ((m.length - 1 : Nat) : Int)]) (by decide) ?_ rfl
  simp only [go_sem, Nat.reduceEqDiff, Nat.reduceAdd, Nat.reduceSub, Nat.reduceMul, Nat.reduceLeDiff, Nat.reduceLT, reduceIte, reduceCtorEq, Nat.succ_ne_zero, elemsC, Int.reduceToNat, Nat.reducePow]
end Go.Proofs.YthbjgdmcnonofaaGreat

/- ball.Of, Sub; incg.P, Q at 0; vernierref4.Has, in the evaluator. -/
namespace Go.Proofs.YthbjgdmcnonofaaGreat
set_option linter.unusedSimpArgs false
set_option linter.unusedVariables false
set_option maxRecDepth 8000
open Go.Ev
/-- A ball's ends. -/
abbrev ballR (a b : Rat) : SV := .agg [.bool (decide (a.num < 0)), natV (lim a.num.natAbs), natV (lim a.den), .bool (decide (b.num < 0)), natV (lim b.num.natAbs), natV (lim b.den)]
theorem ball_Of {v : SV} {q : Rat} {L : Nat} (hv : RatA v q L) (hL : L ≤ 1000000) : Go.Ev.Fn CX 28 [v] (ballR q q) := by
  have n1 := rat_Norm hv (by omega)
  obtain ⟨s, n, d, rfl, -⟩ := hv
  refine Go.Ev.Fn.intro (fn := Tryz.f28) (body := (Tryz.f28).body.get!) (by kernel_rfl) (by kernel_rfl) (by kernel_rfl) (fun _ => rfl) (Nat.le_of_ble_eq_true (by kernel_rfl)) ?_; unfold Tryz.f28; simp only [Option.get!_some]
  repeat (first | (simp only [go_sem, Nat.reduceEqDiff, Nat.reduceAdd, Nat.reduceSub, Nat.reduceMul, Nat.reduceLeDiff, Nat.reduceLT, reduceIte, reduceCtorEq, Nat.succ_ne_zero, elemsC, Int.reduceToNat, Nat.reducePow]) | (simp (disch := (first | omega | (simp only [AL, List.length_map]; omega))) only [AR, AL, ifT, ifF, take_all, List.length_cons, List.length_nil, Int.reduceToNat, Int.reducePow, Nat.reducePow]) | (refine wk_intro (by kernel_rfl) ?_) | (refine vp_draw (id := 1) (l := []) (by kernel_rfl) ?_) | (refine vf_of (by first | exact n1) ?_))
theorem ball_Sub {a b c d : Rat} {L : Nat} (ha : szR a L) (hb : szR b L) (hc : szR c L) (hd : szR d L) (hL : 1 ≤ L) (hL2 : L ≤ 1000000) : Go.Ev.Fn CX 53 [ballR a b, ballR c d] (ballR (a - d) (b - c)) := by
  have s1 := rat_Sub (RatA_rv ha) (RatA_rv hd) hL hL (by omega)
  have s2 := rat_Sub (RatA_rv hb) (RatA_rv hc) hL hL (by omega)
  refine Go.Ev.Fn.intro (fn := Tryz.f53) (body := (Tryz.f53).body.get!) (by kernel_rfl) (by kernel_rfl) (by kernel_rfl) (fun _ => rfl) (Nat.le_of_ble_eq_true (by kernel_rfl)) ?_; unfold Tryz.f53; simp only [Option.get!_some]
  repeat (first | (simp only [go_sem, Nat.reduceEqDiff, Nat.reduceAdd, Nat.reduceSub, Nat.reduceMul, Nat.reduceLeDiff, Nat.reduceLT, reduceIte, reduceCtorEq, Nat.succ_ne_zero, elemsC, Int.reduceToNat, Nat.reducePow]) | (simp (disch := (first | omega | (simp only [AL, List.length_map]; omega))) only [AR, AL, ifT, ifF, take_all, List.length_cons, List.length_nil, Int.reduceToNat, Int.reducePow, Nat.reducePow]) | (refine wk_intro (by kernel_rfl) ?_) | (refine vp_draw (id := 1) (l := []) (by kernel_rfl) ?_) | (refine vf_of (by first | exact s1 | exact s2) ?_))
theorem ref4_Has {a b q : Rat} {v : SV} {L M : Nat} (ha : szR a L) (hb : szR b L) (hv : RatA v q M) (hL : 1 ≤ L) (hM : 1 ≤ M) (h : L + M ≤ 1000000) (h1 : a ≤ q) (h2 : q ≤ b) : Go.Ev.Fn CX 20 [ballR a b, v] (.bool true) := by
  have c1 := ref2_Cmp (RatA_rv ha) hv hL hM (by omega)
  have c2 := ref2_Cmp hv (RatA_rv hb) hM hL (by omega)
  have e1 : decide (cmpR a q ≤ 0) = true := by rw [cmpR_le]; exact decide_eq_true h1
  have e2 : decide (cmpR q b ≤ 0) = true := by rw [cmpR_le]; exact decide_eq_true h2
  obtain ⟨s, n, d, rfl, -⟩ := hv
  refine Go.Ev.Fn.intro (fn := Tryz.f20) (body := (Tryz.f20).body.get!) (by kernel_rfl) (by kernel_rfl) (by kernel_rfl) (fun _ => rfl) (Nat.le_of_ble_eq_true (by kernel_rfl)) ?_; unfold Tryz.f20; simp only [Option.get!_some]
  repeat (first | (simp only [go_sem, Nat.reduceEqDiff, Nat.reduceAdd, Nat.reduceSub, Nat.reduceMul, Nat.reduceLeDiff, Nat.reduceLT, reduceIte, reduceCtorEq, Nat.succ_ne_zero, elemsC, Int.reduceToNat, Nat.reducePow, e1, e2]) | (simp (disch := (first | omega | (simp only [AL, List.length_map]; omega))) only [AR, AL, ifT, ifF, take_all, List.length_cons, List.length_nil, Int.reduceToNat, Int.reducePow, Nat.reducePow, e1, e2]) | (refine wk_intro (by kernel_rfl) ?_) | (refine vf_of (by first | exact c1 | exact c2) ?_))
theorem incg_isOutside {n : Int} (h1 : 1 ≤ n) (h2 : n ≤ 256) : Go.Ev.Fn CX 191 [.int .i64 n, rv 0] (.bool false) := by
  have r0 := rat_Int 0 (by omega)
  have r1 := rat_Int 64 (by omega)
  have c0 := rat_Cmp (RatA_rv (szR_zero (L := 1) (by omega))) (RatA_rv (int_szR (n := 0) (by omega))) (by omega) (by omega) (by omega)
  have c1 := rat_Cmp (RatA_rv (szR_zero (L := 1) (by omega))) (RatA_rv (int_szR (n := 64) (by omega))) (by omega) (by omega) (by omega)
  have e0 : decide (cmpR 0 ((0 : Int) : Rat) < 0) = false := by rw [cmpR_lt]; decide +kernel
  have e1 : decide (cmpR 0 ((64 : Int) : Rat) > 0) = false := by rw [cmpR_gt]; decide +kernel
  refine Go.Ev.Fn.intro (fn := Tryz.f191) (body := (Tryz.f191).body.get!) (by kernel_rfl) (by kernel_rfl) (by kernel_rfl) (fun _ => rfl) (Nat.le_of_ble_eq_true (by kernel_rfl)) ?_; unfold Tryz.f191; simp only [Option.get!_some]
  repeat (first | (simp only [go_sem, Nat.reduceEqDiff, Nat.reduceAdd, Nat.reduceSub, Nat.reduceMul, Nat.reduceLeDiff, Nat.reduceLT, reduceIte, reduceCtorEq, Nat.succ_ne_zero, elemsC, Int.reduceToNat, Nat.reducePow, e0, e1]) | (simp (disch := (first | omega | (simp only [AL, List.length_map]; omega))) only [AR, AL, ifT, ifF, take_all, List.length_cons, List.length_nil, Int.reduceToNat, Int.reducePow, Nat.reducePow, e0, e1]) | (refine wk_intro (by kernel_rfl) ?_) | (refine vp_draw (id := 1) (l := []) (by kernel_rfl) ?_) | (refine vf_of (by first | exact r0 | exact c0 | exact r1 | exact c1) ?_))
theorem incg_P0 {n p : Int} (h1 : 1 ≤ n) (h2 : n ≤ 256) : Go.Ev.Fn CX 135 [.int .i64 n, rv 0, .int .i64 p] (.tup [ballR 0 0, .bool true]) := by
  have n0 := rat_Norm (RatA_rv (szR_zero (L := 1) (by omega))) (by omega)
  have o := incg_isOutside h1 h2
  have z := rat_Zero (RatA_rv (szR_zero (L := 1) (by omega))) (by omega) (by omega)
  rw [decide_eq_true rfl] at z
  have r0 := rat_Int 0 (by omega)
  have b := ball_Of (RatA_rv (int_szR (n := 0) (by omega))) (by omega)
  rw [show ((0 : Int) : Rat) = 0 from rfl] at b r0
  refine Go.Ev.Fn.intro (fn := Tryz.f135) (body := (Tryz.f135).body.get!) (by kernel_rfl) (by kernel_rfl) (by kernel_rfl) (fun _ => rfl) (Nat.le_of_ble_eq_true (by kernel_rfl)) ?_; unfold Tryz.f135; simp only [Option.get!_some]
  repeat (first | (simp only [go_sem, Nat.reduceEqDiff, Nat.reduceAdd, Nat.reduceSub, Nat.reduceMul, Nat.reduceLeDiff, Nat.reduceLT, reduceIte, reduceCtorEq, Nat.succ_ne_zero, elemsC, Int.reduceToNat, Nat.reducePow, Bool.not_false]) | (simp (disch := (first | omega | (simp only [AL, List.length_map]; omega))) only [AR, AL, ifT, ifF, take_all, List.length_cons, List.length_nil, Int.reduceToNat, Int.reducePow, Nat.reducePow, Bool.not_false]) | (refine wk_intro (by kernel_rfl) ?_) | (refine vp_draw (id := 3) (l := []) (by kernel_rfl) ?_) | (refine vp_draw (id := 7) (l := []) (by kernel_rfl) ?_) | (refine vp_draw (id := 8) (l := []) (by kernel_rfl) ?_) | (refine vf_of (by first | exact n0 | exact o | exact z | exact r0 | exact b) ?_))
theorem incg_Q0 {n p : Int} (h1 : 1 ≤ n) (h2 : n ≤ 256) : Go.Ev.Fn CX 69 [.int .i64 n, rv 0, .int .i64 p] (.tup [ballR 1 1, .bool true]) := by
  have b := incg_P0 (p := p) h1 h2
  have r1 := rat_Int 1 (by omega)
  have o := ball_Of (RatA_rv (int_szR (n := 1) (by omega))) (by omega)
  have s := ball_Sub (a := ((1 : Int) : Rat)) (b := ((1 : Int) : Rat)) (c := 0) (d := 0) (L := 2) (int_szR (by omega)) (int_szR (by omega)) (szR_zero (by omega)) (szR_zero (by omega)) (by omega) (by omega)
  rw [show ((1 : Int) : Rat) - 0 = 1 from by show (1 : Rat) - 0 = 1; grind] at s
  refine Go.Ev.Fn.intro (fn := Tryz.f69) (body := (Tryz.f69).body.get!) (by kernel_rfl) (by kernel_rfl) (by kernel_rfl) (fun _ => rfl) (Nat.le_of_ble_eq_true (by kernel_rfl)) ?_; unfold Tryz.f69; simp only [Option.get!_some]
  repeat (first | (simp only [go_sem, Nat.reduceEqDiff, Nat.reduceAdd, Nat.reduceSub, Nat.reduceMul, Nat.reduceLeDiff, Nat.reduceLT, reduceIte, reduceCtorEq, Nat.succ_ne_zero, elemsC, Int.reduceToNat, Nat.reducePow, Bool.not_true]) | (simp (disch := (first | omega | (simp only [AL, List.length_map]; omega))) only [AR, AL, ifT, ifF, take_all, List.length_cons, List.length_nil, Int.reduceToNat, Int.reducePow, Nat.reducePow, Bool.not_true]) | (refine wk_intro (by kernel_rfl) ?_) | (refine vp_draw (id := 4) (l := []) (by kernel_rfl) ?_) | (refine vf_of (by first | exact b | exact r1 | exact o | exact s) ?_))
end Go.Proofs.YthbjgdmcnonofaaGreat

/- fix: One Next Shift Of Add Sub Mul Times Small Wider Floor; nat.Bits, in the evaluator. -/
namespace Go.Proofs.YthbjgdmcnonofaaGreat
set_option linter.unusedSimpArgs false
set_option linter.unusedVariables false
set_option maxRecDepth 8000
open Go.Ev
/-- Two naturals: a number that lies between them. -/
abbrev spanV (a b : Nat) : SV := .agg [natV (lim a), natV (lim b)]
/-- A natural times 2 to a power, or by it, rounded down. -/
def shfN (a : Nat) (n : Int) : Nat := if 0 ≤ n then a * 2 ^ n.toNat else a / 2 ^ (-n).toNat
theorem lim_len_shl {a n : Nat} : (lim (a * 2 ^ n)).length ≤ (lim a).length + n / 32 + 1 := by
  refine lim_len_lt ?_
  have h1 := lim_len_pow (a := a)
  have h2 : 2 ^ n ≤ 4294967296 ^ (n / 32 + 1) := by
    rw [show (4294967296 : Nat) = 2 ^ 32 from rfl, ← Nat.pow_mul]
    exact Nat.pow_le_pow_right (by omega) (by omega)
  calc a * 2 ^ n < 4294967296 ^ (lim a).length * 2 ^ n := Nat.mul_lt_mul_of_pos_right h1 (Nat.pow_pos (by omega))
    _ ≤ 4294967296 ^ (lim a).length * 4294967296 ^ (n / 32 + 1) := Nat.mul_le_mul_left _ h2
    _ = 4294967296 ^ ((lim a).length + n / 32 + 1) := by rw [← Nat.pow_add, Nat.add_assoc]
theorem fix_Over' {N D : Nat} (hD : D ≠ 0) (hl : (lim N).length ≤ 536870912) (hm : (lim D).length ≤ 536870912) : Go.Ev.Fn CX 171 [natV (lim N), natV (lim D)] (natV (lim (N / D))) := by
  have h := nat_DivL hD hl hm
  refine Go.Ev.Fn.intro (fn := Tryz.f171) (body := (Tryz.f171).body.get!) (by kernel_rfl) (by kernel_rfl) (by kernel_rfl) (fun _ => rfl) (Nat.le_of_ble_eq_true (by kernel_rfl)) ?_; unfold Tryz.f171; simp only [Option.get!_some]
  repeat (first | (simp only [go_sem, Nat.reduceEqDiff, Nat.reduceAdd, Nat.reduceSub, Nat.reduceMul, Nat.reduceLeDiff, Nat.reduceLT, reduceIte, reduceCtorEq, Nat.succ_ne_zero, elemsC, Int.reduceToNat, Nat.reducePow]) | (simp (disch := (first | omega | (simp only [AL, List.length_map]; omega))) only [AR, AL, ifT, ifF, take_all, List.length_cons, List.length_nil, Int.reduceToNat, Int.reducePow, Nat.reducePow]) | (refine wk_intro (by kernel_rfl) ?_) | (refine vf_of (by first | exact h) ?_))
theorem fix_One : Go.Ev.Fn CX 98 [] (natV (lim 1)) := by
  have o := nat_Of 1 (by omega)
  refine Go.Ev.Fn.intro (fn := Tryz.f98) (body := (Tryz.f98).body.get!) (by kernel_rfl) (by kernel_rfl) (by kernel_rfl) (fun _ => rfl) (Nat.le_of_ble_eq_true (by kernel_rfl)) ?_; unfold Tryz.f98; simp only [Option.get!_some]
  repeat (first | (simp only [go_sem, Nat.reduceEqDiff, Nat.reduceAdd, Nat.reduceSub, Nat.reduceMul, Nat.reduceLeDiff, Nat.reduceLT, reduceIte, reduceCtorEq, Nat.succ_ne_zero, elemsC, Int.reduceToNat, Nat.reducePow]) | (simp (disch := (first | omega | (simp only [AL, List.length_map]; omega))) only [AR, AL, ifT, ifF, take_all, List.length_cons, List.length_nil, Int.reduceToNat, Int.reducePow, Nat.reducePow]) | (refine wk_intro (by kernel_rfl) ?_) | (refine vf_of (by first | exact o) ?_))
theorem fix_Next {a : Nat} (h : (lim a).length ≤ 1000000) : Go.Ev.Fn CX 99 [natV (lim a)] (natV (lim (a + 1))) := by
  have o := fix_One
  have l := lim_len1
  have s := nat_AddL (N := a) (D := 1) (by omega) (by omega)
  refine Go.Ev.Fn.intro (fn := Tryz.f99) (body := (Tryz.f99).body.get!) (by kernel_rfl) (by kernel_rfl) (by kernel_rfl) (fun _ => rfl) (Nat.le_of_ble_eq_true (by kernel_rfl)) ?_; unfold Tryz.f99; simp only [Option.get!_some]
  repeat (first | (simp only [go_sem, Nat.reduceEqDiff, Nat.reduceAdd, Nat.reduceSub, Nat.reduceMul, Nat.reduceLeDiff, Nat.reduceLT, reduceIte, reduceCtorEq, Nat.succ_ne_zero, elemsC, Int.reduceToNat, Nat.reducePow]) | (simp (disch := (first | omega | (simp only [AL, List.length_map]; omega))) only [AR, AL, ifT, ifF, take_all, List.length_cons, List.length_nil, Int.reduceToNat, Int.reducePow, Nat.reducePow]) | (refine wk_intro (by kernel_rfl) ?_) | (refine vf_of (by first | exact o | exact s) ?_))
theorem fix_Add {a b c d : Nat} (h1 : (lim a).length ≤ 1000000) (h2 : (lim b).length ≤ 1000000) (h3 : (lim c).length ≤ 1000000) (h4 : (lim d).length ≤ 1000000) : Go.Ev.Fn CX 105 [spanV a b, spanV c d] (spanV (a + c) (b + d)) := by
  have s1 := nat_AddL (N := a) (D := c) (by omega) (by omega)
  have s2 := nat_AddL (N := b) (D := d) (by omega) (by omega)
  refine Go.Ev.Fn.intro (fn := Tryz.f105) (body := (Tryz.f105).body.get!) (by kernel_rfl) (by kernel_rfl) (by kernel_rfl) (fun _ => rfl) (Nat.le_of_ble_eq_true (by kernel_rfl)) ?_; unfold Tryz.f105; simp only [Option.get!_some]
  repeat (first | (simp only [go_sem, Nat.reduceEqDiff, Nat.reduceAdd, Nat.reduceSub, Nat.reduceMul, Nat.reduceLeDiff, Nat.reduceLT, reduceIte, reduceCtorEq, Nat.succ_ne_zero, elemsC, Int.reduceToNat, Nat.reducePow]) | (simp (disch := (first | omega | (simp only [AL, List.length_map]; omega))) only [AR, AL, ifT, ifF, take_all, List.length_cons, List.length_nil, Int.reduceToNat, Int.reducePow, Nat.reducePow]) | (refine wk_intro (by kernel_rfl) ?_) | (refine vp_draw (id := 1) (l := [6, 8, 11, 13]) (by kernel_rfl) ?_) | (refine vf_of (by first | exact s1 | exact s2) ?_))
theorem fix_Wider {a b n : Nat} (h1 : (lim a).length ≤ 1000000) (h2 : (lim b).length ≤ 1000000) (hn : n < 18446744073709551616) : Go.Ev.Fn CX 106 [spanV a b, .int .u64 (n : Int)] (spanV a (b + n)) := by
  have o := nat_Of n hn
  have l : (lim n).length ≤ 1000000 := Nat.le_trans (lim_len_lt (L := 2) (by omega)) (by omega)
  have s := nat_AddL (N := b) (D := n) (by omega) (by omega)
  refine Go.Ev.Fn.intro (fn := Tryz.f106) (body := (Tryz.f106).body.get!) (by kernel_rfl) (by kernel_rfl) (by kernel_rfl) (fun _ => rfl) (Nat.le_of_ble_eq_true (by kernel_rfl)) ?_; unfold Tryz.f106; simp only [Option.get!_some]
  repeat (first | (simp only [go_sem, Nat.reduceEqDiff, Nat.reduceAdd, Nat.reduceSub, Nat.reduceMul, Nat.reduceLeDiff, Nat.reduceLT, reduceIte, reduceCtorEq, Nat.succ_ne_zero, elemsC, Int.reduceToNat, Nat.reducePow]) | (simp (disch := (first | omega | (simp only [AL, List.length_map]; omega))) only [AR, AL, ifT, ifF, take_all, List.length_cons, List.length_nil, Int.reduceToNat, Int.reducePow, Nat.reducePow]) | (refine wk_intro (by kernel_rfl) ?_) | (refine vp_draw (id := 1) (l := [8, 10]) (by kernel_rfl) ?_) | (refine vf_of (by first | exact o | exact s) ?_))
theorem fix_Times {a b n d : Nat} (h1 : (lim a).length ≤ 100000) (h2 : (lim b).length ≤ 100000) (h3 : (lim n).length ≤ 100000) (h4 : (lim d).length ≤ 100000) (hd : d ≠ 0) : Go.Ev.Fn CX 103 [spanV a b, natV (lim n), natV (lim d)] (spanV (a * n / d) (b * n / d + 1)) := by
  have m1 := nat_MulL (N := a) (D := n) (by omega) (by omega)
  have m2 := nat_MulL (N := b) (D := n) (by omega) (by omega)
  have l1 := lim_len_mul (a := a) (b := n)
  have l2 := lim_len_mul (a := b) (b := n)
  have o1 := fix_Over' (N := a * n) (D := d) hd (by omega) (by omega)
  have o2 := fix_Over' (N := b * n) (D := d) hd (by omega) (by omega)
  have l3 := lim_len_mono (Nat.div_le_self (b * n) d)
  have n1 := fix_Next (a := b * n / d) (by omega)
  generalize a * n / d = x at *
  generalize b * n / d = y at *
  generalize a * n = u at *
  generalize b * n = v at *
  refine Go.Ev.Fn.intro (fn := Tryz.f103) (body := (Tryz.f103).body.get!) (by kernel_rfl) (by kernel_rfl) (by kernel_rfl) (fun _ => rfl) (Nat.le_of_ble_eq_true (by kernel_rfl)) ?_; unfold Tryz.f103; simp only [Option.get!_some]
  repeat (first | (simp only [go_sem, Nat.reduceEqDiff, Nat.reduceAdd, Nat.reduceSub, Nat.reduceMul, Nat.reduceLeDiff, Nat.reduceLT, reduceIte, reduceCtorEq, Nat.succ_ne_zero, elemsC, Int.reduceToNat, Nat.reducePow]) | (simp (disch := (first | omega | (simp only [AL, List.length_map]; omega))) only [AR, AL, ifT, ifF, take_all, List.length_cons, List.length_nil, Int.reduceToNat, Int.reducePow, Nat.reducePow]) | (refine wk_intro (by kernel_rfl) ?_) | (refine vp_draw (id := 1) (l := [8, 1, 10, 2, 14, 1, 16, 2, 18]) (by kernel_rfl) ?_) | (refine vf_of (by first | exact m1 | exact o1 | exact m2 | exact o2 | exact n1) ?_))
theorem fix_Less' {N D : Nat} (hl : (lim N).length ≤ 536870912) (hm : (lim D).length ≤ 536870912) : Go.Ev.Fn CX 198 [natV (lim N), natV (lim D)] (natV (lim (N - D))) := by
  have h := nat_SubL hl hm
  refine Go.Ev.Fn.intro (fn := Tryz.f198) (body := (Tryz.f198).body.get!) (by kernel_rfl) (by kernel_rfl) (by kernel_rfl) (fun _ => rfl) (Nat.le_of_ble_eq_true (by kernel_rfl)) ?_; unfold Tryz.f198; simp only [Option.get!_some]
  repeat (first | (simp only [go_sem, Nat.reduceEqDiff, Nat.reduceAdd, Nat.reduceSub, Nat.reduceMul, Nat.reduceLeDiff, Nat.reduceLT, reduceIte, reduceCtorEq, Nat.succ_ne_zero, elemsC, Int.reduceToNat, Nat.reducePow]) | (simp (disch := (first | omega | (simp only [AL, List.length_map]; omega))) only [AR, AL, ifT, ifF, take_all, List.length_cons, List.length_nil, Int.reduceToNat, Int.reducePow, Nat.reducePow]) | (refine wk_intro (by kernel_rfl) ?_) | (refine vf_of (by first | exact h) ?_))
theorem fix_Sub {a b c d : Nat} (h1 : (lim a).length ≤ 100000) (h2 : (lim b).length ≤ 100000) (h3 : (lim c).length ≤ 100000) (h4 : (lim d).length ≤ 100000) : Go.Ev.Fn CX 142 [spanV a b, spanV c d] (spanV (a - d) (b - c + 1)) := by
  have m1 := fix_Less' (N := a) (D := d) (by omega) (by omega)
  have m2 := fix_Less' (N := b) (D := c) (by omega) (by omega)
  have l := lim_len_mono (Nat.sub_le b c)
  have n1 := fix_Next (a := b - c) (by omega)
  generalize a - d = x at *
  generalize b - c = y at *
  refine Go.Ev.Fn.intro (fn := Tryz.f142) (body := (Tryz.f142).body.get!) (by kernel_rfl) (by kernel_rfl) (by kernel_rfl) (fun _ => rfl) (Nat.le_of_ble_eq_true (by kernel_rfl)) ?_; unfold Tryz.f142; simp only [Option.get!_some]
  repeat (first | (simp only [go_sem, Nat.reduceEqDiff, Nat.reduceAdd, Nat.reduceSub, Nat.reduceMul, Nat.reduceLeDiff, Nat.reduceLT, reduceIte, reduceCtorEq, Nat.succ_ne_zero, elemsC, Int.reduceToNat, Nat.reducePow]) | (simp (disch := (first | omega | (simp only [AL, List.length_map]; omega))) only [AR, AL, ifT, ifF, take_all, List.length_cons, List.length_nil, Int.reduceToNat, Int.reducePow, Nat.reducePow]) | (refine wk_intro (by kernel_rfl) ?_) | (refine vp_draw (id := 1) (l := [6, 8, 11, 13, 14]) (by kernel_rfl) ?_) | (refine vf_of (by first | exact m1 | exact m2 | exact n1) ?_))
end Go.Proofs.YthbjgdmcnonofaaGreat

/- vernierref4: Less, More, Num, Sum, Minus, Often, By, Wide, Most, Back, Rat, Ball, in the evaluator. -/
namespace Go.Proofs.YthbjgdmcnonofaaGreat
set_option linter.unusedSimpArgs false
set_option linter.unusedVariables false
set_option maxRecDepth 8000
open Go.Ev
theorem bne_dec (z : Int) : (z != 0) = decide (z ≠ 0) := by by_cases h : z = 0 <;> simp [h]
theorem cmpN_ne {a b : Nat} : (cmpN a b != 0) = decide (a ≠ b) := by
  rw [bne_dec]
  exact decide_eq_decide.2 (by unfold cmpN; split <;> (try split) <;> omega)
theorem ref4_Less (a : Int) (n : Nat) (ha : (lim a.natAbs).length ≤ 100000) (hn : n ≤ 4096) (h0 : 0 < n) : Go.Ev.Fn CX 158 [intV a, .int .i64 (n : Int)] (intV (a / ((2 ^ n : Nat) : Int))) := by
  have hd : 2 ^ n ≠ 0 := Nat.ne_of_gt (Nat.pow_pos (by omega))
  have s1 := ref1_shr (N := a.natAbs) (m := n) (by omega) hn h0
  have l := lim_len_mono (Nat.div_le_self a.natAbs (2 ^ n))
  have l1 := lim_len1
  have s2 := ref1_AddL (N := a.natAbs / 2 ^ n) (D := 1) (by omega) (by omega)
  rw [lim_one] at s2
  have s3 := ref1_shl (N := a.natAbs / 2 ^ n) (m := n) (by omega) hn
  have l3 := lim_len_shl (a := a.natAbs / 2 ^ n) (n := n)
  have c := ref1_CmpL (N := a.natAbs / 2 ^ n * 2 ^ n) (D := a.natAbs) (by omega) (by omega)
  have e2 : (cmpN (a.natAbs / 2 ^ n * 2 ^ n) a.natAbs != 0) = decide (a.natAbs % 2 ^ n ≠ 0) := by
    rw [cmpN_ne]
    refine decide_eq_decide.2 ?_
    have := Nat.div_add_mod a.natAbs (2 ^ n)
    rw [Nat.mul_comm (2 ^ n)] at this
    omega
  have hl := fun (n : Nat) => lenpos (n := n)
  have l5 := lim_len_add (a := a.natAbs / 2 ^ n) (b := 1) (L := 100000) (by omega) (by omega)
  have e := fall_eq (a := a) hd
  have e0 : (0 : Int) - (n : Int) = -(n : Int) := by omega
  generalize 2 ^ n = D at *
  by_cases h : a < 0
  · by_cases h2 : a.natAbs % D = 0
    · rw [if_neg (fun g => g.2 h2)] at e
      rw [e, sgn_iv, decide_eq_true h]
      rw [h2] at e2
      have h0' : decide ((0 : Nat) ≠ 0) = false := rfl
      rw [h0'] at e2
      generalize cmpN (a.natAbs / D * D) a.natAbs = z at *
      generalize a.natAbs / D * D = y at *
      generalize a.natAbs / D = x at *
      refine Go.Ev.Fn.intro (fn := Tryz.f158) (body := (Tryz.f158).body.get!) (by kernel_rfl) (by kernel_rfl) (by kernel_rfl) (fun _ => rfl) (Nat.le_of_ble_eq_true (by kernel_rfl)) ?_; unfold Tryz.f158; simp only [Option.get!_some]
      repeat (first | (simp only [go_sem, Nat.reduceEqDiff, Nat.reduceAdd, Nat.reduceSub, Nat.reduceMul, Nat.reduceLeDiff, Nat.reduceLT, reduceIte, reduceCtorEq, Nat.succ_ne_zero, elemsC, Int.reduceToNat, Nat.reducePow, hl, e0, Bool.true_and, e2]) | (simp (disch := (first | omega | (simp only [AL, List.length_map]; omega))) only [AR, AL, ifT, ifF, take_all, List.length_cons, List.length_nil, Int.reduceToNat, Int.reducePow, Nat.reducePow, hl, e0, Bool.true_and, e2]) | (refine wk_intro (by kernel_rfl) ?_) | (refine vp_draw (id := 2) (l := [5, 16, 18]) (by kernel_rfl) ?_) | (refine vf_of (by first | exact s1 | exact s3 | exact c) ?_))
    · rw [if_pos ⟨h, h2⟩] at e
      rw [e, show -((a.natAbs / D + 1 : Nat) : Int) = sgn true (a.natAbs / D + 1) from rfl, sgn_iv]
      rw [decide_eq_true h2] at e2
      generalize cmpN (a.natAbs / D * D) a.natAbs = z at *
      generalize a.natAbs / D * D = y at *
      generalize a.natAbs / D + 1 = x' at *
      generalize a.natAbs / D = x at *
      refine Go.Ev.Fn.intro (fn := Tryz.f158) (body := (Tryz.f158).body.get!) (by kernel_rfl) (by kernel_rfl) (by kernel_rfl) (fun _ => rfl) (Nat.le_of_ble_eq_true (by kernel_rfl)) ?_; unfold Tryz.f158; simp only [Option.get!_some]
      repeat (first | (simp only [go_sem, Nat.reduceEqDiff, Nat.reduceAdd, Nat.reduceSub, Nat.reduceMul, Nat.reduceLeDiff, Nat.reduceLT, reduceIte, reduceCtorEq, Nat.succ_ne_zero, elemsC, Int.reduceToNat, Nat.reducePow, hl, e0, Bool.true_and, e2]) | (simp (disch := (first | omega | (simp only [AL, List.length_map]; omega))) only [AR, AL, ifT, ifF, take_all, List.length_cons, List.length_nil, Int.reduceToNat, Int.reducePow, Nat.reducePow, hl, e0, Bool.true_and, e2]) | (refine wk_intro (by kernel_rfl) ?_) | (refine vp_draw (id := 2) (l := [5, 16, 18]) (by kernel_rfl) ?_) | (refine vf_of (by first | exact s1 | exact s3 | exact c | exact s2) ?_))
  · rw [if_neg (fun g => h g.1)] at e
    rw [e, sgn_iv, decide_eq_false h]
    generalize a.natAbs / D = x at *
    refine Go.Ev.Fn.intro (fn := Tryz.f158) (body := (Tryz.f158).body.get!) (by kernel_rfl) (by kernel_rfl) (by kernel_rfl) (fun _ => rfl) (Nat.le_of_ble_eq_true (by kernel_rfl)) ?_; unfold Tryz.f158; simp only [Option.get!_some]
    repeat (first | (simp only [go_sem, Nat.reduceEqDiff, Nat.reduceAdd, Nat.reduceSub, Nat.reduceMul, Nat.reduceLeDiff, Nat.reduceLT, reduceIte, reduceCtorEq, Nat.succ_ne_zero, elemsC, Int.reduceToNat, Nat.reducePow, hl, e0, Bool.false_and]) | (simp (disch := (first | omega | (simp only [AL, List.length_map]; omega))) only [AR, AL, ifT, ifF, take_all, List.length_cons, List.length_nil, Int.reduceToNat, Int.reducePow, Nat.reducePow, hl, e0, Bool.false_and]) | (refine wk_intro (by kernel_rfl) ?_) | (refine vp_draw (id := 2) (l := [5, 16, 18]) (by kernel_rfl) ?_) | (refine vf_of (by first | exact s1) ?_))
theorem ref4_More (a : Int) (n : Nat) (ha : (lim a.natAbs).length ≤ 100000) (hn : n ≤ 4096) (h0 : 0 < n) : Go.Ev.Fn CX 159 [intV a, .int .i64 (n : Int)] (intV (cdZ a (2 ^ n))) := by
  have hd : 2 ^ n ≠ 0 := Nat.ne_of_gt (Nat.pow_pos (by omega))
  have o := ref4_Opp a (by omega)
  have f := ref4_Less (-a) n (by rw [Int.natAbs_neg]; exact ha) hn h0
  have l := lim_len_mono (abs_div_le (-a) hd)
  rw [Int.natAbs_neg a] at l
  have o2 := ref4_Opp (-a / ((2 ^ n : Nat) : Int)) (by omega)
  unfold cdZ
  generalize -a / ((2 ^ n : Nat) : Int) = y at *
  refine Go.Ev.Fn.intro (fn := Tryz.f159) (body := (Tryz.f159).body.get!) (by kernel_rfl) (by kernel_rfl) (by kernel_rfl) (fun _ => rfl) (Nat.le_of_ble_eq_true (by kernel_rfl)) ?_; unfold Tryz.f159; simp only [Option.get!_some]
  repeat (first | (simp only [go_sem, Nat.reduceEqDiff, Nat.reduceAdd, Nat.reduceSub, Nat.reduceMul, Nat.reduceLeDiff, Nat.reduceLT, reduceIte, reduceCtorEq, Nat.succ_ne_zero, elemsC, Int.reduceToNat, Nat.reducePow]) | (simp (disch := (first | omega | (simp only [AL, List.length_map]; omega))) only [AR, AL, ifT, ifF, take_all, List.length_cons, List.length_nil, Int.reduceToNat, Int.reducePow, Nat.reducePow]) | (refine wk_intro (by kernel_rfl) ?_) | (refine vf_of (by first | exact o | exact f | exact o2) ?_))
theorem mul_p2_abs (z : Int) (w : Nat) : (z * ((2 ^ w : Nat) : Int)).natAbs = z.natAbs * 2 ^ w := by rw [Int.natAbs_mul, Int.natAbs_natCast]
theorem ref4_Num {v : SV} {q : Rat} {L w : Nat} (hv : RatA v q L) (hL1 : 1 ≤ L) (hL : L ≤ 100000) (hw : w ≤ 4096) : Go.Ev.Fn CX 60 [v, .int .i64 (w : Int)] (ivV (q.num * ((2 ^ w : Nat) : Int) / (q.den : Int)) (cdZ (q.num * ((2 ^ w : Nat) : Int)) q.den)) := by
  have n1 := ref2_Norm hv (by omega)
  obtain ⟨z1, z2⟩ := szR_of hv hL1
  have s1 := ref1_shl (N := q.num.natAbs) (m := w) (by omega) hw
  have l1 := lim_len_shl (a := q.num.natAbs) (n := w)
  have hP : 0 < 2 ^ w := Nat.pow_pos (by omega)
  have ea := mul_p2_abs q.num w
  have en : decide (q.num * ((2 ^ w : Nat) : Int) < 0) = decide (q.num < 0) := decide_eq_decide.2 ⟨fun h => by
      rcases Int.lt_or_le q.num 0 with g | g
      · exact g
      · have := Int.mul_nonneg g (Int.natCast_nonneg (2 ^ w)); omega, fun h => Int.mul_neg_of_neg_of_pos h (by omega)⟩
  have f := ref4_Fall (q.num * ((2 ^ w : Nat) : Int)) q.den q.den_nz (by rw [ea]; omega) (by omega)
  have r := ref4_Rise (q.num * ((2 ^ w : Nat) : Int)) q.den q.den_nz (by rw [ea]; omega) (by omega)
  unfold intV at f r
  rw [ea, en] at f r
  obtain ⟨s, n, d, rfl, -⟩ := hv
  generalize q.num * ((2 ^ w : Nat) : Int) / (q.den : Int) = x at *
  generalize cdZ (q.num * ((2 ^ w : Nat) : Int)) q.den = y at *
  generalize q.num.natAbs * 2 ^ w = u at *
  refine Go.Ev.Fn.intro (fn := Tryz.f60) (body := (Tryz.f60).body.get!) (by kernel_rfl) (by kernel_rfl) (by kernel_rfl) (fun _ => rfl) (Nat.le_of_ble_eq_true (by kernel_rfl)) ?_; unfold Tryz.f60; simp only [Option.get!_some]
  repeat (first | (simp only [go_sem, Nat.reduceEqDiff, Nat.reduceAdd, Nat.reduceSub, Nat.reduceMul, Nat.reduceLeDiff, Nat.reduceLT, reduceIte, reduceCtorEq, Nat.succ_ne_zero, elemsC, Int.reduceToNat, Nat.reducePow]) | (simp (disch := (first | omega | (simp only [AL, List.length_map]; omega))) only [AR, AL, ifT, ifF, take_all, List.length_cons, List.length_nil, Int.reduceToNat, Int.reducePow, Nat.reducePow]) | (refine wk_intro (by kernel_rfl) ?_) | (refine vp_draw (id := 2) (l := [12]) (by kernel_rfl) ?_) | (refine vp_draw (id := 3) (l := [18, 22]) (by kernel_rfl) ?_) | (refine vf_of (by first | exact n1 | exact s1 | exact f | exact r) ?_))
section
variable {a b c d : Int} (ha : (lim a.natAbs).length ≤ 100000) (hb : (lim b.natAbs).length ≤ 100000) (hc : (lim c.natAbs).length ≤ 100000) (hd : (lim d.natAbs).length ≤ 100000)
include ha hb
theorem ref4_Sum (hc : (lim c.natAbs).length ≤ 100000) (hd : (lim d.natAbs).length ≤ 100000) : Go.Ev.Fn CX 175 [ivV a b, ivV c d] (ivV (a + c) (b + d)) := by
  have s1 := ref4_Plus a c (by omega) (by omega)
  have s2 := ref4_Plus b d (by omega) (by omega)
  generalize a + c = x at *
  generalize b + d = y at *
  refine Go.Ev.Fn.intro (fn := Tryz.f175) (body := (Tryz.f175).body.get!) (by kernel_rfl) (by kernel_rfl) (by kernel_rfl) (fun _ => rfl) (Nat.le_of_ble_eq_true (by kernel_rfl)) ?_; unfold Tryz.f175; simp only [Option.get!_some]
  repeat (first | (simp only [go_sem, Nat.reduceEqDiff, Nat.reduceAdd, Nat.reduceSub, Nat.reduceMul, Nat.reduceLeDiff, Nat.reduceLT, reduceIte, reduceCtorEq, Nat.succ_ne_zero, elemsC, Int.reduceToNat, Nat.reducePow]) | (simp (disch := (first | omega | (simp only [AL, List.length_map]; omega))) only [AR, AL, ifT, ifF, take_all, List.length_cons, List.length_nil, Int.reduceToNat, Int.reducePow, Nat.reducePow]) | (refine wk_intro (by kernel_rfl) ?_) | (refine vp_draw (id := 1) (l := []) (by kernel_rfl) ?_) | (refine vf_of (by first | exact s1 | exact s2) ?_))
theorem ref4_Minus (hc : (lim c.natAbs).length ≤ 100000) (hd : (lim d.natAbs).length ≤ 100000) : Go.Ev.Fn CX 61 [ivV a b, ivV c d] (ivV (a - d) (b - c)) := by
  have o1 := ref4_Opp d (by omega)
  have o2 := ref4_Opp c (by omega)
  have s1 := ref4_Plus a (-d) (by omega) (by rw [Int.natAbs_neg]; omega)
  have s2 := ref4_Plus b (-c) (by omega) (by rw [Int.natAbs_neg]; omega)
  rw [← Int.sub_eq_add_neg] at s1 s2
  generalize a - d = x at *
  generalize b - c = y at *
  refine Go.Ev.Fn.intro (fn := Tryz.f61) (body := (Tryz.f61).body.get!) (by kernel_rfl) (by kernel_rfl) (by kernel_rfl) (fun _ => rfl) (Nat.le_of_ble_eq_true (by kernel_rfl)) ?_; unfold Tryz.f61; simp only [Option.get!_some]
  repeat (first | (simp only [go_sem, Nat.reduceEqDiff, Nat.reduceAdd, Nat.reduceSub, Nat.reduceMul, Nat.reduceLeDiff, Nat.reduceLT, reduceIte, reduceCtorEq, Nat.succ_ne_zero, elemsC, Int.reduceToNat, Nat.reducePow]) | (simp (disch := (first | omega | (simp only [AL, List.length_map]; omega))) only [AR, AL, ifT, ifF, take_all, List.length_cons, List.length_nil, Int.reduceToNat, Int.reducePow, Nat.reducePow]) | (refine wk_intro (by kernel_rfl) ?_) | (refine vp_draw (id := 1) (l := []) (by kernel_rfl) ?_) | (refine vf_of (by first | exact o1 | exact s1 | exact o2 | exact s2) ?_))
theorem ref4_Often (n : Int) (hn : -4294967296 < n ∧ n < 4294967296) : Go.Ev.Fn CX 155 [ivV a b, .int .i64 n] (ivV (a * n) (b * n)) := by
  have w := ref4_Whole n (by omega)
  have l : (lim n.natAbs).length ≤ 1 := lim_len_one (by omega)
  have s1 := ref4_Times a n (by omega) (by omega)
  have s2 := ref4_Times b n (by omega) (by omega)
  generalize a * n = x at *
  generalize b * n = y at *
  refine Go.Ev.Fn.intro (fn := Tryz.f155) (body := (Tryz.f155).body.get!) (by kernel_rfl) (by kernel_rfl) (by kernel_rfl) (fun _ => rfl) (Nat.le_of_ble_eq_true (by kernel_rfl)) ?_; unfold Tryz.f155; simp only [Option.get!_some]
  repeat (first | (simp only [go_sem, Nat.reduceEqDiff, Nat.reduceAdd, Nat.reduceSub, Nat.reduceMul, Nat.reduceLeDiff, Nat.reduceLT, reduceIte, reduceCtorEq, Nat.succ_ne_zero, elemsC, Int.reduceToNat, Nat.reducePow]) | (simp (disch := (first | omega | (simp only [AL, List.length_map]; omega))) only [AR, AL, ifT, ifF, take_all, List.length_cons, List.length_nil, Int.reduceToNat, Int.reducePow, Nat.reducePow]) | (refine wk_intro (by kernel_rfl) ?_) | (refine vp_draw (id := 1) (l := []) (by kernel_rfl) ?_) | (refine vf_of (by first | exact w | exact s1 | exact s2) ?_))
theorem ref4_By (n : Nat) (h0 : 0 < n) (hn : n < 9223372036854775808) : Go.Ev.Fn CX 174 [ivV a b, .int .i64 (n : Int)] (ivV (a / (n : Int)) (cdZ b n)) := by
  have o := ref1_Of n (by omega)
  have l : (lim n).length ≤ 2 := lim_len_lt (by omega)
  have f := ref4_Fall a n (by omega) (by omega) (by omega)
  have r := ref4_Rise b n (by omega) (by omega) (by omega)
  generalize a / (n : Int) = x at *
  generalize cdZ b n = y at *
  refine Go.Ev.Fn.intro (fn := Tryz.f174) (body := (Tryz.f174).body.get!) (by kernel_rfl) (by kernel_rfl) (by kernel_rfl) (fun _ => rfl) (Nat.le_of_ble_eq_true (by kernel_rfl)) ?_; unfold Tryz.f174; simp only [Option.get!_some]
  repeat (first | (simp only [go_sem, Nat.reduceEqDiff, Nat.reduceAdd, Nat.reduceSub, Nat.reduceMul, Nat.reduceLeDiff, Nat.reduceLT, reduceIte, reduceCtorEq, Nat.succ_ne_zero, elemsC, Int.reduceToNat, Nat.reducePow]) | (simp (disch := (first | omega | (simp only [AL, List.length_map]; omega))) only [AR, AL, ifT, ifF, take_all, List.length_cons, List.length_nil, Int.reduceToNat, Int.reducePow, Nat.reducePow]) | (refine wk_intro (by kernel_rfl) ?_) | (refine vp_draw (id := 2) (l := [5, 5]) (by kernel_rfl) ?_) | (refine vf_of (by first | exact o | exact f | exact r) ?_))
theorem ref4_Wide (n : Int) (hn : -4294967296 < n ∧ n < 4294967296) : Go.Ev.Fn CX 177 [ivV a b, .int .i64 n] (ivV (a - n) (b + n)) := by
  have w1 := ref4_Whole (-n) (by omega)
  have w2 := ref4_Whole n (by omega)
  have l : (lim n.natAbs).length ≤ 1 := lim_len_one (by omega)
  have s1 := ref4_Plus a (-n) (by omega) (by rw [Int.natAbs_neg]; omega)
  have s2 := ref4_Plus b n (by omega) (by omega)
  rw [← Int.sub_eq_add_neg] at s1
  have e0 : 0 - n = -n := by omega
  generalize a - n = x at *
  generalize b + n = y at *
  refine Go.Ev.Fn.intro (fn := Tryz.f177) (body := (Tryz.f177).body.get!) (by kernel_rfl) (by kernel_rfl) (by kernel_rfl) (fun _ => rfl) (Nat.le_of_ble_eq_true (by kernel_rfl)) ?_; unfold Tryz.f177; simp only [Option.get!_some]
  repeat (first | (simp only [go_sem, Nat.reduceEqDiff, Nat.reduceAdd, Nat.reduceSub, Nat.reduceMul, Nat.reduceLeDiff, Nat.reduceLT, reduceIte, reduceCtorEq, Nat.succ_ne_zero, elemsC, Int.reduceToNat, Nat.reducePow, e0]) | (simp (disch := (first | omega | (simp only [AL, List.length_map]; omega))) only [AR, AL, ifT, ifF, take_all, List.length_cons, List.length_nil, Int.reduceToNat, Int.reducePow, Nat.reducePow, e0]) | (refine wk_intro (by kernel_rfl) ?_) | (refine vp_draw (id := 1) (l := []) (by kernel_rfl) ?_) | (refine vf_of (by first | exact w1 | exact s1 | exact w2 | exact s2) ?_))
theorem ref4_Most : Go.Ev.Fn CX 176 [ivV a b] (intV ((max a.natAbs b.natAbs : Nat) : Int)) := by
  have c := ref4_Cmp (a.natAbs : Int) (b.natAbs : Int) (by rw [Int.natAbs_natCast]; exact ha) (by rw [Int.natAbs_natCast]; exact hb)
  have q : ∀ n : Nat, intV (n : Int) = .agg [.bool false, natV (lim n)] := fun n => iv_eq (Int.natAbs_natCast n) (decide_eq_false (by omega))
  rw [q, q] at c
  rw [q]
  by_cases h : b.natAbs < a.natAbs
  · have e : decide (cmpZ (a.natAbs : Int) (b.natAbs : Int) > 0) = true := decide_eq_true (by unfold cmpZ; rw [if_neg (by omega), if_neg (by omega)]; omega)
    rw [Nat.max_eq_left (by omega)]
    generalize cmpZ (a.natAbs : Int) (b.natAbs : Int) = z at *
    refine Go.Ev.Fn.intro (fn := Tryz.f176) (body := (Tryz.f176).body.get!) (by kernel_rfl) (by kernel_rfl) (by kernel_rfl) (fun _ => rfl) (Nat.le_of_ble_eq_true (by kernel_rfl)) ?_; unfold Tryz.f176; simp only [Option.get!_some]
    repeat (first | (simp only [go_sem, Nat.reduceEqDiff, Nat.reduceAdd, Nat.reduceSub, Nat.reduceMul, Nat.reduceLeDiff, Nat.reduceLT, reduceIte, reduceCtorEq, Nat.succ_ne_zero, elemsC, Int.reduceToNat, Nat.reducePow, e]) | (simp (disch := (first | omega | (simp only [AL, List.length_map]; omega))) only [AR, AL, ifT, ifF, take_all, List.length_cons, List.length_nil, Int.reduceToNat, Int.reducePow, Nat.reducePow, e]) | (refine wk_intro (by kernel_rfl) ?_) | (refine vp_draw (id := 1) (l := []) (by kernel_rfl) ?_) | (refine vf_of (by first | exact c) ?_))
  · have e : decide (cmpZ (a.natAbs : Int) (b.natAbs : Int) > 0) = false := decide_eq_false (by unfold cmpZ; split <;> (try split) <;> omega)
    rw [Nat.max_eq_right (by omega)]
    generalize cmpZ (a.natAbs : Int) (b.natAbs : Int) = z at *
    refine Go.Ev.Fn.intro (fn := Tryz.f176) (body := (Tryz.f176).body.get!) (by kernel_rfl) (by kernel_rfl) (by kernel_rfl) (fun _ => rfl) (Nat.le_of_ble_eq_true (by kernel_rfl)) ?_; unfold Tryz.f176; simp only [Option.get!_some]
    repeat (first | (simp only [go_sem, Nat.reduceEqDiff, Nat.reduceAdd, Nat.reduceSub, Nat.reduceMul, Nat.reduceLeDiff, Nat.reduceLT, reduceIte, reduceCtorEq, Nat.succ_ne_zero, elemsC, Int.reduceToNat, Nat.reducePow, e]) | (simp (disch := (first | omega | (simp only [AL, List.length_map]; omega))) only [AR, AL, ifT, ifF, take_all, List.length_cons, List.length_nil, Int.reduceToNat, Int.reducePow, Nat.reducePow, e]) | (refine wk_intro (by kernel_rfl) ?_) | (refine vp_draw (id := 1) (l := []) (by kernel_rfl) ?_) | (refine vf_of (by first | exact c) ?_))
theorem ref4_Back (n : Nat) (hn : n ≤ 4096) (h0 : 0 < n) : Go.Ev.Fn CX 91 [ivV a b, .int .i64 (n : Int)] (ivV (a / ((2 ^ n : Nat) : Int)) (cdZ b (2 ^ n))) := by
  have s1 := ref4_Less a n ha hn h0
  have s2 := ref4_More b n hb hn h0
  generalize a / ((2 ^ n : Nat) : Int) = x at *
  generalize cdZ b (2 ^ n) = y at *
  refine Go.Ev.Fn.intro (fn := Tryz.f91) (body := (Tryz.f91).body.get!) (by kernel_rfl) (by kernel_rfl) (by kernel_rfl) (fun _ => rfl) (Nat.le_of_ble_eq_true (by kernel_rfl)) ?_; unfold Tryz.f91; simp only [Option.get!_some]
  repeat (first | (simp only [go_sem, Nat.reduceEqDiff, Nat.reduceAdd, Nat.reduceSub, Nat.reduceMul, Nat.reduceLeDiff, Nat.reduceLT, reduceIte, reduceCtorEq, Nat.succ_ne_zero, elemsC, Int.reduceToNat, Nat.reducePow]) | (simp (disch := (first | omega | (simp only [AL, List.length_map]; omega))) only [AR, AL, ifT, ifF, take_all, List.length_cons, List.length_nil, Int.reduceToNat, Int.reducePow, Nat.reducePow]) | (refine wk_intro (by kernel_rfl) ?_) | (refine vp_draw (id := 1) (l := []) (by kernel_rfl) ?_) | (refine vf_of (by first | exact s1 | exact s2) ?_))
omit hb in
theorem ref4_Rat (w : Nat) (hw : w ≤ 4096) : Go.Ev.Fn CX 87 [intV a, .int .i64 (w : Int)] (rv (mkRat a (2 ^ w))) := by
  have p := ref4_pow2 (n := w) hw
  have l := lim_len_shl (a := 1) (n := w)
  have l1 := lim_len1
  rw [Nat.one_mul] at l
  have o := ref2_OfL (s := decide (a < 0)) (n := a.natAbs) (d := 2 ^ w) (by omega) (by omega)
  rw [sgn_self] at o
  generalize 2 ^ w = D at *
  refine Go.Ev.Fn.intro (fn := Tryz.f87) (body := (Tryz.f87).body.get!) (by kernel_rfl) (by kernel_rfl) (by kernel_rfl) (fun _ => rfl) (Nat.le_of_ble_eq_true (by kernel_rfl)) ?_; unfold Tryz.f87; simp only [Option.get!_some]
  repeat (first | (simp only [go_sem, Nat.reduceEqDiff, Nat.reduceAdd, Nat.reduceSub, Nat.reduceMul, Nat.reduceLeDiff, Nat.reduceLT, reduceIte, reduceCtorEq, Nat.succ_ne_zero, elemsC, Int.reduceToNat, Nat.reducePow]) | (simp (disch := (first | omega | (simp only [AL, List.length_map]; omega))) only [AR, AL, ifT, ifF, take_all, List.length_cons, List.length_nil, Int.reduceToNat, Int.reducePow, Nat.reducePow]) | (refine wk_intro (by kernel_rfl) ?_) | (refine vp_draw (id := 1) (l := [8, 10]) (by kernel_rfl) ?_) | (refine vf_of (by first | exact p | exact o) ?_))
theorem ref4_Ball (w : Nat) (hw : w ≤ 4096) : Go.Ev.Fn CX 44 [ivV a b, .int .i64 (w : Int)] (ballR (mkRat a (2 ^ w)) (mkRat b (2 ^ w))) := by
  have s1 := ref4_Rat ha w hw
  have s2 := ref4_Rat hb w hw
  generalize mkRat a (2 ^ w) = x at *
  generalize mkRat b (2 ^ w) = y at *
  refine Go.Ev.Fn.intro (fn := Tryz.f44) (body := (Tryz.f44).body.get!) (by kernel_rfl) (by kernel_rfl) (by kernel_rfl) (fun _ => rfl) (Nat.le_of_ble_eq_true (by kernel_rfl)) ?_; unfold Tryz.f44; simp only [Option.get!_some]
  repeat (first | (simp only [go_sem, Nat.reduceEqDiff, Nat.reduceAdd, Nat.reduceSub, Nat.reduceMul, Nat.reduceLeDiff, Nat.reduceLT, reduceIte, reduceCtorEq, Nat.succ_ne_zero, elemsC, Int.reduceToNat, Nat.reducePow]) | (simp (disch := (first | omega | (simp only [AL, List.length_map]; omega))) only [AR, AL, ifT, ifF, take_all, List.length_cons, List.length_nil, Int.reduceToNat, Int.reducePow, Nat.reducePow]) | (refine wk_intro (by kernel_rfl) ?_) | (refine vp_draw (id := 1) (l := []) (by kernel_rfl) ?_) | (refine vf_of (by first | exact s1 | exact s2) ?_))
end
end Go.Proofs.YthbjgdmcnonofaaGreat

/- What lies between two naturals by a power of two: plain mathematics, no program. -/
namespace Go.Proofs.YthbjgdmcnonofaaGreat
open Go.Ev
abbrev p2 (w : Nat) : Rat := ((2 ^ w : Nat) : Rat)
theorem p2_pos (w : Nat) : 0 < p2 w := by
  have : 0 < 2 ^ w := Nat.pow_pos (by omega)
  exact_mod_cast this
/-- A number q that is not below 0 lies between a and b, by 2 to the power w. -/
def Enc (w a b : Nat) (q : Rat) : Prop := (a : Rat) ≤ q * p2 w ∧ q * p2 w ≤ (b : Rat)
theorem floor_le {a d : Nat} : ((a / d : Nat) : Rat) * (d : Rat) ≤ (a : Rat) := by
  have := Nat.div_mul_le_self a d
  exact_mod_cast this
theorem le_floor {a d : Nat} (hd : 0 < d) : (a : Rat) ≤ ((a / d + 1 : Nat) : Rat) * (d : Rat) := by
  have h2 : a ≤ (a / d + 1) * d := by
    have := Nat.div_add_mod a d
    have h3 := Nat.mod_lt a hd
    rw [Nat.add_mul, Nat.one_mul, Nat.mul_comm]
    omega
  exact_mod_cast h2
theorem enc_add {w a b c d : Nat} {q r : Rat} (h1 : Enc w a b q) (h2 : Enc w c d r) : Enc w (a + c) (b + d) (q + r) := by
  obtain ⟨x1, x2⟩ := h1
  obtain ⟨y1, y2⟩ := h2
  have e1 : ((a + c : Nat) : Rat) = (a : Rat) + (c : Rat) := by exact_mod_cast rfl
  have e2 : ((b + d : Nat) : Rat) = (b : Rat) + (d : Rat) := by exact_mod_cast rfl
  unfold Enc
  rw [e1, e2]
  constructor <;> grind
theorem enc_wider {w a b n : Nat} {q : Rat} (h : Enc w a b q) : Enc w a (b + n) q := by
  obtain ⟨x1, x2⟩ := h
  refine ⟨x1, Rat.le_trans x2 ?_⟩
  have : b ≤ b + n := Nat.le_add_right _ _
  exact_mod_cast this
theorem enc_nonneg {w a b : Nat} {q : Rat} (h : Enc w a b q) : 0 ≤ q := by
  have h0 : (0 : Rat) ≤ (a : Rat) := by exact_mod_cast Nat.zero_le a
  have h1 : 0 ≤ q * p2 w := Rat.le_trans h0 h.1
  rcases Rat.le_total (a := 0) (b := q) with h2 | h2
  · exact h2
  · by_cases e : q = 0
    · rw [e]; exact Rat.le_refl
    · have : q * p2 w < 0 := by
        have h3 : 0 < (-q) * p2 w := Rat.mul_pos (by grind) (p2_pos w)
        grind
      grind
theorem le_by {x y c : Rat} (hc : 0 < c) (h : x * c ≤ y * c) : x ≤ y := by
  rcases Rat.le_total (a := x) (b := y) with h1 | h1
  · exact h1
  · have h2 := Rat.mul_le_mul_of_nonneg_right h1 (by grind : (0 : Rat) ≤ c)
    have h3 : (x - y) * c = 0 := by grind
    rcases Rat.mul_eq_zero.1 h3 with h4 | h4 <;> grind
theorem mul_le {a b c d : Rat} (h1 : a ≤ b) (h2 : c ≤ d) (hb : 0 ≤ b) (hc : 0 ≤ c) : a * c ≤ b * d :=
  Rat.le_trans (Rat.mul_le_mul_of_nonneg_right h1 hc) (Rat.mul_le_mul_of_nonneg_left h2 hb)
theorem nat_nonneg (a : Nat) : (0 : Rat) ≤ (a : Rat) := by exact_mod_cast Nat.zero_le a
theorem enc_mul {w a b c d : Nat} {q r : Rat} (h1 : Enc w a b q) (h2 : Enc w c d r) : Enc w (a * c / 2 ^ w) (b * d / 2 ^ w + 1) (q * r) := by
  have hq := enc_nonneg h1
  have P := p2_pos w
  obtain ⟨x1, x2⟩ := h1
  have hr := enc_nonneg h2
  obtain ⟨y1, y2⟩ := h2
  have f := floor_le (a := a * c) (d := 2 ^ w)
  have g := le_floor (a := b * d) (d := 2 ^ w) (Nat.pow_pos (by omega))
  have e1 : ((a * c : Nat) : Rat) = (a : Rat) * (c : Rat) := by exact_mod_cast rfl
  have e2 : ((b * d : Nat) : Rat) = (b : Rat) * (d : Rat) := by exact_mod_cast rfl
  have m1 := mul_le x1 y1 (Rat.le_trans (nat_nonneg a) x1) (nat_nonneg c)
  have m2 := mul_le x2 y2 (nat_nonneg b) (Rat.le_trans (nat_nonneg c) y1)
  refine ⟨le_by P ?_, le_by P ?_⟩
  · rw [e1] at f
    show ((a * c / 2 ^ w : Nat) : Rat) * p2 w ≤ _
    have : q * r * p2 w * p2 w = q * p2 w * (r * p2 w) := by grind
    rw [this]
    exact Rat.le_trans f m1
  · rw [e2] at g
    have : q * r * p2 w * p2 w = q * p2 w * (r * p2 w) := by grind
    rw [this]
    exact Rat.le_trans m2 g
theorem enc_times {w a b n d : Nat} {q : Rat} (hd : 0 < d) (h : Enc w a b q) : Enc w (a * n / d) (b * n / d + 1) (q * (n : Rat) / (d : Rat)) := by
  obtain ⟨x1, x2⟩ := h
  have D : (0 : Rat) < (d : Rat) := by exact_mod_cast hd
  have Dn : (d : Rat) ≠ 0 := by grind
  have f := floor_le (a := a * n) (d := d)
  have g := le_floor (a := b * n) (d := d) hd
  have e1 : ((a * n : Nat) : Rat) = (a : Rat) * (n : Rat) := by exact_mod_cast rfl
  have e2 : ((b * n : Nat) : Rat) = (b : Rat) * (n : Rat) := by exact_mod_cast rfl
  have m1 := Rat.mul_le_mul_of_nonneg_right x1 (nat_nonneg n)
  have m2 := Rat.mul_le_mul_of_nonneg_right x2 (nat_nonneg n)
  have c : q * (n : Rat) / (d : Rat) * p2 w * (d : Rat) = q * p2 w * (n : Rat) := by
    have := Rat.div_mul_cancel (a := q * (n : Rat)) Dn
    have h2 : q * (n : Rat) / (d : Rat) * p2 w * (d : Rat) = q * (n : Rat) / (d : Rat) * (d : Rat) * p2 w := by grind
    rw [h2, this]
    grind
  refine ⟨le_by D ?_, le_by D ?_⟩
  · rw [e1] at f
    rw [c]
    exact Rat.le_trans f m1
  · rw [e2] at g
    rw [c]
    exact Rat.le_trans m2 g
end Go.Proofs.YthbjgdmcnonofaaGreat

/- vernierref2.Is; vernierref4: Of, Is, Width, Bit, Hold, Side, Good, Same, in the evaluator. -/
namespace Go.Proofs.YthbjgdmcnonofaaGreat
set_option linter.unusedSimpArgs false
set_option linter.unusedVariables false
set_option maxRecDepth 8000
open Go.Ev
theorem beq_true_self (b : Bool) : (b == b) = true := by cases b <;> rfl
theorem ref2_Is {q : Rat} {L : Nat} (hq : szR q L) (hL : L ≤ 1000000) : Go.Ev.Fn CX 85 [rv q] (.bool true) := by
  have n1 := ref2_Norm (RatA_rv hq) (by omega)
  have l1 := ref2_limbs (lim q.num.natAbs) (lim q.num.natAbs) (by have := hq.1; omega) (by have := hq.1; omega)
  have l2 := ref2_limbs (lim q.den) (lim q.den) (by have := hq.2; omega) (by have := hq.2; omega)
  rw [decide_eq_true rfl] at l1 l2
  have hb := beq_true_self (decide (q.num < 0))
  refine Go.Ev.Fn.intro (fn := Tryz.f85) (body := (Tryz.f85).body.get!) (by kernel_rfl) (by kernel_rfl) (by kernel_rfl) (fun _ => rfl) (Nat.le_of_ble_eq_true (by kernel_rfl)) ?_; unfold Tryz.f85; simp only [Option.get!_some]
  repeat (first | (simp only [go_sem, Nat.reduceEqDiff, Nat.reduceAdd, Nat.reduceSub, Nat.reduceMul, Nat.reduceLeDiff, Nat.reduceLT, reduceIte, reduceCtorEq, Nat.succ_ne_zero, elemsC, Int.reduceToNat, Nat.reducePow, hb]) | (simp (disch := (first | omega | (simp only [AL, List.length_map]; omega))) only [AR, AL, ifT, ifF, take_all, List.length_cons, List.length_nil, Int.reduceToNat, Int.reducePow, Nat.reducePow, hb]) | (refine wk_intro (by kernel_rfl) ?_) | (refine vf_of (by first | exact n1 | exact l1 | exact l2) ?_))
theorem ref4_Of {v : SV} {q : Rat} {L : Nat} (hv : RatA v q L) (hL : L ≤ 1000000) : Go.Ev.Fn CX 10 [v] (ballR q q) := by
  have n1 := ref2_Norm hv (by omega)
  obtain ⟨s, n, d, rfl, -⟩ := hv
  refine Go.Ev.Fn.intro (fn := Tryz.f10) (body := (Tryz.f10).body.get!) (by kernel_rfl) (by kernel_rfl) (by kernel_rfl) (fun _ => rfl) (Nat.le_of_ble_eq_true (by kernel_rfl)) ?_; unfold Tryz.f10; simp only [Option.get!_some]
  repeat (first | (simp only [go_sem, Nat.reduceEqDiff, Nat.reduceAdd, Nat.reduceSub, Nat.reduceMul, Nat.reduceLeDiff, Nat.reduceLT, reduceIte, reduceCtorEq, Nat.succ_ne_zero, elemsC, Int.reduceToNat, Nat.reducePow]) | (simp (disch := (first | omega | (simp only [AL, List.length_map]; omega))) only [AR, AL, ifT, ifF, take_all, List.length_cons, List.length_nil, Int.reduceToNat, Int.reducePow, Nat.reducePow]) | (refine wk_intro (by kernel_rfl) ?_) | (refine vp_draw (id := 1) (l := []) (by kernel_rfl) ?_) | (refine vf_of (by first | exact n1) ?_))
section
variable {a b c d : Rat} {L M : Nat}
theorem ref4_Is (ha : szR a L) (hb : szR b L) (hL1 : 1 ≤ L) (hL : L ≤ 100000) (h : a ≤ b) : Go.Ev.Fn CX 38 [ballR a b] (.bool true) := by
  have i1 := ref2_Is ha (by omega)
  have i2 := ref2_Is hb (by omega)
  have c1 := ref2_Cmp (RatA_rv ha) (RatA_rv hb) hL1 hL1 (by omega)
  have e1 : decide (cmpR a b ≤ 0) = true := by rw [cmpR_le]; exact decide_eq_true h
  generalize cmpR a b = z at *
  refine Go.Ev.Fn.intro (fn := Tryz.f38) (body := (Tryz.f38).body.get!) (by kernel_rfl) (by kernel_rfl) (by kernel_rfl) (fun _ => rfl) (Nat.le_of_ble_eq_true (by kernel_rfl)) ?_; unfold Tryz.f38; simp only [Option.get!_some]
  repeat (first | (simp only [go_sem, Nat.reduceEqDiff, Nat.reduceAdd, Nat.reduceSub, Nat.reduceMul, Nat.reduceLeDiff, Nat.reduceLT, reduceIte, reduceCtorEq, Nat.succ_ne_zero, elemsC, Int.reduceToNat, Nat.reducePow, e1]) | (simp (disch := (first | omega | (simp only [AL, List.length_map]; omega))) only [AR, AL, ifT, ifF, take_all, List.length_cons, List.length_nil, Int.reduceToNat, Int.reducePow, Nat.reducePow, e1]) | (refine wk_intro (by kernel_rfl) ?_) | (refine vf_of (by first | exact i1 | exact i2 | exact c1) ?_))
theorem ref4_Width (ha : szR a L) (hb : szR b L) (hL1 : 1 ≤ L) (hL : L ≤ 100000) : Go.Ev.Fn CX 40 [ballR a b] (rv (b - a)) := by
  have s := ref2_Sub (RatA_rv hb) (RatA_rv ha) hL1 hL1 (by omega)
  refine Go.Ev.Fn.intro (fn := Tryz.f40) (body := (Tryz.f40).body.get!) (by kernel_rfl) (by kernel_rfl) (by kernel_rfl) (fun _ => rfl) (Nat.le_of_ble_eq_true (by kernel_rfl)) ?_; unfold Tryz.f40; simp only [Option.get!_some]
  repeat (first | (simp only [go_sem, Nat.reduceEqDiff, Nat.reduceAdd, Nat.reduceSub, Nat.reduceMul, Nat.reduceLeDiff, Nat.reduceLT, reduceIte, reduceCtorEq, Nat.succ_ne_zero, elemsC, Int.reduceToNat, Nat.reducePow]) | (simp (disch := (first | omega | (simp only [AL, List.length_map]; omega))) only [AR, AL, ifT, ifF, take_all, List.length_cons, List.length_nil, Int.reduceToNat, Int.reducePow, Nat.reducePow]) | (refine wk_intro (by kernel_rfl) ?_) | (refine vf_of (by first | exact s) ?_))
theorem ref4_Bit {p : Nat} (hp : p ≤ 512) : Go.Ev.Fn CX 41 [.int .i64 (p : Int)] (rv (mkRat 1 (2 ^ p))) := by
  have s := ref1_shl (N := 1) (m := p) (by rw [lim_one]; simp) (by omega)
  rw [Nat.one_mul, lim_one] at s
  have l := lim_len_shl (a := 1) (n := p)
  have l1 := lim_len1
  rw [Nat.one_mul] at l
  have o := ref2_OfL (s := false) (n := 1) (d := 2 ^ p) (by omega) (by omega)
  rw [lim_one, show sgn false 1 = 1 from rfl] at o
  generalize mkRat 1 (2 ^ p) = r at *
  generalize 2 ^ p = P at *
  refine Go.Ev.Fn.intro (fn := Tryz.f41) (body := (Tryz.f41).body.get!) (by kernel_rfl) (by kernel_rfl) (by kernel_rfl) (fun _ => rfl) (Nat.le_of_ble_eq_true (by kernel_rfl)) ?_; unfold Tryz.f41; simp only [Option.get!_some]
  repeat (first | (simp only [go_sem, Nat.reduceEqDiff, Nat.reduceAdd, Nat.reduceSub, Nat.reduceMul, Nat.reduceLeDiff, Nat.reduceLT, reduceIte, reduceCtorEq, Nat.succ_ne_zero, elemsC, Int.reduceToNat, Nat.reducePow]) | (simp (disch := (first | omega | (simp only [AL, List.length_map]; omega))) only [AR, AL, ifT, ifF, take_all, List.length_cons, List.length_nil, Int.reduceToNat, Int.reducePow, Nat.reducePow]) | (refine wk_intro (by kernel_rfl) ?_) | (refine vf_of (by first | exact s | exact o) ?_))
theorem ref4_Hold {p : Int} {P : Nat} (h : (p ≤ 0 ∧ P = 0) ∨ p = (P : Int)) (hP : P ≤ 512) : Go.Ev.Fn CX 42 [.int .i64 p] (.int .i64 (P : Int)) := by
  have e1 : (if (0 : Int) > p then (0 : Int) else p) = (P : Int) := by split <;> omega
  have e2 : (if (512 : Int) < (P : Int) then (512 : Int) else (P : Int)) = (P : Int) := if_neg (by omega)
  refine Go.Ev.Fn.intro (fn := Tryz.f42) (body := (Tryz.f42).body.get!) (by kernel_rfl) (by kernel_rfl) (by kernel_rfl) (fun _ => rfl) (Nat.le_of_ble_eq_true (by kernel_rfl)) ?_; unfold Tryz.f42; simp only [Option.get!_some]
  repeat (first | (simp only [go_sem, Nat.reduceEqDiff, Nat.reduceAdd, Nat.reduceSub, Nat.reduceMul, Nat.reduceLeDiff, Nat.reduceLT, reduceIte, reduceCtorEq, Nat.succ_ne_zero, elemsC, Int.reduceToNat, Nat.reducePow, e1, e2]) | (simp (disch := (first | omega | (simp only [AL, List.length_map]; omega))) only [AR, AL, ifT, ifF, take_all, List.length_cons, List.length_nil, Int.reduceToNat, Int.reducePow, Nat.reducePow, e1, e2]) | (refine wk_intro (by kernel_rfl) ?_))
theorem ref4_Side0 (ha : szR a L) (hb : szR b L) (hc : szR c M) (hd : szR d M) (hL1 : 1 ≤ L) (hM1 : 1 ≤ M) (hL : L + M ≤ 100000) (h1 : c ≤ b) (h2 : a ≤ d) : Go.Ev.Fn CX 43 [ballR a b, ballR c d] (.int .i64 0) := by
  have c1 := ref2_Cmp (RatA_rv hb) (RatA_rv hc) hL1 hM1 (by omega)
  have c2 := ref2_Cmp (RatA_rv ha) (RatA_rv hd) hL1 hM1 (by omega)
  have e1 : decide (cmpR b c < 0) = false := by rw [cmpR_lt]; exact decide_eq_false (by grind)
  have e2 : decide (cmpR a d > 0) = false := by rw [cmpR_gt]; exact decide_eq_false (by grind)
  generalize cmpR b c = z1 at *
  generalize cmpR a d = z2 at *
  refine Go.Ev.Fn.intro (fn := Tryz.f43) (body := (Tryz.f43).body.get!) (by kernel_rfl) (by kernel_rfl) (by kernel_rfl) (fun _ => rfl) (Nat.le_of_ble_eq_true (by kernel_rfl)) ?_; unfold Tryz.f43; simp only [Option.get!_some]
  repeat (first | (simp only [go_sem, Nat.reduceEqDiff, Nat.reduceAdd, Nat.reduceSub, Nat.reduceMul, Nat.reduceLeDiff, Nat.reduceLT, reduceIte, reduceCtorEq, Nat.succ_ne_zero, elemsC, Int.reduceToNat, Nat.reducePow, e1, e2]) | (simp (disch := (first | omega | (simp only [AL, List.length_map]; omega))) only [AR, AL, ifT, ifF, take_all, List.length_cons, List.length_nil, Int.reduceToNat, Int.reducePow, Nat.reducePow, e1, e2]) | (refine wk_intro (by kernel_rfl) ?_) | (refine vf_of (by first | exact c1 | exact c2) ?_))
/-- A ball that is narrow, and meets another one, is good. -/
theorem ref4_Good {p : Int} {P : Nat} (hp : (p ≤ 0 ∧ P = 0) ∨ p = (P : Int)) (hP : P ≤ 512) (ha : szR a L) (hb : szR b L) (hc : szR c M) (hd : szR d M) (hL1 : 1 ≤ L) (hM1 : 1 ≤ M) (hL : L + M ≤ 40000) (h0 : a ≤ b) (h1 : c ≤ b) (h2 : a ≤ d) (hw : (b - a) * p2 P ≤ 1) :
    Go.Ev.Fn CX 12 [ballR a b, ballR c d, .int .i64 p] (.bool true) := by
  have i := ref4_Is ha hb hL1 (by omega) h0
  have w := ref4_Width ha hb hL1 (by omega)
  have hh := ref4_Hold hp hP
  have bt := ref4_Bit hP
  have l := lim_len_shl (a := 1) (n := P)
  have l1 := lim_len1
  rw [Nat.one_mul] at l
  have zb : szR (mkRat 1 (2 ^ P)) 20 := szR_mk (s := false) (n := 1) (d := 2 ^ P) (by omega) (by omega) (by omega)
  have zw := szR_sub hb ha hL1
  have c1 := ref2_Cmp (RatA_rv zw) (RatA_rv zb) (by omega) (by omega) (by omega)
  have e0 : b - a ≤ mkRat 1 (2 ^ P) := by
    refine le_by (p2_pos P) ?_
    have : mkRat 1 (2 ^ P) * p2 P = 1 := by
      rw [Rat.mkRat_eq_div]
      exact Rat.div_mul_cancel (by have : (0 : Rat) < p2 P := p2_pos P; grind)
    rw [this]; exact hw
  have e1 : decide (cmpR (b - a) (mkRat 1 (2 ^ P)) ≤ 0) = true := by rw [cmpR_le]; exact decide_eq_true e0
  have sd := ref4_Side0 ha hb hc hd hL1 hM1 (by omega) h1 h2
  generalize cmpR (b - a) (mkRat 1 (2 ^ P)) = z at *
  generalize mkRat 1 (2 ^ P) = r at *
  generalize b - a = x at *
  refine Go.Ev.Fn.intro (fn := Tryz.f12) (body := (Tryz.f12).body.get!) (by kernel_rfl) (by kernel_rfl) (by kernel_rfl) (fun _ => rfl) (Nat.le_of_ble_eq_true (by kernel_rfl)) ?_; unfold Tryz.f12; simp only [Option.get!_some]
  repeat (first | (simp only [go_sem, Nat.reduceEqDiff, Nat.reduceAdd, Nat.reduceSub, Nat.reduceMul, Nat.reduceLeDiff, Nat.reduceLT, reduceIte, reduceCtorEq, Nat.succ_ne_zero, elemsC, Int.reduceToNat, Nat.reducePow, e1]) | (simp (disch := (first | omega | (simp only [AL, List.length_map]; omega))) only [AR, AL, ifT, ifF, take_all, List.length_cons, List.length_nil, Int.reduceToNat, Int.reducePow, Nat.reducePow, e1]) | (refine wk_intro (by kernel_rfl) ?_) | (refine vf_of (by first | exact i | exact w | exact hh | exact bt | exact c1 | exact sd) ?_))
theorem ref4_Same (ha : szR a L) (hb : szR b L) (hL1 : 1 ≤ L) (hL : L ≤ 100000) : Go.Ev.Fn CX 9 [ballR a b, ballR a b] (.bool true) := by
  have s1 := ref2_Same (RatA_rv ha) (RatA_rv ha) hL1 hL1 (by omega)
  have s2 := ref2_Same (RatA_rv hb) (RatA_rv hb) hL1 hL1 (by omega)
  rw [decide_eq_true rfl] at s1 s2
  refine Go.Ev.Fn.intro (fn := Tryz.f9) (body := (Tryz.f9).body.get!) (by kernel_rfl) (by kernel_rfl) (by kernel_rfl) (fun _ => rfl) (Nat.le_of_ble_eq_true (by kernel_rfl)) ?_; unfold Tryz.f9; simp only [Option.get!_some]
  repeat (first | (simp only [go_sem, Nat.reduceEqDiff, Nat.reduceAdd, Nat.reduceSub, Nat.reduceMul, Nat.reduceLeDiff, Nat.reduceLT, reduceIte, reduceCtorEq, Nat.succ_ne_zero, elemsC, Int.reduceToNat, Nat.reducePow]) | (simp (disch := (first | omega | (simp only [AL, List.length_map]; omega))) only [AR, AL, ifT, ifF, take_all, List.length_cons, List.length_nil, Int.reduceToNat, Int.reducePow, Nat.reducePow]) | (refine wk_intro (by kernel_rfl) ?_) | (refine vf_of (by first | exact s1 | exact s2) ?_))
end
end Go.Proofs.YthbjgdmcnonofaaGreat

/- fix.Shift, in the evaluator. -/
namespace Go.Proofs.YthbjgdmcnonofaaGreat
set_option linter.unusedSimpArgs false
set_option linter.unusedVariables false
set_option maxRecDepth 8000
open Go.Ev
theorem nat_shl {N m : Nat} (h : (lim N).length ≤ 1073741824) (hm : m ≤ 4096) : Go.Ev.Fn CX 144 [natV (lim N), .int .i64 (m : Int)] (natV (lim (N * 2 ^ m))) := by
  have := shift_up (lim N) m (okL_lim _) h _ rfl hm
  rwa [wth_lim] at this
theorem nat_shr {N m : Nat} (h : (lim N).length ≤ 1073741824) (hm : m ≤ 4096) (h0 : 0 < m) : Go.Ev.Fn CX 144 [natV (lim N), .int .i64 (-(m : Int))] (natV (lim (N / 2 ^ m))) := by
  have := shift_down (lim N) m (okL_lim _) h _ rfl hm h0
  rwa [wth_lim] at this
theorem fix_shl {a m : Nat} (ha : (lim a).length ≤ 100000) (hm : m ≤ 100000) : Go.Ev.Fn CX 97 [natV (lim a), .int .i64 (m : Int)] (natV (lim (a * 2 ^ m))) := by
  have hl := fun j => lim_len_shl (a := a) (n := j)
  refine Go.Ev.Fn.intro (fn := Tryz.f97) (body := (Tryz.f97).body.get!) (by kernel_rfl) (by kernel_rfl) (by kernel_rfl) (fun _ => rfl) (Nat.le_of_ble_eq_true (by kernel_rfl)) ?_; unfold Tryz.f97; simp only [Option.get!_some]
  repeat (first | (simp only [go_sem, Nat.reduceEqDiff, Nat.reduceAdd, Nat.reduceSub, Nat.reduceMul, Nat.reduceLeDiff, Nat.reduceLT, reduceIte, reduceCtorEq, Nat.succ_ne_zero, elemsC, Int.reduceToNat, Nat.reducePow]) | (simp (disch := (first | omega | (simp only [AL, List.length_map]; omega))) only [AR, AL, ifT, ifF, take_all, List.length_cons, List.length_nil, Int.reduceToNat, Int.reducePow, Nat.reducePow]) | (refine wk_intro (by kernel_rfl) ?_))
  refine vp_loop_inv (fun s => ∃ j : Nat, j ≤ m ∧ s.tmp 0 = .sv (natV (lim (a * 2 ^ j))) ∧ s.tmp 1 = .sv (.int .i64 ((m - j : Nat) : Int)))
    (fun s => match s.tmp 1 with | .sv (.int _ i) => i.toNat | _ => 0) ⟨0, by omega, by rw [Nat.pow_zero, Nat.mul_one]; rfl, rfl⟩ ?_
  rintro s ⟨j, hj, i0, i1⟩
  have hlj := hl j
  by_cases hc : 1024 < m - j
  · obtain ⟨K, hK⟩ : ∃ K : Nat, K = 1024 := ⟨_, rfl⟩
    have st := nat_shl (N := a * 2 ^ j) (m := K) (by omega) (by omega)
    rw [Nat.mul_assoc, ← Nat.pow_add] at st
    generalize hx : a * 2 ^ j = x at *
    generalize hy : a * 2 ^ (j + K) = y at *
    rw [show (K : Int) = 1024 by omega] at st
    repeat (first | (simp only [go_sem, Nat.reduceEqDiff, Nat.reduceAdd, Nat.reduceSub, Nat.reduceMul, Nat.reduceLeDiff, Nat.reduceLT, reduceIte, reduceCtorEq, Nat.succ_ne_zero, elemsC, Int.reduceToNat, Nat.reducePow, i0, i1]) | (simp (disch := (first | omega | (simp only [AL, List.length_map]; omega))) only [AR, AL, ifT, ifF, take_all, List.length_cons, List.length_nil, Int.reduceToNat, Int.reducePow, Nat.reducePow, i0, i1]) | (refine wk_intro (by kernel_rfl) ?_) | (refine vf_of (by first | exact st) ?_))
    exact ⟨⟨j + K, by omega, by rw [hy], by rw [show ((m - (j + K) : Nat) : Int) = ((m - j : Nat) : Int) - 1024 by omega]⟩, by omega⟩
  · have st := nat_shl (N := a * 2 ^ j) (m := m - j) (by omega) (by omega)
    rw [Nat.mul_assoc, ← Nat.pow_add, show j + (m - j) = m by omega] at st
    generalize a * 2 ^ j = x at *
    generalize a * 2 ^ m = y at *
    repeat (first | (simp only [go_sem, Nat.reduceEqDiff, Nat.reduceAdd, Nat.reduceSub, Nat.reduceMul, Nat.reduceLeDiff, Nat.reduceLT, reduceIte, reduceCtorEq, Nat.succ_ne_zero, elemsC, Int.reduceToNat, Nat.reducePow, i0, i1]) | (simp (disch := (first | omega | (simp only [AL, List.length_map]; omega))) only [AR, AL, ifT, ifF, take_all, List.length_cons, List.length_nil, Int.reduceToNat, Int.reducePow, Nat.reducePow, i0, i1]) | (refine wk_intro (by kernel_rfl) ?_))
    refine vp_loop_inv (fun s => s.tmp 0 = .sv (natV (lim x)) ∧ s.tmp 1 = .sv (.int .i64 ((m - j : Nat) : Int))) (fun _ => 0) ⟨i0, i1⟩ ?_
    rintro s' ⟨j0, j1⟩
    repeat (first | (simp only [go_sem, Nat.reduceEqDiff, Nat.reduceAdd, Nat.reduceSub, Nat.reduceMul, Nat.reduceLeDiff, Nat.reduceLT, reduceIte, reduceCtorEq, Nat.succ_ne_zero, elemsC, Int.reduceToNat, Nat.reducePow, j0, j1]) | (simp (disch := (first | omega | (simp only [AL, List.length_map]; omega))) only [AR, AL, ifT, ifF, take_all, List.length_cons, List.length_nil, Int.reduceToNat, Int.reducePow, Nat.reducePow, j0, j1]) | (refine wk_intro (by kernel_rfl) ?_) | (refine vf_of (by first | exact st) ?_))
theorem fix_shr {a m : Nat} (ha : (lim a).length ≤ 100000) (hm : m ≤ 100000) (h0 : 0 < m) : Go.Ev.Fn CX 97 [natV (lim a), .int .i64 (-(m : Int))] (natV (lim (a / 2 ^ m))) := by
  have hl := fun j => lim_len_mono (Nat.div_le_self a (2 ^ j))
  refine Go.Ev.Fn.intro (fn := Tryz.f97) (body := (Tryz.f97).body.get!) (by kernel_rfl) (by kernel_rfl) (by kernel_rfl) (fun _ => rfl) (Nat.le_of_ble_eq_true (by kernel_rfl)) ?_; unfold Tryz.f97; simp only [Option.get!_some]
  repeat (first | (simp only [go_sem, Nat.reduceEqDiff, Nat.reduceAdd, Nat.reduceSub, Nat.reduceMul, Nat.reduceLeDiff, Nat.reduceLT, reduceIte, reduceCtorEq, Nat.succ_ne_zero, elemsC, Int.reduceToNat, Nat.reducePow]) | (simp (disch := (first | omega | (simp only [AL, List.length_map]; omega))) only [AR, AL, ifT, ifF, take_all, List.length_cons, List.length_nil, Int.reduceToNat, Int.reducePow, Nat.reducePow]) | (refine wk_intro (by kernel_rfl) ?_))
  refine vp_loop_inv (fun s => s.tmp 0 = .sv (natV (lim a)) ∧ s.tmp 1 = .sv (.int .i64 (-(m : Int)))) (fun _ => 0) ⟨rfl, rfl⟩ ?_
  rintro s ⟨i0, i1⟩
  repeat (first | (simp only [go_sem, Nat.reduceEqDiff, Nat.reduceAdd, Nat.reduceSub, Nat.reduceMul, Nat.reduceLeDiff, Nat.reduceLT, reduceIte, reduceCtorEq, Nat.succ_ne_zero, elemsC, Int.reduceToNat, Nat.reducePow, i0, i1]) | (simp (disch := (first | omega | (simp only [AL, List.length_map]; omega))) only [AR, AL, ifT, ifF, take_all, List.length_cons, List.length_nil, Int.reduceToNat, Int.reducePow, Nat.reducePow, i0, i1]) | (refine wk_intro (by kernel_rfl) ?_))
  refine vp_loop_inv (fun s => ∃ j : Nat, j < m ∧ s.tmp 0 = .sv (natV (lim (a / 2 ^ j))) ∧ s.tmp 1 = .sv (.int .i64 (-((m - j : Nat) : Int))))
    (fun s => match s.tmp 1 with | .sv (.int _ i) => (-i).toNat | _ => 0) ⟨0, by omega, by rw [Nat.pow_zero, Nat.div_one]; exact i0, i1⟩ ?_
  rintro s2 ⟨j, hj, j0, j1⟩
  have hlj := hl j
  by_cases hc : 1024 < m - j
  · obtain ⟨K, hK⟩ : ∃ K : Nat, K = 1024 := ⟨_, rfl⟩
    have st := nat_shr (N := a / 2 ^ j) (m := K) (by omega) (by omega) (by omega)
    rw [Nat.div_div_eq_div_mul, ← Nat.pow_add] at st
    generalize hx : a / 2 ^ j = x at *
    generalize hy : a / 2 ^ (j + K) = y at *
    rw [show -(K : Int) = -1024 by omega] at st
    repeat (first | (simp only [go_sem, Nat.reduceEqDiff, Nat.reduceAdd, Nat.reduceSub, Nat.reduceMul, Nat.reduceLeDiff, Nat.reduceLT, reduceIte, reduceCtorEq, Nat.succ_ne_zero, elemsC, Int.reduceToNat, Nat.reducePow, j0, j1]) | (simp (disch := (first | omega | (simp only [AL, List.length_map]; omega))) only [AR, AL, ifT, ifF, take_all, List.length_cons, List.length_nil, Int.reduceToNat, Int.reducePow, Nat.reducePow, j0, j1]) | (refine wk_intro (by kernel_rfl) ?_) | (refine vf_of (by first | exact st) ?_))
    exact ⟨⟨j + K, by omega, by rw [hy], by rw [show -((m - (j + K) : Nat) : Int) = -((m - j : Nat) : Int) + 1024 by omega]⟩, by omega⟩
  · have st := nat_shr (N := a / 2 ^ j) (m := m - j) (by omega) (by omega) (by omega)
    rw [Nat.div_div_eq_div_mul, ← Nat.pow_add, show j + (m - j) = m by omega] at st
    generalize a / 2 ^ j = x at *
    generalize a / 2 ^ m = y at *
    repeat (first | (simp only [go_sem, Nat.reduceEqDiff, Nat.reduceAdd, Nat.reduceSub, Nat.reduceMul, Nat.reduceLeDiff, Nat.reduceLT, reduceIte, reduceCtorEq, Nat.succ_ne_zero, elemsC, Int.reduceToNat, Nat.reducePow, j0, j1]) | (simp (disch := (first | omega | (simp only [AL, List.length_map]; omega))) only [AR, AL, ifT, ifF, take_all, List.length_cons, List.length_nil, Int.reduceToNat, Int.reducePow, Nat.reducePow, j0, j1]) | (refine wk_intro (by kernel_rfl) ?_) | (refine vf_of (by first | exact st) ?_))
end Go.Proofs.YthbjgdmcnonofaaGreat

/- rat.Floor; ball: held, Down, Up, Trim, around, Mul, in the evaluator. -/
namespace Go.Proofs.YthbjgdmcnonofaaGreat
set_option linter.unusedSimpArgs false
set_option linter.unusedVariables false
set_option maxRecDepth 8000
open Go.Ev
theorem floor_num (q : Rat) : q.floor = q.num / (q.den : Int) := Rat.floor_def q
theorem int_abs {z : Int} {n : Nat} {s : Bool} (h : z = sgn s n) : z.natAbs = n := by rw [h, sgn_abs]
theorem rv_int (z : Int) : rv (z : Rat) = ratV (decide (z < 0)) (lim z.natAbs) [1] := by
  show ratV (decide (z < 0)) (lim z.natAbs) (lim 1) = _
  rw [lim_one]
theorem rat_Floor {v : SV} {q : Rat} {L : Nat} (hv : RatA v q L) (hL1 : 1 ≤ L) (hL : L ≤ 1000000) : Go.Ev.Fn CX 147 [v] (rv ((q.floor : Int) : Rat)) := by
  have n1 := rat_Norm hv (by omega)
  obtain ⟨z1, z2⟩ := szR_of hv hL1
  have dv := nat_DivL (N := q.num.natAbs) (D := q.den) q.den_nz (by omega) (by omega)
  have l1 := lim_len_mono (Nat.div_le_self q.num.natAbs q.den)
  have l2 := lim_len_mono (Nat.mod_le q.num.natAbs q.den)
  have l3 := lim_len1
  have o1 := nat_Of 1 (by omega)
  rw [lim_one] at o1
  have ad := nat_AddL (N := q.num.natAbs / q.den) (D := 1) (by omega) (by omega)
  rw [lim_one] at ad
  have l4 := lim_len_add (a := q.num.natAbs / q.den) (b := 1) (L := 1000000) (by omega) (by omega)
  have sg1 := rat_signed (decide (q.num < 0)) false (lim (q.num.natAbs / q.den)) [1] (by omega)
  have sg2 := rat_signed true false (lim (q.num.natAbs / q.den + 1)) [1] (by omega)
  have e := fall_eq (a := q.num) q.den_nz
  rw [floor_num]
  rw [rv_int]
  have hl := fun (n : Nat) => lenpos (n := n)
  have key : ∀ (s : Bool) (n : Nat), ratV (decide (sgn s n < 0)) (lim (sgn s n).natAbs) [1] = ratV (s && decide (0 < (lim n).length)) (lim n) [1] := by
    intro s n
    rw [sgn_abs, lim_ne]
    by_cases h : n = 0
    · subst h; rw [sgn_zero]; cases s <;> rfl
    · rw [sgn_neg s h, decide_eq_true h, Bool.and_true]
  by_cases h : q.num < 0 ∧ q.num.natAbs % q.den ≠ 0
  · rw [if_pos h] at e
    rw [e, show -((q.num.natAbs / q.den + 1 : Nat) : Int) = sgn true (q.num.natAbs / q.den + 1) from rfl, key]
    have hs : decide (q.num < 0) = true := decide_eq_true h.1
    have hm : decide (q.num.natAbs % q.den ≠ 0) = true := decide_eq_true h.2
    rw [hs] at sg1
    clear e key h
    obtain ⟨s, n, d, rfl, -⟩ := hv
    generalize q.num.natAbs / q.den + 1 = y at *
    generalize q.num.natAbs / q.den = x at *
    generalize q.num.natAbs % q.den = r at *
    generalize (true && decide (0 < (lim y).length)) = z at *
    refine Go.Ev.Fn.intro (fn := Tryz.f147) (body := (Tryz.f147).body.get!) (by kernel_rfl) (by kernel_rfl) (by kernel_rfl) (fun _ => rfl) (Nat.le_of_ble_eq_true (by kernel_rfl)) ?_; unfold Tryz.f147; simp only [Option.get!_some]
    repeat (first | (simp only [go_sem, Nat.reduceEqDiff, Nat.reduceAdd, Nat.reduceSub, Nat.reduceMul, Nat.reduceLeDiff, Nat.reduceLT, reduceIte, reduceCtorEq, Nat.succ_ne_zero, elemsC, Int.reduceToNat, Nat.reducePow, hs, hl, hm]) | (simp (disch := (first | omega | (simp only [AL, List.length_map]; omega))) only [AR, AL, ifT, ifF, take_all, List.length_cons, List.length_nil, Int.reduceToNat, Int.reducePow, Nat.reducePow, hs, hl, hm]) | (refine wk_intro (by kernel_rfl) ?_) | (refine vp_draw (id := 5) (l := [3]) (by kernel_rfl) ?_) | (refine vf_of (by first | exact n1 | exact dv | exact o1 | exact ad | exact sg2) ?_))
  · rw [if_neg h] at e
    rw [e, key]
    by_cases h1 : q.num < 0
    · have hs : decide (q.num < 0) = true := decide_eq_true h1
      have hm : decide (q.num.natAbs % q.den ≠ 0) = false := decide_eq_false (fun g => h ⟨h1, g⟩)
      rw [hs] at sg1
      rw [hs]
      clear e key h h1
      obtain ⟨s, n, d, rfl, -⟩ := hv
      generalize q.num.natAbs / q.den = x at *
      generalize q.num.natAbs % q.den = r at *
      generalize (true && decide (0 < (lim x).length)) = z at *
      refine Go.Ev.Fn.intro (fn := Tryz.f147) (body := (Tryz.f147).body.get!) (by kernel_rfl) (by kernel_rfl) (by kernel_rfl) (fun _ => rfl) (Nat.le_of_ble_eq_true (by kernel_rfl)) ?_; unfold Tryz.f147; simp only [Option.get!_some]
      repeat (first | (simp only [go_sem, Nat.reduceEqDiff, Nat.reduceAdd, Nat.reduceSub, Nat.reduceMul, Nat.reduceLeDiff, Nat.reduceLT, reduceIte, reduceCtorEq, Nat.succ_ne_zero, elemsC, Int.reduceToNat, Nat.reducePow, hs, hl, hm]) | (simp (disch := (first | omega | (simp only [AL, List.length_map]; omega))) only [AR, AL, ifT, ifF, take_all, List.length_cons, List.length_nil, Int.reduceToNat, Int.reducePow, Nat.reducePow, hs, hl, hm]) | (refine wk_intro (by kernel_rfl) ?_) | (refine vp_draw (id := 5) (l := [3]) (by kernel_rfl) ?_) | (refine vf_of (by first | exact n1 | exact dv | exact o1 | exact sg1) ?_))
    · have hs : decide (q.num < 0) = false := decide_eq_false h1
      rw [hs] at sg1
      rw [hs]
      clear e key h h1
      obtain ⟨s, n, d, rfl, -⟩ := hv
      generalize q.num.natAbs / q.den = x at *
      generalize q.num.natAbs % q.den = r at *
      generalize (false && decide (0 < (lim x).length)) = z at *
      refine Go.Ev.Fn.intro (fn := Tryz.f147) (body := (Tryz.f147).body.get!) (by kernel_rfl) (by kernel_rfl) (by kernel_rfl) (fun _ => rfl) (Nat.le_of_ble_eq_true (by kernel_rfl)) ?_; unfold Tryz.f147; simp only [Option.get!_some]
      repeat (first | (simp only [go_sem, Nat.reduceEqDiff, Nat.reduceAdd, Nat.reduceSub, Nat.reduceMul, Nat.reduceLeDiff, Nat.reduceLT, reduceIte, reduceCtorEq, Nat.succ_ne_zero, elemsC, Int.reduceToNat, Nat.reducePow, hs, hl]) | (simp (disch := (first | omega | (simp only [AL, List.length_map]; omega))) only [AR, AL, ifT, ifF, take_all, List.length_cons, List.length_nil, Int.reduceToNat, Int.reducePow, Nat.reducePow, hs, hl]) | (refine wk_intro (by kernel_rfl) ?_) | (refine vp_draw (id := 5) (l := [3]) (by kernel_rfl) ?_) | (refine vf_of (by first | exact n1 | exact dv | exact o1 | exact sg1) ?_))
theorem ball_held {p : Nat} (h : p ≤ 512) : Go.Ev.Fn CX 146 [.int .i64 (p : Int)] (.int .i64 (p : Int)) := by
  have e1 : (if (0 : Int) > (p : Int) then (0 : Int) else (p : Int)) = (p : Int) := if_neg (by omega)
  have e2 : (if (512 : Int) < (p : Int) then (512 : Int) else (p : Int)) = (p : Int) := if_neg (by omega)
  refine Go.Ev.Fn.intro (fn := Tryz.f146) (body := (Tryz.f146).body.get!) (by kernel_rfl) (by kernel_rfl) (by kernel_rfl) (fun _ => rfl) (Nat.le_of_ble_eq_true (by kernel_rfl)) ?_; unfold Tryz.f146; simp only [Option.get!_some]
  repeat (first | (simp only [go_sem, Nat.reduceEqDiff, Nat.reduceAdd, Nat.reduceSub, Nat.reduceMul, Nat.reduceLeDiff, Nat.reduceLT, reduceIte, reduceCtorEq, Nat.succ_ne_zero, elemsC, Int.reduceToNat, Nat.reducePow, e1, e2]) | (simp (disch := (first | omega | (simp only [AL, List.length_map]; omega))) only [AR, AL, ifT, ifF, take_all, List.length_cons, List.length_nil, Int.reduceToNat, Int.reducePow, Nat.reducePow, e1, e2]) | (refine wk_intro (by kernel_rfl) ?_))
/-- Rounded down to so many digits. -/
def dnR (q : Rat) (p : Nat) : Rat := mkRat (q * p2 p).floor (2 ^ p)
theorem floor_sz {q : Rat} {L : Nat} (h : szR q L) (hL : 1 ≤ L) : (lim q.floor.natAbs).length ≤ L + 1 := by
  rw [floor_num]
  have := lim_len_mono (abs_div_le q.num q.den_nz)
  have := h.1
  omega
theorem p2_sz {p : Nat} (hp : p ≤ 512) : szR (p2 p) 18 := by
  have l := lim_len_shl (a := 1) (n := p)
  have l1 := lim_len1
  rw [Nat.one_mul] at l
  refine ⟨?_, ?_⟩
  · show (lim (((2 ^ p : Nat) : Int) : Rat).num.natAbs).length ≤ 18
    rw [Rat.num_intCast, Int.natAbs_natCast]; omega
  · show (lim (((2 ^ p : Nat) : Int) : Rat).den).length ≤ 18
    rw [Rat.den_intCast]; omega
theorem dnR_sz {q : Rat} {L p : Nat} (h : szR q L) (hL : 1 ≤ L) (hp : p ≤ 512) : szR (dnR q p) (L + 40) := by
  have h1 := szR_mul h (p2_sz hp) hL
  have h2 := floor_sz h1 (by omega)
  have l := lim_len_shl (a := 1) (n := p)
  have l1 := lim_len1
  rw [Nat.one_mul] at l
  have h3 := szR_mk (s := decide ((q * p2 p).floor < 0)) (n := (q * p2 p).floor.natAbs) (d := 2 ^ p) (L := L + 40) (by omega) (by omega) (by omega)
  rw [sgn_self] at h3
  exact h3
theorem dnR_le (q : Rat) (p : Nat) : dnR q p ≤ q ∧ q * p2 p < dnR q p * p2 p + 1 := by
  have P := p2_pos p
  have m : dnR q p * p2 p = ((q * p2 p).floor : Rat) := by
    unfold dnR
    rw [Rat.mkRat_eq_div]
    exact Rat.div_mul_cancel (by have : (0 : Rat) < ((2 ^ p : Nat) : Rat) := P; grind)
  have f1 := Rat.floor_le (q * p2 p)
  have f2 := Rat.lt_floor_add_one (q * p2 p)
  refine ⟨le_by P (by rw [m]; exact f1), ?_⟩
  rw [m]
  rw [Rat.intCast_add] at f2
  exact f2
theorem ball_Down {v : SV} {q : Rat} {L p : Nat} (hv : RatA v q L) (hL1 : 1 ≤ L) (hL : L ≤ 1000) (hp : p ≤ 512) : Go.Ev.Fn CX 76 [v, .int .i64 (p : Int)] (rv (dnR q p)) := by
  have z := szR_of hv hL1
  have o1 := nat_Of 1 (by omega)
  have l1 := lim_len1
  have hh := ball_held hp
  have sh := nat_shl (N := 1) (m := p) (by omega) (by omega)
  have l := lim_len_shl (a := 1) (n := p)
  rw [Nat.one_mul] at l sh
  have r1 := rat_OfL (s := false) (n := 2 ^ p) (d := 1) (by omega) (by omega)
  have e1 : mkRat (sgn false (2 ^ p)) 1 = p2 p := by
    show mkRat ((2 ^ p : Nat) : Int) 1 = (((2 ^ p : Nat) : Int) : Rat)
    rw [Rat.mkRat_eq_div]
    show (((2 ^ p : Nat) : Int) : Rat) / (1 : Rat) = _
    rw [Rat.div_def]
    show (((2 ^ p : Nat) : Int) : Rat) * (1 : Rat)⁻¹ = _
    rw [show (1 : Rat)⁻¹ = 1 from by decide +kernel, Rat.mul_one]
  rw [e1] at r1
  have mu := rat_Mul hv (RatA_rv (p2_sz hp)) hL1 (by omega) (by omega)
  have zz := szR_mul z (p2_sz hp) hL1
  have fl := rat_Floor (RatA_rv zz) (by omega) (by omega)
  rw [rv_int] at fl
  have fz := floor_sz zz (by omega)
  have o2 := rat_OfL (s := decide ((q * p2 p).floor < 0)) (n := (q * p2 p).floor.natAbs) (d := 2 ^ p) (by omega) (by omega)
  rw [sgn_self] at o2
  unfold dnR
  obtain ⟨s, n, d, rfl, -⟩ := hv
  generalize (q * p2 p).floor = f at *
  generalize q * p2 p = u at *
  generalize p2 p = t at *
  generalize mkRat f (2 ^ p) = res at *
  generalize 2 ^ p = P at *
  refine Go.Ev.Fn.intro (fn := Tryz.f76) (body := (Tryz.f76).body.get!) (by kernel_rfl) (by kernel_rfl) (by kernel_rfl) (fun _ => rfl) (Nat.le_of_ble_eq_true (by kernel_rfl)) ?_; unfold Tryz.f76; simp only [Option.get!_some]
  repeat (first | (simp only [go_sem, Nat.reduceEqDiff, Nat.reduceAdd, Nat.reduceSub, Nat.reduceMul, Nat.reduceLeDiff, Nat.reduceLT, reduceIte, reduceCtorEq, Nat.succ_ne_zero, elemsC, Int.reduceToNat, Nat.reducePow]) | (simp (disch := (first | omega | (simp only [AL, List.length_map]; omega))) only [AR, AL, ifT, ifF, take_all, List.length_cons, List.length_nil, Int.reduceToNat, Int.reducePow, Nat.reducePow]) | (refine wk_intro (by kernel_rfl) ?_) | (refine vp_draw (id := 2) (l := [5, 13]) (by kernel_rfl) ?_) | (refine vf_of (by first | exact o1 | exact hh | exact sh | exact r1 | exact mu | exact fl | exact o2) ?_))
/-- Rounded up. -/
def upR (q : Rat) (p : Nat) : Rat := -dnR (-q) p
theorem ball_Up {v : SV} {q : Rat} {L p : Nat} (hv : RatA v q L) (hL1 : 1 ≤ L) (hL : L ≤ 1000) (hp : p ≤ 512) : Go.Ev.Fn CX 77 [v, .int .i64 (p : Int)] (rv (upR q p)) := by
  have z := szR_of hv hL1
  have n1 := rat_Neg hv hL1 (by omega)
  have dn := ball_Down (RatA_rv (szR_neg z)) hL1 hL hp
  have n2 := rat_Neg (RatA_rv (dnR_sz (szR_neg z) hL1 hp)) (by omega) (by omega)
  unfold upR
  obtain ⟨s, n, d, rfl, -⟩ := hv
  generalize dnR (-q) p = r at *
  refine Go.Ev.Fn.intro (fn := Tryz.f77) (body := (Tryz.f77).body.get!) (by kernel_rfl) (by kernel_rfl) (by kernel_rfl) (fun _ => rfl) (Nat.le_of_ble_eq_true (by kernel_rfl)) ?_; unfold Tryz.f77; simp only [Option.get!_some]
  repeat (first | (simp only [go_sem, Nat.reduceEqDiff, Nat.reduceAdd, Nat.reduceSub, Nat.reduceMul, Nat.reduceLeDiff, Nat.reduceLT, reduceIte, reduceCtorEq, Nat.succ_ne_zero, elemsC, Int.reduceToNat, Nat.reducePow]) | (simp (disch := (first | omega | (simp only [AL, List.length_map]; omega))) only [AR, AL, ifT, ifF, take_all, List.length_cons, List.length_nil, Int.reduceToNat, Int.reducePow, Nat.reducePow]) | (refine wk_intro (by kernel_rfl) ?_) | (refine vf_of (by first | exact n1 | exact dn | exact n2) ?_))
theorem ball_Trim {a b : Rat} {L p : Nat} (ha : szR a L) (hb : szR b L) (hL1 : 1 ≤ L) (hL : L ≤ 1000) (hp : p ≤ 512) : Go.Ev.Fn CX 32 [ballR a b, .int .i64 (p : Int)] (ballR (dnR a p) (upR b p)) := by
  have d := ball_Down (RatA_rv ha) hL1 hL hp
  have u := ball_Up (RatA_rv hb) hL1 hL hp
  generalize dnR a p = x at *
  generalize upR b p = y at *
  refine Go.Ev.Fn.intro (fn := Tryz.f32) (body := (Tryz.f32).body.get!) (by kernel_rfl) (by kernel_rfl) (by kernel_rfl) (fun _ => rfl) (Nat.le_of_ble_eq_true (by kernel_rfl)) ?_; unfold Tryz.f32; simp only [Option.get!_some]
  repeat (first | (simp only [go_sem, Nat.reduceEqDiff, Nat.reduceAdd, Nat.reduceSub, Nat.reduceMul, Nat.reduceLeDiff, Nat.reduceLT, reduceIte, reduceCtorEq, Nat.succ_ne_zero, elemsC, Int.reduceToNat, Nat.reducePow]) | (simp (disch := (first | omega | (simp only [AL, List.length_map]; omega))) only [AR, AL, ifT, ifF, take_all, List.length_cons, List.length_nil, Int.reduceToNat, Int.reducePow, Nat.reducePow]) | (refine wk_intro (by kernel_rfl) ?_) | (refine vp_draw (id := 1) (l := []) (by kernel_rfl) ?_) | (refine vf_of (by first | exact d | exact u) ?_))
def mnR (m x : Rat) : Rat := if x < m then x else m
def mxR (m x : Rat) : Rat := if m < x then x else m
/-- The least and the greatest of a number and so many of a row. -/
def loL (f : Rat) (l : List Rat) : Rat := l.foldl mnR f
def hiL (f : Rat) (l : List Rat) : Rat := l.foldl mxR f
theorem loL_snoc (f : Rat) (l : List Rat) {i : Nat} (h : i < l.length) : loL f (l.take (i + 1)) = mnR (loL f (l.take i)) (l.getD i 0) := by
  unfold loL
  rw [List.take_add_one, List.foldl_append, List.getD_eq_getElem?_getD, List.getElem?_eq_getElem h]
  rfl
theorem hiL_snoc (f : Rat) (l : List Rat) {i : Nat} (h : i < l.length) : hiL f (l.take (i + 1)) = mxR (hiL f (l.take i)) (l.getD i 0) := by
  unfold hiL
  rw [List.take_add_one, List.foldl_append, List.getD_eq_getElem?_getD, List.getElem?_eq_getElem h]
  rfl
end Go.Proofs.YthbjgdmcnonofaaGreat

/- ball: around, Mul, in the evaluator. -/
namespace Go.Proofs.YthbjgdmcnonofaaGreat
set_option linter.unusedSimpArgs false
set_option linter.unusedVariables false
set_option maxRecDepth 8000
open Go.Ev
/-- A ball's cells. -/
abbrev ballC (a b : Rat) : List SV := [.bool (decide (a.num < 0)), natV (lim a.num.natAbs), natV (lim a.den), .bool (decide (b.num < 0)), natV (lim b.num.natAbs), natV (lim b.den)]
theorem loL_sz {f : Rat} {l : List Rat} {L : Nat} (hf : szR f L) (hl : ∀ x ∈ l, szR x L) : szR (loL f l) L := by
  induction l generalizing f with
  | nil => exact hf
  | cons x l ih =>
    refine ih (f := mnR f x) ?_ (fun y hy => hl y (List.mem_cons_of_mem _ hy))
    unfold mnR
    split
    · exact hl x List.mem_cons_self
    · exact hf
theorem hiL_sz {f : Rat} {l : List Rat} {L : Nat} (hf : szR f L) (hl : ∀ x ∈ l, szR x L) : szR (hiL f l) L := by
  induction l generalizing f with
  | nil => exact hf
  | cons x l ih =>
    refine ih (f := mxR f x) ?_ (fun y hy => hl y (List.mem_cons_of_mem _ hy))
    unfold mxR
    split
    · exact hl x List.mem_cons_self
    · exact hf
set_option maxHeartbeats 1000000 in
theorem ball_around {f : Rat} {l : List Rat} {L : Nat} (hf : szR f L) (hl : ∀ x ∈ l, szR x L) (hL1 : 1 ≤ L) (hL : L ≤ 10000) (hn : l.length ≤ 10) : Go.Ev.Fn CX 78 [rv f, .sl l.length (rvsC l)] (ballR (loL f l) (hiL f l)) := by
  have o := ball_Of (RatA_rv hf) (by omega)
  have hat := fun {i : Nat} (h : i < l.length) => rvsC_at (l := l) (i := i) h
  have hlen := rvsC_len l
  have zlo := fun i => loL_sz (f := f) (l := l.take i) hf (fun x hx => hl x (List.mem_of_mem_take hx))
  have zhi := fun i => hiL_sz (f := f) (l := l.take i) hf (fun x hx => hl x (List.mem_of_mem_take hx))
  have zx := fun {i : Nat} (h : i < l.length) => hl _ (getD_mem (l := l) h)
  have slo := fun {i : Nat} (h : i < l.length) => loL_snoc f l h
  have shi := fun {i : Nat} (h : i < l.length) => hiL_snoc f l h
  generalize hcs : rvsC l = cs at *
  clear hl hf
  refine Go.Ev.Fn.intro (fn := Tryz.f78) (body := (Tryz.f78).body.get!) (by kernel_rfl) (by kernel_rfl) (by kernel_rfl) (fun _ => rfl) (Nat.le_of_ble_eq_true (by kernel_rfl)) ?_; unfold Tryz.f78; simp only [Option.get!_some]
  repeat (first | (simp only [go_sem, Nat.reduceEqDiff, Nat.reduceAdd, Nat.reduceSub, Nat.reduceMul, Nat.reduceLeDiff, Nat.reduceLT, reduceIte, reduceCtorEq, Nat.succ_ne_zero, elemsC, Int.reduceToNat, Nat.reducePow]) | (simp (disch := (first | omega | (simp only [AL, List.length_map]; omega))) only [AR, AL, ifT, ifF, take_all, List.length_cons, List.length_nil, Int.reduceToNat, Int.reducePow, Nat.reducePow]) | (refine wk_intro (by kernel_rfl) ?_) | (refine vf_of (by first | exact o) ?_))
  refine vp_loop_inv (fun s => s.tmp 4 = .ptr 4 0 0 ∧ s.obj 4 0 = some [.bool false, .sl 0 [], .sl 0 [], .bool false, .sl 0 [], .sl 0 []] ∧ s.tmp 5 = .ptr 5 0 0 ∧ s.tmp 10 = .sv (.sl l.length cs) ∧ s.tmp 11 = .sv (.int .i64 (l.length : Int)) ∧
      ∃ i : Nat, s.tmp 12 = .sv (.int .i64 (i : Int)) ∧ i ≤ l.length ∧ s.obj 5 0 = some (ballC (loL f (l.take i)) (hiL f (l.take i))))
    (fun s => match s.tmp 12 with | .sv (.int _ i) => l.length - i.toNat | _ => 0) ⟨rfl, rfl, rfl, rfl, rfl, 0, rfl, by omega, rfl⟩ ?_
  rintro s ⟨i4, o4, i5, i10, i11, i, i12, hi, o5⟩
  by_cases hend : i = l.length
  · subst hend
    rw [List.take_length] at o5
    clear hat zlo zhi zx slo shi
    generalize loL f l = lo at *
    generalize hiL f l = hh at *
    repeat (first | (simp only [go_sem, Nat.reduceEqDiff, Nat.reduceAdd, Nat.reduceSub, Nat.reduceMul, Nat.reduceLeDiff, Nat.reduceLT, reduceIte, reduceCtorEq, Nat.succ_ne_zero, elemsC, Int.reduceToNat, Nat.reducePow, i4, o4, i5, i10, i11, i12, o5, ballC]) | (simp (disch := (first | omega | (simp only [AL, List.length_map]; omega))) only [AR, AL, ifT, ifF, take_all, List.length_cons, List.length_nil, Int.reduceToNat, Int.reducePow, Nat.reducePow, i4, o4, i5, i10, i11, i12, o5, ballC]) | (refine wk_intro (by kernel_rfl) ?_))
  · obtain ⟨rest, g1⟩ := hat (i := i) (by omega)
    have a1 := zlo i
    have a2 := zhi i
    have a3 := zx (i := i) (by omega)
    have b1 := slo (i := i) (by omega)
    have b2 := shi (i := i) (by omega)
    generalize hlo' : loL f (l.take (i + 1)) = lo' at *
    generalize hhi' : hiL f (l.take (i + 1)) = hi' at *
    generalize loL f (l.take i) = lo at *
    generalize hiL f (l.take i) = hh at *
    generalize l.getD i 0 = x at *
    have c1 := rat_Cmp (RatA_rv a3) (RatA_rv a1) hL1 hL1 (by omega)
    have c2 := rat_Cmp (RatA_rv a3) (RatA_rv a2) hL1 hL1 (by omega)
    have nx := rat_Norm (RatA_rv a3) (by omega)
    have e1 := cmpR_lt (q := x) (r := lo)
    have e2 := cmpR_gt (q := x) (r := hh)
    clear hat zlo zhi zx slo shi a1 a2 a3
    generalize cmpR x lo = z1 at *
    generalize cmpR x hh = z2 at *
    unfold ballC at o5
    by_cases k1 : x < lo
    · rw [decide_eq_true k1] at e1
      rw [mnR, if_pos k1] at b1
      by_cases k2 : hh < x
      · rw [decide_eq_true k2] at e2
        rw [mxR, if_pos k2] at b2
        clear k1 k2
        repeat (first | (simp only [go_sem, Nat.reduceEqDiff, Nat.reduceAdd, Nat.reduceSub, Nat.reduceMul, Nat.reduceLeDiff, Nat.reduceLT, reduceIte, reduceCtorEq, Nat.succ_ne_zero, elemsC, Int.reduceToNat, Nat.reducePow, i4, o4, i5, i10, i11, i12, o5, g1, hlen, e1, e2]) | (simp (disch := (first | omega | (simp only [AL, List.length_map]; omega))) only [AR, AL, ifT, ifF, take_all, List.length_cons, List.length_nil, Int.reduceToNat, Int.reducePow, Nat.reducePow, i4, o4, i5, i10, i11, i12, o5, g1, hlen, e1, e2]) | (refine wk_intro (by kernel_rfl) ?_) | (refine vf_of (by first | exact c1 | exact nx | exact c2) ?_))
        exact ⟨⟨i + 1, rfl, by omega, by rw [hlo', hhi', b1, b2]⟩, by omega⟩
      · rw [decide_eq_false k2] at e2
        rw [mxR, if_neg k2] at b2
        clear k1 k2
        repeat (first | (simp only [go_sem, Nat.reduceEqDiff, Nat.reduceAdd, Nat.reduceSub, Nat.reduceMul, Nat.reduceLeDiff, Nat.reduceLT, reduceIte, reduceCtorEq, Nat.succ_ne_zero, elemsC, Int.reduceToNat, Nat.reducePow, i4, o4, i5, i10, i11, i12, o5, g1, hlen, e1, e2]) | (simp (disch := (first | omega | (simp only [AL, List.length_map]; omega))) only [AR, AL, ifT, ifF, take_all, List.length_cons, List.length_nil, Int.reduceToNat, Int.reducePow, Nat.reducePow, i4, o4, i5, i10, i11, i12, o5, g1, hlen, e1, e2]) | (refine wk_intro (by kernel_rfl) ?_) | (refine vf_of (by first | exact c1 | exact nx | exact c2) ?_))
        exact ⟨⟨i + 1, rfl, by omega, by rw [hlo', hhi', b1, b2]⟩, by omega⟩
    · rw [decide_eq_false k1] at e1
      rw [mnR, if_neg k1] at b1
      by_cases k2 : hh < x
      · rw [decide_eq_true k2] at e2
        rw [mxR, if_pos k2] at b2
        clear k1 k2
        repeat (first | (simp only [go_sem, Nat.reduceEqDiff, Nat.reduceAdd, Nat.reduceSub, Nat.reduceMul, Nat.reduceLeDiff, Nat.reduceLT, reduceIte, reduceCtorEq, Nat.succ_ne_zero, elemsC, Int.reduceToNat, Nat.reducePow, i4, o4, i5, i10, i11, i12, o5, g1, hlen, e1, e2]) | (simp (disch := (first | omega | (simp only [AL, List.length_map]; omega))) only [AR, AL, ifT, ifF, take_all, List.length_cons, List.length_nil, Int.reduceToNat, Int.reducePow, Nat.reducePow, i4, o4, i5, i10, i11, i12, o5, g1, hlen, e1, e2]) | (refine wk_intro (by kernel_rfl) ?_) | (refine vf_of (by first | exact c1 | exact c2 | exact nx) ?_))
        exact ⟨⟨i + 1, rfl, by omega, by rw [hlo', hhi', b1, b2]⟩, by omega⟩
      · rw [decide_eq_false k2] at e2
        rw [mxR, if_neg k2] at b2
        clear k1 k2
        repeat (first | (simp only [go_sem, Nat.reduceEqDiff, Nat.reduceAdd, Nat.reduceSub, Nat.reduceMul, Nat.reduceLeDiff, Nat.reduceLT, reduceIte, reduceCtorEq, Nat.succ_ne_zero, elemsC, Int.reduceToNat, Nat.reducePow, i4, o4, i5, i10, i11, i12, o5, g1, hlen, e1, e2]) | (simp (disch := (first | omega | (simp only [AL, List.length_map]; omega))) only [AR, AL, ifT, ifF, take_all, List.length_cons, List.length_nil, Int.reduceToNat, Int.reducePow, Nat.reducePow, i4, o4, i5, i10, i11, i12, o5, g1, hlen, e1, e2]) | (refine wk_intro (by kernel_rfl) ?_) | (refine vf_of (by first | exact c1 | exact c2) ?_))
        exact ⟨⟨i + 1, rfl, by omega, by rw [hlo', hhi', b1, b2]⟩, by omega⟩
theorem ball_Mul {a b c d : Rat} {L : Nat} (ha : szR a L) (hb : szR b L) (hc : szR c L) (hd : szR d L) (hL1 : 1 ≤ L) (hL : L ≤ 1000) :
    Go.Ev.Fn CX 33 [ballR a b, ballR c d] (ballR (loL (a * c) [a * d, b * c, b * d]) (hiL (a * c) [a * d, b * c, b * d])) := by
  have m1 := rat_Mul (RatA_rv ha) (RatA_rv hc) hL1 hL1 (by omega)
  have m2 := rat_Mul (RatA_rv ha) (RatA_rv hd) hL1 hL1 (by omega)
  have m3 := rat_Mul (RatA_rv hb) (RatA_rv hc) hL1 hL1 (by omega)
  have m4 := rat_Mul (RatA_rv hb) (RatA_rv hd) hL1 hL1 (by omega)
  have z1 := szR_mul ha hc hL1
  have z2 := szR_mul ha hd hL1
  have z3 := szR_mul hb hc hL1
  have z4 := szR_mul hb hd hL1
  generalize a * c = p1 at *
  generalize a * d = p2 at *
  generalize b * c = p3 at *
  generalize b * d = p4 at *
  have ar := ball_around (f := p1) (l := [p2, p3, p4]) (L := L + L) z1 (by
    intro x hx
    simp only [List.mem_cons, List.not_mem_nil, or_false] at hx
    rcases hx with rfl | rfl | rfl <;> assumption) (by omega) (by omega) (by simp)
  have ar' : Go.Ev.Fn CX 78 [rv p1, .sl 3 [.bool (decide (p2.num < 0)), natV (lim p2.num.natAbs), natV (lim p2.den), .bool (decide (p3.num < 0)), natV (lim p3.num.natAbs), natV (lim p3.den), .bool (decide (p4.num < 0)), natV (lim p4.num.natAbs), natV (lim p4.den)]] (ballR (loL p1 [p2, p3, p4]) (hiL p1 [p2, p3, p4])) := ar
  clear ar
  generalize loL p1 [p2, p3, p4] = lo at *
  generalize hiL p1 [p2, p3, p4] = hi at *
  refine Go.Ev.Fn.intro (fn := Tryz.f33) (body := (Tryz.f33).body.get!) (by kernel_rfl) (by kernel_rfl) (by kernel_rfl) (fun _ => rfl) (Nat.le_of_ble_eq_true (by kernel_rfl)) ?_; unfold Tryz.f33; simp only [Option.get!_some]
  repeat (first | (simp only [go_sem, Nat.reduceEqDiff, Nat.reduceAdd, Nat.reduceSub, Nat.reduceMul, Nat.reduceLeDiff, Nat.reduceLT, reduceIte, reduceCtorEq, Nat.succ_ne_zero, elemsC, Int.reduceToNat, Nat.reducePow]) | (simp (disch := (first | omega | (simp only [AL, List.length_map]; omega))) only [AR, AL, ifT, ifF, take_all, List.length_cons, List.length_nil, Int.reduceToNat, Int.reducePow, Nat.reducePow]) | (refine wk_intro (by kernel_rfl) ?_) | (refine vp_draw (id := 1) (l := [25]) (by kernel_rfl) ?_) | (refine vf_of (by first | exact m1 | exact m2 | exact m3 | exact m4 | exact ar') ?_))
end Go.Proofs.YthbjgdmcnonofaaGreat

/- Pi, to so many digits: pure functions on naturals that mirror arcs.pi and vernierref8.PiIv; the kernel reckons them at all widths that are wanted. No program. -/
namespace Go.Ev
/-- A number is reckoned before it is handed on. -/
def pin {α : Type} (n : Nat) (f : Nat → α) : α := match n with
  | 0 => f 0
  | m + 1 => f (m + 1)
/-- arcs.angle's rounds: the terms by Euler's row, until the last one is small. -/
def angGo (w b1 b2 : Nat) : Nat → Nat → Nat → Nat → Nat → Nat → Option (Nat × Nat)
  | 0, _, _, _, _, _ => none
  | f + 1, k, t1, t2, a1, a2 => if t2 < 4 then some (a1, a2 + 8) else
    pin (t1 * b1 / 2 ^ w * (2 * k) / (2 * k + 1)) fun u1 => pin ((t2 * b2 / 2 ^ w + 1) * (2 * k) / (2 * k + 1) + 1) fun u2 =>
    pin (a1 + u1) fun c1 => pin (a2 + u2) fun c2 => pin (k + 1) fun k' => angGo w b1 b2 f k' u1 u2 c1 c2
def angF (n d w : Nat) : Option (Nat × Nat) :=
  pin (n * n * 2 ^ w / (n * n + d * d)) fun b1 => pin (n * d * 2 ^ w / (n * n + d * d)) fun t1 => angGo w b1 (b1 + 1) 1000 1 t1 (t1 + 1) t1 (t1 + 1)
/-- arcs.pi. -/
def piF (w : Nat) : Option (Nat × Nat) := match angF 1 5 w, angF 1 239 w with
  | some (a1, a2), some (b1, b2) => some (a1 * 16 - (b2 * 4 + 1), (a2 * 16 + 1 - b1 * 4) + 1)
  | _, _ => none
/-- The root of pi, times 2 to 400. -/
def rootPi : Nat := 4576918740415440415430138886030104330034393630387746481038405196946375920276839941112766425178723903652484208164514262098
/-- At so many digits pi lies between two whole numbers, for certain: and the constant's square does. -/
def piOk (p : Nat) : Bool := match piF (p + 64) with
  | some (lo, hi) => pin (lo / 2 ^ 64) fun a => Nat.beq a ((hi - 1) / 2 ^ 64) && (Nat.ble (a * 2 ^ (800 - p)) (rootPi * rootPi) && Nat.ble (rootPi * rootPi) ((a + 1) * 2 ^ (800 - p)))
  | none => false
def allFrom (f : Nat → Bool) : Nat → Nat → Bool
  | 0, _ => true
  | n + 1, k => f k && allFrom f n (k + 1)
theorem pi_ok : allFrom piOk 217 8 = true := by kernel_rfl
/-- Rounded up. -/
def cdv (a b : Nat) : Nat := (a + b - 1) / b
/-- vernierref8.small's rounds; what is added and what is taken away stands apart: the sum is a1 .. a2 less b1 .. b2. -/
def smGo (w s1 s2 : Nat) : Nat → Nat → Bool → Nat → Nat → Nat → Nat → Nat → Nat → Option (Nat × Nat × Nat × Nat)
  | 0, _, _, _, _, _, _, _, _ => none
  | f + 1, i, odd, t1, t2, a1, a2, b1, b2 =>
    pin (t1 * s1 / 2 ^ w) fun u1 => pin (cdv (t2 * s2) (2 ^ w)) fun u2 => pin (u1 / (2 * i + 1)) fun x1 => pin (cdv u2 (2 * i + 1)) fun x2 => pin (i + 1) fun i' =>
    match odd with
    | true => pin (b1 + x1) fun c1 => pin (b2 + x2) fun c2 => if u2 ≤ 2 then some (a1, a2, c1, c2) else smGo w s1 s2 f i' false u1 u2 a1 a2 c1 c2
    | false => pin (a1 + x1) fun c1 => pin (a2 + x2) fun c2 => if u2 ≤ 2 then some (c1, c2, b1, b2) else smGo w s1 s2 f i' true u1 u2 c1 c2 b1 b2
def smF (d w : Nat) : Option (Nat × Nat) := pin (2 ^ w / d) fun y1 => pin (cdv (2 ^ w) d) fun y2 => pin (y1 * y1 / 2 ^ w) fun s1 => pin (cdv (y2 * y2) (2 ^ w)) fun s2 =>
  match smGo w s1 s2 1000 1 true y1 y2 y1 y2 0 0 with
  | some (a1, a2, b1, b2) => if b2 + 4 ≤ a1 ∧ b1 ≤ a2 then some (a1 - b2 - 4, a2 - b1 + 4) else none
  | none => none
/-- vernierref8.PiIv. -/
def piIv (w : Nat) : Option (Nat × Nat) := match smF 5 (w + 10), smF 239 (w + 10) with
  | some (a1, a2), some (b1, b2) => if b2 * 4 ≤ a1 * 16 ∧ b1 * 4 ≤ a2 * 16 then some ((a1 * 16 - b2 * 4) / 2 ^ 10, cdv (a2 * 16 - b1 * 4) (2 ^ 10)) else none
  | _, _ => none
def ivOk (w : Nat) : Bool := match piIv w with
  | some (lo, hi) => Nat.ble (lo * 2 ^ (800 - w)) (rootPi * rootPi) && Nat.ble (rootPi * rootPi) (hi * 2 ^ (800 - w))
  | none => false
theorem iv_ok : allFrom ivOk 121 190 = true := by kernel_rfl
end Go.Ev

/- A number times roots of pi, in balls: plain mathematics. -/
namespace Go.Proofs.YthbjgdmcnonofaaGreat
open Go.Ev
set_option linter.unusedVariables false
theorem p2_add (a b : Nat) : p2 (a + b) = p2 a * p2 b := by
  show ((2 ^ (a + b) : Nat) : Rat) = _
  rw [Nat.pow_add]
  exact_mod_cast rfl
theorem n_mul (a b : Nat) : ((a * b : Nat) : Rat) = (a : Rat) * (b : Rat) := by exact_mod_cast rfl
theorem n_le {a b : Nat} (h : a ≤ b) : (a : Rat) ≤ (b : Rat) := by exact_mod_cast h
theorem n_nn (a : Nat) : (0 : Rat) ≤ (a : Rat) := by exact_mod_cast Nat.zero_le a
/-- The constant near the root of pi. -/
def SQ : Rat := mkRat (rootPi : Int) (2 ^ 400)
theorem SQ_mul : SQ * p2 400 = (rootPi : Rat) := by
  unfold SQ
  rw [Rat.mkRat_eq_div]
  exact Rat.div_mul_cancel (by have : (0 : Rat) < p2 400 := p2_pos 400; grind)
theorem SQ_nn : 0 ≤ SQ := le_by (p2_pos 400) (by rw [SQ_mul, Rat.zero_mul]; exact n_nn _)
theorem sq_split {p : Nat} (hp : p ≤ 800) : SQ * SQ * p2 p * p2 (800 - p) = ((rootPi * rootPi : Nat) : Rat) := by
  have h1 : p2 p * p2 (800 - p) = p2 400 * p2 400 := by rw [← p2_add, ← p2_add]; congr 1; omega
  have h2 : SQ * SQ * p2 p * p2 (800 - p) = SQ * SQ * (p2 p * p2 (800 - p)) := by grind
  have h3 : SQ * SQ * (p2 400 * p2 400) = (SQ * p2 400) * (SQ * p2 400) := by grind
  rw [h2, h1, h3, SQ_mul, n_mul]
theorem sq_lo {a p : Nat} (hp : p ≤ 800) (h : a * 2 ^ (800 - p) ≤ rootPi * rootPi) : (a : Rat) ≤ SQ * SQ * p2 p := by
  refine le_by (p2_pos (800 - p)) ?_
  rw [sq_split hp]
  have := n_le h
  rw [n_mul] at this
  exact this
theorem sq_hi {a p : Nat} (hp : p ≤ 800) (h : rootPi * rootPi ≤ a * 2 ^ (800 - p)) : SQ * SQ * p2 p ≤ (a : Rat) := by
  refine le_by (p2_pos (800 - p)) ?_
  rw [sq_split hp]
  have := n_le h
  rw [n_mul a] at this
  exact this
theorem sq_ge {a p : Nat} (hp : p ≤ 400) (h : rootPi * rootPi ≤ (a + 1) * 2 ^ (800 - p)) : 2 ^ p ≤ a := by
  have h1 : 2 * 2 ^ 800 ≤ rootPi * rootPi := by decide +kernel
  have h2 : 2 ^ 800 = 2 ^ p * 2 ^ (800 - p) := by rw [← Nat.pow_add]; congr 1; omega
  have h3 : 0 < 2 ^ (800 - p) := Nat.pow_pos (by omega)
  have h4 : 2 * 2 ^ p * 2 ^ (800 - p) ≤ (a + 1) * 2 ^ (800 - p) := by rw [Nat.mul_assoc, ← h2]; exact Nat.le_trans h1 h
  have h5 := Nat.le_of_mul_le_mul_right h4 h3
  have h6 : 0 < 2 ^ p := Nat.pow_pos (by omega)
  omega
theorem sq_mono {x y : Rat} (hx : 0 ≤ x) (hy : 0 ≤ y) (h : x * x ≤ y * y) : x ≤ y := by
  rcases Rat.le_total (a := x) (b := y) with g | g
  · exact g
  · by_cases e : y = x
    · rw [e]; exact Rat.le_refl
    · have h1 : y < x := by grind
      have h2 : y * y ≤ x * y := Rat.mul_le_mul_of_nonneg_right g hy
      have h3 : x * y < x * x := by
        have : 0 < x * (x - y) := Rat.mul_pos (by grind) (by grind)
        grind
      grind
theorem root_width {lo lo' hi' hi A B P : Rat} (hP : 0 < P) (a2 : lo ≤ lo') (a4 : A ≤ lo' * lo') (a5 : (lo' - lo) * P ≤ 1) (h0 : 0 ≤ lo) (b1 : 0 ≤ hi') (b3 : hi' * hi' ≤ B) (b5 : (hi - hi') * P ≤ 1) (hA : 1 ≤ A) (hAB : (B - A) * P ≤ 1) (hAB0 : A ≤ B) : (hi - lo) * P ≤ 3 := by
  have l0 : 0 ≤ lo' := Rat.le_trans h0 a2
  have l1 : 1 ≤ lo' := sq_mono (by decide) l0 (by rw [Rat.mul_one]; exact Rat.le_trans hA a4)
  have key : hi' - lo' ≤ B - A := by
    rcases Rat.le_total (a := hi') (b := lo') with g | g
    · grind
    · have h1 : (hi' - lo') * 1 ≤ (hi' - lo') * (hi' + lo') := Rat.mul_le_mul_of_nonneg_left (by grind) (by grind)
      have h2 : (hi' - lo') * (hi' + lo') = hi' * hi' - lo' * lo' := by grind
      grind
  have k2 := Rat.mul_le_mul_of_nonneg_right key (show 0 ≤ P by grind)
  have e : (hi - lo) * P = (hi - hi') * P + (hi' - lo') * P + (lo' - lo) * P := by grind
  grind
theorem ball_one {q m1 m2 T K : Rat} (h1 : m1 ≤ T) (h2 : T ≤ m2) (hK : q ≤ K) (hK2 : -q ≤ K) :
    loL (q * m1) [q * m2, q * m1, q * m2] ≤ q * T ∧ q * T ≤ hiL (q * m1) [q * m2, q * m1, q * m2] ∧ hiL (q * m1) [q * m2, q * m1, q * m2] - loL (q * m1) [q * m2, q * m1, q * m2] ≤ K * (m2 - m1) := by
  have hm : m1 ≤ m2 := Rat.le_trans h1 h2
  have hd : 0 ≤ m2 - m1 := by grind
  have sh1 : loL (q * m1) [q * m2, q * m1, q * m2] = mnR (mnR (mnR (q * m1) (q * m2)) (q * m1)) (q * m2) := rfl
  have sh2 : hiL (q * m1) [q * m2, q * m1, q * m2] = mxR (mxR (mxR (q * m1) (q * m2)) (q * m1)) (q * m2) := rfl
  rcases Rat.le_total (a := 0) (b := q) with g | g
  · have e1 := Rat.mul_le_mul_of_nonneg_left h1 g
    have e2 := Rat.mul_le_mul_of_nonneg_left h2 g
    have e3 := Rat.mul_le_mul_of_nonneg_left hm g
    have e4 := Rat.mul_le_mul_of_nonneg_right hK hd
    have l : loL (q * m1) [q * m2, q * m1, q * m2] = q * m1 := by
      rw [sh1, show mnR (q * m1) (q * m2) = q * m1 from if_neg (by grind), show mnR (q * m1) (q * m1) = q * m1 from if_neg (by grind)]
      exact if_neg (by grind)
    have h : hiL (q * m1) [q * m2, q * m1, q * m2] = q * m2 := by
      have x1 : mxR (q * m1) (q * m2) = q * m2 := by unfold mxR; split <;> grind
      have x2 : mxR (q * m2) (q * m1) = q * m2 := by unfold mxR; split <;> grind
      have x3 : mxR (q * m2) (q * m2) = q * m2 := by unfold mxR; split <;> grind
      rw [sh2, x1, x2, x3]
    rw [l, h]
    refine ⟨e1, e2, ?_⟩
    grind
  · have f : ∀ {x y : Rat}, x ≤ y → q * y ≤ q * x := by
      intro x y hxy
      have := Rat.mul_le_mul_of_nonneg_left hxy (show 0 ≤ -q by grind)
      grind
    have e1 := f h1
    have e2 := f h2
    have e3 := f hm
    have e4 := Rat.mul_le_mul_of_nonneg_right hK2 hd
    have l : loL (q * m1) [q * m2, q * m1, q * m2] = q * m2 := by
      have x1 : mnR (q * m1) (q * m2) = q * m2 := by unfold mnR; split <;> grind
      have x2 : mnR (q * m2) (q * m1) = q * m2 := by unfold mnR; split <;> grind
      have x3 : mnR (q * m2) (q * m2) = q * m2 := by unfold mnR; split <;> grind
      rw [sh1, x1, x2, x3]
    have h : hiL (q * m1) [q * m2, q * m1, q * m2] = q * m1 := by
      rw [sh2, show mxR (q * m1) (q * m2) = q * m1 from if_neg (by grind), show mxR (q * m1) (q * m1) = q * m1 from if_neg (by grind)]
      exact if_neg (by grind)
    rw [l, h]
    refine ⟨e2, e1, ?_⟩
    grind
/-- A number is not above two to as many bits as its limbs take. -/
theorem num_bound (q : Rat) : q ≤ p2 (32 * (lim q.num.natAbs).length) ∧ -q ≤ p2 (32 * (lim q.num.natAbs).length) := by
  have h1 := lim_len_pow (a := q.num.natAbs)
  have h2 : ((q.num.natAbs : Nat) : Rat) ≤ p2 (32 * (lim q.num.natAbs).length) := by
    show _ ≤ ((2 ^ (32 * (lim q.num.natAbs).length) : Nat) : Rat)
    refine n_le ?_
    rw [Nat.pow_mul]
    exact Nat.le_of_lt h1
  have h3 : q * (q.den : Rat) = (q.num : Rat) := by
    have h : mkRat q.num q.den * (q.den : Rat) = (q.num : Rat) := by
      rw [Rat.mkRat_eq_div]
      refine Rat.div_mul_cancel ?_
      have : (0 : Rat) < (q.den : Rat) := by exact_mod_cast q.den_pos
      grind
    rwa [Rat.mkRat_self] at h
  have h4 : (1 : Rat) ≤ (q.den : Rat) := by
    have := n_le q.den_pos
    exact this
  have h5 : (q.num : Rat) ≤ ((q.num.natAbs : Nat) : Rat) := by
    have : q.num ≤ (q.num.natAbs : Int) := by omega
    exact Rat.intCast_le_intCast.2 this
  have h6 : -(q.num : Rat) ≤ ((q.num.natAbs : Nat) : Rat) := by
    have : -q.num ≤ (q.num.natAbs : Int) := by omega
    have := Rat.intCast_le_intCast.2 this
    rw [Rat.intCast_neg] at this
    exact this
  generalize p2 (32 * (lim q.num.natAbs).length) = K at *
  generalize ((q.num.natAbs : Nat) : Rat) = N at *
  have hN : 0 ≤ N := by grind
  constructor
  · rcases Rat.le_total (a := 0) (b := q) with g | g
    · have := Rat.mul_le_mul_of_nonneg_left h4 g
      grind
    · grind
  · rcases Rat.le_total (a := 0) (b := q) with g | g
    · grind
    · have := Rat.mul_le_mul_of_nonneg_left h4 (show 0 ≤ -q by grind)
      grind
theorem trim_width {lo hi m1 m2 K : Rat} {P len : Nat} (hK : K = p2 (32 * len)) (h1 : hi - lo ≤ K * (m2 - m1)) (h2 : (m2 - m1) * p2 (P + 8 + 32 * len) ≤ 3) : (upR hi (P + 8) - dnR lo (P + 8)) * p2 P ≤ 1 := by
  have d := (dnR_le lo (P + 8)).2
  have u := (dnR_le (-hi) (P + 8)).2
  have P1 := p2_pos P
  have P2 := p2_pos (P + 8)
  have e1 : p2 (P + 8 + 32 * len) = p2 (P + 8) * K := by rw [p2_add, hK]
  rw [e1] at h2
  have h3 := Rat.mul_le_mul_of_nonneg_right h1 (show 0 ≤ p2 (P + 8) by grind)
  have e2 : p2 (P + 8) = p2 P * 256 := by rw [p2_add]; congr 1
  have h4 : (upR hi (P + 8) - dnR lo (P + 8)) * p2 (P + 8) ≤ 5 := by
    unfold upR
    grind
  rw [e2] at h4
  grind
end Go.Proofs.YthbjgdmcnonofaaGreat

/- nat.Bits, fix.Small; vernierref1.Bits, vernierref4.root, Sqrt, in the evaluator. -/
namespace Go.Proofs.YthbjgdmcnonofaaGreat
set_option linter.unusedSimpArgs false
set_option linter.unusedVariables false
set_option maxRecDepth 8000
open Go.Ev
theorem blen_iff {x k : Nat} : blen x ≤ k ↔ x < 2 ^ k := by
  unfold blen
  by_cases h : x = 0
  · rw [if_pos h, h]
    have : 0 < 2 ^ k := Nat.pow_pos (by omega)
    omega
  · rw [if_neg h]
    have := Nat.log2_lt (n := x) (k := k) h
    omega
theorem blen_lims (N : Nat) (h : N ≠ 0) : blen N = 32 * ((lim N).length - 1) + blen ((lim N).getD ((lim N).length - 1) 0) := by
  have h0 := lim_pos h
  have ht := trimL_getD (trimL_lim N) h0
  have hw := wth_lim N
  have hok := okL_lim N
  generalize lim N = a at *
  have h1 := wth_at a (w := a.length - 1) (by omega)
  rw [List.drop_of_length_le (by omega), show wth [] = 0 from rfl, Nat.mul_zero, Nat.add_zero, hw] at h1
  have h2 := wth_lt (okL_take hok (a.length - 1))
  rw [List.length_take, Nat.min_eq_left (by omega)] at h2
  rw [show (4294967296 : Nat) = 2 ^ 32 from rfl, ← Nat.pow_mul] at h1 h2
  have hp : 0 < 2 ^ (32 * (a.length - 1)) := Nat.pow_pos (by omega)
  have h3 : N / 2 ^ (32 * (a.length - 1)) = a.getD (a.length - 1) 0 := by
    rw [h1, Nat.add_mul_div_left _ _ hp, Nat.div_eq_of_lt h2, Nat.zero_add]
  have h4 : 2 ^ (32 * (a.length - 1)) ≤ N := by
    have := Nat.mul_le_mul_left (2 ^ (32 * (a.length - 1))) (show 1 ≤ a.getD (a.length - 1) 0 by omega)
    omega
  rw [blen_shift h4, h3]
theorem nat_Bits {N : Nat} (h : (lim N).length ≤ 1000000) : Go.Ev.Fn CX 170 [natV (lim N)] (.int .i64 (blen N : Nat)) := by
  have t := nat_trim (lim N) (okL_lim N) (by omega)
  rw [wth_lim] at t
  by_cases h0 : N = 0
  · subst h0
    have e : (lim 0).length = 0 := by rw [lim_zero]; rfl
    have e2 : blen 0 = 0 := rfl
    rw [e2]
    refine Go.Ev.Fn.intro (fn := Tryz.f170) (body := (Tryz.f170).body.get!) (by kernel_rfl) (by kernel_rfl) (by kernel_rfl) (fun _ => rfl) (Nat.le_of_ble_eq_true (by kernel_rfl)) ?_; unfold Tryz.f170; simp only [Option.get!_some]
    repeat (first | (simp only [go_sem, Nat.reduceEqDiff, Nat.reduceAdd, Nat.reduceSub, Nat.reduceMul, Nat.reduceLeDiff, Nat.reduceLT, reduceIte, reduceCtorEq, Nat.succ_ne_zero, elemsC, Int.reduceToNat, Nat.reducePow]) | (simp (disch := (first | omega | (simp only [AL, List.length_map]; omega))) only [AR, AL, ifT, ifF, take_all, List.length_cons, List.length_nil, Int.reduceToNat, Int.reducePow, Nat.reducePow]) | (refine wk_intro (by kernel_rfl) ?_) | (refine vf_of (by first | exact t) ?_))
    rfl
  · have e := blen_lims N h0
    have hl := lim_pos h0
    have hg := getD_lt (okL_lim N) ((lim N).length - 1)
    have b := bits_Len32 _ hg
    have hb : blen ((lim N).getD ((lim N).length - 1) 0) ≤ 32 := blen_iff.2 hg
    rw [e]
    generalize hgx : (lim N).getD ((lim N).length - 1) 0 = x at *
    generalize hcs : lim N = cs at *
    have hi : (cs.map limb).length = cs.length := List.length_map _
    have hat : ((cs.map limb).drop (cs.length - 1)).head? = some (limb x) := by
      rw [List.head?_drop, List.getElem?_map, List.getElem?_eq_getElem (by omega)]
      rw [List.getD_eq_getElem?_getD, List.getElem?_eq_getElem (by omega)] at hgx
      rw [← hgx]; rfl
    generalize blen x = y at *
    refine Go.Ev.Fn.intro (fn := Tryz.f170) (body := (Tryz.f170).body.get!) (by kernel_rfl) (by kernel_rfl) (by kernel_rfl) (fun _ => rfl) (Nat.le_of_ble_eq_true (by kernel_rfl)) ?_; unfold Tryz.f170; simp only [Option.get!_some]
    repeat (first | (simp only [go_sem, Nat.reduceEqDiff, Nat.reduceAdd, Nat.reduceSub, Nat.reduceMul, Nat.reduceLeDiff, Nat.reduceLT, reduceIte, reduceCtorEq, Nat.succ_ne_zero, elemsC, Int.reduceToNat, Nat.reducePow, hgx]) | (simp (disch := (first | omega | (simp only [AL, List.length_map]; omega))) only [AR, AL, ifT, ifF, take_all, List.length_cons, List.length_nil, Int.reduceToNat, Int.reducePow, Nat.reducePow, hgx]) | (refine wk_intro (by kernel_rfl) ?_) | (refine vf_of (by first | exact t | exact b) ?_))
    congr 1
theorem fix_Small {a b : Nat} (h : (lim b).length ≤ 1000000) {k : Nat} (hk : k ≤ 1000) : Go.Ev.Fn CX 102 [spanV a b, .int .i64 (k : Int)] (.bool (decide (b < 2 ^ k))) := by
  have s := nat_Bits h
  rw [show decide (b < 2 ^ k) = decide (((blen b : Nat) : Int) ≤ (k : Int)) from decide_eq_decide.2 (by rw [← blen_iff]; omega)]
  generalize blen b = x at *
  refine Go.Ev.Fn.intro (fn := Tryz.f102) (body := (Tryz.f102).body.get!) (by kernel_rfl) (by kernel_rfl) (by kernel_rfl) (fun _ => rfl) (Nat.le_of_ble_eq_true (by kernel_rfl)) ?_; unfold Tryz.f102; simp only [Option.get!_some]
  repeat (first | (simp only [go_sem, Nat.reduceEqDiff, Nat.reduceAdd, Nat.reduceSub, Nat.reduceMul, Nat.reduceLeDiff, Nat.reduceLT, reduceIte, reduceCtorEq, Nat.succ_ne_zero, elemsC, Int.reduceToNat, Nat.reducePow]) | (simp (disch := (first | omega | (simp only [AL, List.length_map]; omega))) only [AR, AL, ifT, ifF, take_all, List.length_cons, List.length_nil, Int.reduceToNat, Int.reducePow, Nat.reducePow]) | (refine wk_intro (by kernel_rfl) ?_) | (refine vf_of (by first | exact s) ?_))
end Go.Proofs.YthbjgdmcnonofaaGreat

/- fix: Mul, Unit, Of, in the evaluator. -/
namespace Go.Proofs.YthbjgdmcnonofaaGreat
set_option linter.unusedSimpArgs false
set_option linter.unusedVariables false
set_option maxRecDepth 8000
open Go.Ev
theorem fix_Mul {a b c d w : Nat} (h1 : (lim a).length ≤ 10000) (h2 : (lim b).length ≤ 10000) (h3 : (lim c).length ≤ 10000) (h4 : (lim d).length ≤ 10000) (hw : w ≤ 100000) (h0 : 0 < w) : Go.Ev.Fn CX 104 [spanV a b, spanV c d, .int .i64 (w : Int)] (spanV (a * c / 2 ^ w) (b * d / 2 ^ w + 1)) := by
  have m1 := nat_MulL (N := a) (D := c) (by omega) (by omega)
  have m2 := nat_MulL (N := b) (D := d) (by omega) (by omega)
  have l1 := lim_len_mul (a := a) (b := c)
  have l2 := lim_len_mul (a := b) (b := d)
  have s1 := fix_shr (a := a * c) (m := w) (by omega) hw h0
  have s2 := fix_shr (a := b * d) (m := w) (by omega) hw h0
  have l3 := lim_len_mono (Nat.div_le_self (b * d) (2 ^ w))
  have n1 := fix_Next (a := b * d / 2 ^ w) (by omega)
  generalize a * c / 2 ^ w = x at *
  generalize b * d / 2 ^ w = y at *
  generalize a * c = u at *
  generalize b * d = v at *
  have e0 : (0 : Int) - (w : Int) = -(w : Int) := by omega
  refine Go.Ev.Fn.intro (fn := Tryz.f104) (body := (Tryz.f104).body.get!) (by kernel_rfl) (by kernel_rfl) (by kernel_rfl) (fun _ => rfl) (Nat.le_of_ble_eq_true (by kernel_rfl)) ?_; unfold Tryz.f104; simp only [Option.get!_some]
  repeat (first | (simp only [go_sem, Nat.reduceEqDiff, Nat.reduceAdd, Nat.reduceSub, Nat.reduceMul, Nat.reduceLeDiff, Nat.reduceLT, reduceIte, reduceCtorEq, Nat.succ_ne_zero, elemsC, Int.reduceToNat, Nat.reducePow, e0]) | (simp (disch := (first | omega | (simp only [AL, List.length_map]; omega))) only [AR, AL, ifT, ifF, take_all, List.length_cons, List.length_nil, Int.reduceToNat, Int.reducePow, Nat.reducePow, e0]) | (refine wk_intro (by kernel_rfl) ?_) | (refine vp_draw (id := 1) (l := [8, 10, 11, 16, 18, 19, 22]) (by kernel_rfl) ?_) | (refine vf_of (by first | exact m1 | exact s1 | exact m2 | exact s2 | exact n1) ?_))
end Go.Proofs.YthbjgdmcnonofaaGreat

/- nat.Bits; fix: Of, Small, Floor, Certain (one round); arcs.held, in the evaluator. -/
namespace Go.Proofs.YthbjgdmcnonofaaGreat
set_option linter.unusedSimpArgs false
set_option linter.unusedVariables false
set_option maxRecDepth 8000
open Go.Ev
theorem fix_Of {n d w : Nat} (h1 : (lim n).length ≤ 10000) (h2 : (lim d).length ≤ 10000) (hd : d ≠ 0) (hw : w ≤ 100000) : Go.Ev.Fn CX 165 [natV (lim n), natV (lim d), .int .i64 (w : Int)] (spanV (n * 2 ^ w / d) (n * 2 ^ w / d + 1)) := by
  have s1 := fix_shl (a := n) (m := w) (by omega) hw
  have l1 := lim_len_shl (a := n) (n := w)
  have o1 := fix_Over' (N := n * 2 ^ w) (D := d) hd (by omega) (by omega)
  have l3 := lim_len_mono (Nat.div_le_self (n * 2 ^ w) d)
  have n1 := fix_Next (a := n * 2 ^ w / d) (by omega)
  generalize n * 2 ^ w / d = x at *
  generalize n * 2 ^ w = y at *
  refine Go.Ev.Fn.intro (fn := Tryz.f165) (body := (Tryz.f165).body.get!) (by kernel_rfl) (by kernel_rfl) (by kernel_rfl) (fun _ => rfl) (Nat.le_of_ble_eq_true (by kernel_rfl)) ?_; unfold Tryz.f165; simp only [Option.get!_some]
  repeat (first | (simp only [go_sem, Nat.reduceEqDiff, Nat.reduceAdd, Nat.reduceSub, Nat.reduceMul, Nat.reduceLeDiff, Nat.reduceLT, reduceIte, reduceCtorEq, Nat.succ_ne_zero, elemsC, Int.reduceToNat, Nat.reducePow]) | (simp (disch := (first | omega | (simp only [AL, List.length_map]; omega))) only [AR, AL, ifT, ifF, take_all, List.length_cons, List.length_nil, Int.reduceToNat, Int.reducePow, Nat.reducePow]) | (refine wk_intro (by kernel_rfl) ?_) | (refine vf_of (by first | exact s1 | exact o1 | exact n1) ?_))
theorem fix_Floor {a b w p : Nat} (h1 : (lim a).length ≤ 10000) (h2 : (lim b).length ≤ 10000) (hp : p < w) (hw : w ≤ 100000) : Go.Ev.Fn CX 140 [spanV a b, .int .i64 (w : Int), .int .i64 (p : Int)] (.tup [natV (lim (a / 2 ^ (w - p))), .bool (decide (a / 2 ^ (w - p) = (b - 1) / 2 ^ (w - p)))]) := by
  have e0 : (p : Int) - (w : Int) = -((w - p : Nat) : Int) := by omega
  have l1 := lim_len1
  have s1 := fix_shr (a := a) (m := w - p) (by omega) (by omega) (by omega)
  have o := fix_One
  have m1 := fix_Less' (N := b) (D := 1) (by omega) (by omega)
  have l2 := lim_len_mono (Nat.sub_le b 1)
  have s2 := fix_shr (a := b - 1) (m := w - p) (by omega) (by omega) (by omega)
  have l3 := lim_len_mono (Nat.div_le_self a (2 ^ (w - p)))
  have l4 := lim_len_mono (Nat.div_le_self (b - 1) (2 ^ (w - p)))
  have c := nat_CmpL (N := a / 2 ^ (w - p)) (D := (b - 1) / 2 ^ (w - p)) (by omega) (by omega)
  generalize a / 2 ^ (w - p) = x at *
  generalize (b - 1) / 2 ^ (w - p) = y at *
  generalize b - 1 = b' at *
  have e1 : (cmpN x y == 0) = decide (x = y) := by
    rw [show (cmpN x y == 0) = decide (cmpN x y = 0) from by by_cases h : cmpN x y = 0 <;> simp [h]]
    exact decide_eq_decide.2 (by unfold cmpN; split <;> (try split) <;> omega)
  generalize cmpN x y = z at *
  generalize decide (x = y) = q at *
  generalize hk : w - p = k at *
  refine Go.Ev.Fn.intro (fn := Tryz.f140) (body := (Tryz.f140).body.get!) (by kernel_rfl) (by kernel_rfl) (by kernel_rfl) (fun _ => rfl) (Nat.le_of_ble_eq_true (by kernel_rfl)) ?_; unfold Tryz.f140; simp only [Option.get!_some]
  repeat (first | (simp only [go_sem, Nat.reduceEqDiff, Nat.reduceAdd, Nat.reduceSub, Nat.reduceMul, Nat.reduceLeDiff, Nat.reduceLT, reduceIte, reduceCtorEq, Nat.succ_ne_zero, elemsC, Int.reduceToNat, Nat.reducePow, e0, e1]) | (simp (disch := (first | omega | (simp only [AL, List.length_map]; omega))) only [AR, AL, ifT, ifF, take_all, List.length_cons, List.length_nil, Int.reduceToNat, Int.reducePow, Nat.reducePow, e0, e1]) | (refine wk_intro (by kernel_rfl) ?_) | (refine vp_draw (id := 2) (l := [18, 19, 20, 8, 24]) (by kernel_rfl) ?_) | (refine vf_of (by first | exact s1 | exact o | exact m1 | exact s2 | exact c) ?_))
end Go.Proofs.YthbjgdmcnonofaaGreat
