/- Part 8 of the proof: the evaluator, contracts of functions and their plain laws (joined by program). No condition. -/
import Derived.Test.YthbjgdmcnonofaaGreatPart7
import Derived.KernelRfl
/- test: over, square, isBelow, student, paired, spread, pooled, fisher, in the evaluator. -/
namespace Go.Proofs.YthbjgdmcnonofaaGreat
set_option linter.unusedSimpArgs false
set_option linter.unusedVariables false
set_option maxRecDepth 8000
open Go.Ev
theorem rat_Zero {v : SV} {q : Rat} {L : Nat} (hv : RatA v q L) (hL : 1 ≤ L) (hL2 : L ≤ 16777216) : Go.Ev.Fn CX 48 [v] (.bool (decide (q = 0))) := by
  have hN := rat_Norm hv (by omega)
  obtain ⟨s, n, d, rfl, -⟩ := hv
  by_cases h : q = 0
  · subst h
    rw [decide_eq_true rfl]
    rw [rv_zero] at hN
    refine Go.Ev.Fn.intro (fn := Tryz.f48) (body := (Tryz.f48).body.get!) (by kernel_rfl) (by kernel_rfl) (by kernel_rfl) (fun _ => rfl) (Nat.le_of_ble_eq_true (by kernel_rfl)) ?_; unfold Tryz.f48; simp only [Option.get!_some]
    repeat (first | (simp only [go_sem, Nat.reduceEqDiff, Nat.reduceAdd, Nat.reduceSub, Nat.reduceMul, Nat.reduceLeDiff, Nat.reduceLT, reduceIte, reduceCtorEq, Nat.succ_ne_zero, elemsC, Int.reduceToNat, Nat.reducePow]) | (simp (disch := (first | omega | (simp only [AL, List.length_map]; omega))) only [AR, AL, ifT, ifF, take_all, List.length_cons, List.length_nil, Int.reduceToNat, Int.reducePow, Nat.reducePow]) | (refine wk_intro (by kernel_rfl) ?_) | (refine vf_of (by first | exact hN) ?_))
  · have hp := lim_pos (N := q.num.natAbs) (fun e => h (num_zero.1 (by omega)))
    rw [decide_eq_false h]
    refine Go.Ev.Fn.intro (fn := Tryz.f48) (body := (Tryz.f48).body.get!) (by kernel_rfl) (by kernel_rfl) (by kernel_rfl) (fun _ => rfl) (Nat.le_of_ble_eq_true (by kernel_rfl)) ?_; unfold Tryz.f48; simp only [Option.get!_some]
    repeat (first | (simp only [go_sem, Nat.reduceEqDiff, Nat.reduceAdd, Nat.reduceSub, Nat.reduceMul, Nat.reduceLeDiff, Nat.reduceLT, reduceIte, reduceCtorEq, Nat.succ_ne_zero, elemsC, Int.reduceToNat, Nat.reducePow]) | (simp (disch := (first | omega | (simp only [AL, List.length_map]; omega))) only [AR, AL, ifT, ifF, take_all, List.length_cons, List.length_nil, Int.reduceToNat, Int.reducePow, Nat.reducePow]) | (refine wk_intro (by kernel_rfl) ?_) | (refine vf_of (by first | exact hN) ?_))
theorem ref2_Zero {v : SV} {q : Rat} {L : Nat} (hv : RatA v q L) (hL : 1 ≤ L) (hL2 : L ≤ 16777216) : Go.Ev.Fn CX 25 [v] (.bool (decide (q = 0))) := by
  have hN := ref2_Norm hv (by omega)
  obtain ⟨s, n, d, rfl, -⟩ := hv
  by_cases h : q = 0
  · subst h
    rw [decide_eq_true rfl]
    rw [rv_zero] at hN
    refine Go.Ev.Fn.intro (fn := Tryz.f25) (body := (Tryz.f25).body.get!) (by kernel_rfl) (by kernel_rfl) (by kernel_rfl) (fun _ => rfl) (Nat.le_of_ble_eq_true (by kernel_rfl)) ?_; unfold Tryz.f25; simp only [Option.get!_some]
    repeat (first | (simp only [go_sem, Nat.reduceEqDiff, Nat.reduceAdd, Nat.reduceSub, Nat.reduceMul, Nat.reduceLeDiff, Nat.reduceLT, reduceIte, reduceCtorEq, Nat.succ_ne_zero, elemsC, Int.reduceToNat, Nat.reducePow]) | (simp (disch := (first | omega | (simp only [AL, List.length_map]; omega))) only [AR, AL, ifT, ifF, take_all, List.length_cons, List.length_nil, Int.reduceToNat, Int.reducePow, Nat.reducePow]) | (refine wk_intro (by kernel_rfl) ?_) | (refine vf_of (by first | exact hN) ?_))
  · have hp := lim_pos (N := q.num.natAbs) (fun e => h (num_zero.1 (by omega)))
    rw [decide_eq_false h]
    refine Go.Ev.Fn.intro (fn := Tryz.f25) (body := (Tryz.f25).body.get!) (by kernel_rfl) (by kernel_rfl) (by kernel_rfl) (fun _ => rfl) (Nat.le_of_ble_eq_true (by kernel_rfl)) ?_; unfold Tryz.f25; simp only [Option.get!_some]
    repeat (first | (simp only [go_sem, Nat.reduceEqDiff, Nat.reduceAdd, Nat.reduceSub, Nat.reduceMul, Nat.reduceLeDiff, Nat.reduceLT, reduceIte, reduceCtorEq, Nat.succ_ne_zero, elemsC, Int.reduceToNat, Nat.reducePow]) | (simp (disch := (first | omega | (simp only [AL, List.length_map]; omega))) only [AR, AL, ifT, ifF, take_all, List.length_cons, List.length_nil, Int.reduceToNat, Int.reducePow, Nat.reducePow]) | (refine wk_intro (by kernel_rfl) ?_) | (refine vf_of (by first | exact hN) ?_))
theorem test_over {v w : SV} {q r : Rat} {L M : Nat} (hv : RatA v q L) (hw : RatA w r M) (hL : 1 ≤ L) (hM : 1 ≤ M) (h : L + M ≤ 1000000) : Go.Ev.Fn CX 70 [v, w] (rv (q / r)) := by
  have d := rat_Div hv hw hL hM (by omega)
  generalize decide (r ≠ 0) = b at *
  obtain ⟨s, n, d', rfl, -⟩ := hv
  obtain ⟨s', n', d'', rfl, -⟩ := hw
  refine Go.Ev.Fn.intro (fn := Tryz.f70) (body := (Tryz.f70).body.get!) (by kernel_rfl) (by kernel_rfl) (by kernel_rfl) (fun _ => rfl) (Nat.le_of_ble_eq_true (by kernel_rfl)) ?_; unfold Tryz.f70; simp only [Option.get!_some]
  repeat (first | (simp only [go_sem, Nat.reduceEqDiff, Nat.reduceAdd, Nat.reduceSub, Nat.reduceMul, Nat.reduceLeDiff, Nat.reduceLT, reduceIte, reduceCtorEq, Nat.succ_ne_zero, elemsC, Int.reduceToNat, Nat.reducePow]) | (simp (disch := (first | omega | (simp only [AL, List.length_map]; omega))) only [AR, AL, ifT, ifF, take_all, List.length_cons, List.length_nil, Int.reduceToNat, Int.reducePow, Nat.reducePow]) | (refine wk_intro (by kernel_rfl) ?_) | (refine vf_of (by first | exact d) ?_))
theorem test_square {v : SV} {q : Rat} {L : Nat} (hv : RatA v q L) (hL : 1 ≤ L) (h : L ≤ 1000000) : Go.Ev.Fn CX 179 [v] (rv (q * q)) := by
  have d := rat_Mul hv hv hL hL (by omega)
  obtain ⟨s, n, d', rfl, -⟩ := hv
  refine Go.Ev.Fn.intro (fn := Tryz.f179) (body := (Tryz.f179).body.get!) (by kernel_rfl) (by kernel_rfl) (by kernel_rfl) (fun _ => rfl) (Nat.le_of_ble_eq_true (by kernel_rfl)) ?_; unfold Tryz.f179; simp only [Option.get!_some]
  repeat (first | (simp only [go_sem, Nat.reduceEqDiff, Nat.reduceAdd, Nat.reduceSub, Nat.reduceMul, Nat.reduceLeDiff, Nat.reduceLT, reduceIte, reduceCtorEq, Nat.succ_ne_zero, elemsC, Int.reduceToNat, Nat.reducePow]) | (simp (disch := (first | omega | (simp only [AL, List.length_map]; omega))) only [AR, AL, ifT, ifF, take_all, List.length_cons, List.length_nil, Int.reduceToNat, Int.reducePow, Nat.reducePow]) | (refine wk_intro (by kernel_rfl) ?_) | (refine vf_of (by first | exact d) ?_))
/-- A statistic's result. -/
abbrev resV (r : Res) : SV := .tup [rv r.1, .sl r.2.1.length (r.2.1.map fun i => .int .i64 i), .int .i64 r.2.2]
theorem test_student {cs : List SV} {l : List Rat} {v : SV} {mu : Rat} {L M : Nat} (h : RowC cs l L) (hm : RatA v mu M) (hL : 1 ≤ L) (hL2 : L ≤ 100) (hM : 1 ≤ M) (hM2 : M ≤ 100) (hl : l.length ≤ 12) :
    Go.Ev.Fn CX 125 [.sl l.length cs, v] (resV (stuR l mu)) := by
  have r0 := rat_Int 0 (by omega)
  have v1 := stat_Variance h hL (by omega) hl
  have hz := row_sz hL h
  have zv := sz_var hL hz hl
  have zm := sz_mean hL hz hl
  unfold stuR
  by_cases h0 : l.length < 2
  · rw [if_pos h0] at v1 ⊢
    clear hz zv zm
    obtain ⟨s, n, d, rfl, -⟩ := hm
    refine Go.Ev.Fn.intro (fn := Tryz.f125) (body := (Tryz.f125).body.get!) (by kernel_rfl) (by kernel_rfl) (by kernel_rfl) (fun _ => rfl) (Nat.le_of_ble_eq_true (by kernel_rfl)) ?_; unfold Tryz.f125; simp only [Option.get!_some]
    repeat (first | (simp only [go_sem, Nat.reduceEqDiff, Nat.reduceAdd, Nat.reduceSub, Nat.reduceMul, Nat.reduceLeDiff, Nat.reduceLT, reduceIte, reduceCtorEq, Nat.succ_ne_zero, elemsC, Int.reduceToNat, Nat.reducePow]) | (simp (disch := (first | omega | (simp only [AL, List.length_map]; omega))) only [AR, AL, ifT, ifF, take_all, List.length_cons, List.length_nil, Int.reduceToNat, Int.reducePow, Nat.reducePow]) | (refine wk_intro (by kernel_rfl) ?_) | (refine vp_draw (id := 7) (l := []) (by kernel_rfl) ?_) | (refine vf_of (by first | exact v1 | exact r0) ?_))
    rfl
  · rw [if_neg h0] at v1 ⊢
    have zz := rat_Zero (RatA_rv zv) (by omega) (by omega)
    by_cases hv : varR l = 0
    · rw [if_pos hv]
      rw [decide_eq_true hv] at zz
      clear hz zv zm
      obtain ⟨s, n, d, rfl, -⟩ := hm
      refine Go.Ev.Fn.intro (fn := Tryz.f125) (body := (Tryz.f125).body.get!) (by kernel_rfl) (by kernel_rfl) (by kernel_rfl) (fun _ => rfl) (Nat.le_of_ble_eq_true (by kernel_rfl)) ?_; unfold Tryz.f125; simp only [Option.get!_some]
      repeat (first | (simp only [go_sem, Nat.reduceEqDiff, Nat.reduceAdd, Nat.reduceSub, Nat.reduceMul, Nat.reduceLeDiff, Nat.reduceLT, reduceIte, reduceCtorEq, Nat.succ_ne_zero, elemsC, Int.reduceToNat, Nat.reducePow]) | (simp (disch := (first | omega | (simp only [AL, List.length_map]; omega))) only [AR, AL, ifT, ifF, take_all, List.length_cons, List.length_nil, Int.reduceToNat, Int.reducePow, Nat.reducePow]) | (refine wk_intro (by kernel_rfl) ?_) | (refine vp_draw (id := 7) (l := []) (by kernel_rfl) ?_) | (refine vf_of (by first | exact v1 | exact zz | exact r0) ?_))
      rfl
    · rw [if_neg hv]
      rw [decide_eq_false hv] at zz
      have m1 := stat_Mean h hL (by omega) hl
      rw [if_neg (by omega)] at m1
      have i1 := rat_Int (l.length : Int) (by omega)
      have zi := int_szR (n := (l.length : Int)) (by omega)
      have d1 := rat_Sub (RatA_rv zm) hm (by omega) (by omega) (by omega)
      have zd := szR_sub zm (szR_of hm hM) (by omega)
      have s1 := test_square (RatA_rv zd) (by omega) (by omega)
      have zs := szR_mul zd zd (by omega)
      have p1 := rat_Mul (RatA_rv zi) (RatA_rv zs) (by omega) (by omega) (by omega)
      have o1 := test_over (RatA_rv (szR_mul zi zs (by omega))) (RatA_rv zv) (by omega) (by omega) (by omega)
      clear hz zv zm zi zd zs h
      obtain ⟨s, n, d, rfl, -⟩ := hm
      generalize meanR l = m at *
      generalize varR l = w at *
      refine Go.Ev.Fn.intro (fn := Tryz.f125) (body := (Tryz.f125).body.get!) (by kernel_rfl) (by kernel_rfl) (by kernel_rfl) (fun _ => rfl) (Nat.le_of_ble_eq_true (by kernel_rfl)) ?_; unfold Tryz.f125; simp only [Option.get!_some]
      repeat (first | (simp only [go_sem, Nat.reduceEqDiff, Nat.reduceAdd, Nat.reduceSub, Nat.reduceMul, Nat.reduceLeDiff, Nat.reduceLT, reduceIte, reduceCtorEq, Nat.succ_ne_zero, elemsC, Int.reduceToNat, Nat.reducePow]) | (simp (disch := (first | omega | (simp only [AL, List.length_map]; omega))) only [AR, AL, ifT, ifF, take_all, List.length_cons, List.length_nil, Int.reduceToNat, Int.reducePow, Nat.reducePow]) | (refine wk_intro (by kernel_rfl) ?_) | (refine vp_draw (id := 7) (l := []) (by kernel_rfl) ?_) | (refine vf_of (by first | exact v1 | exact zz | exact m1 | exact i1 | exact d1 | exact s1 | exact p1 | exact o1) ?_))
theorem test_paired {cs ds : List SV} {l m : List Rat} (h : RowC cs l 1) (h2 : RowC ds m 1) (hl : l.length ≤ 12) (hm : m.length ≤ 12) :
    Go.Ev.Fn CX 126 [.sl l.length cs, .sl m.length ds] (resV (if l.length ≠ m.length then (0, [], 1) else stuR (List.zipWith (fun a b => a - b) l m) 0)) := by
  have r0 := rat_Int 0 (by omega)
  by_cases hlm : l.length = m.length
  · rw [if_neg (not_not_intro hlm)]
    have hzl : (List.zipWith (fun a b => a - b) l m).length = l.length := by rw [List.length_zipWith]; omega
    have hzg : ∀ i, i < l.length → (List.zipWith (fun a b => a - b) l m).getD i 0 = l.getD i 0 - m.getD i 0 := by
      intro i hi
      rw [List.getD_eq_getElem?_getD, List.getD_eq_getElem?_getD, List.getD_eq_getElem?_getD, List.getElem?_eq_getElem (by omega), List.getElem?_eq_getElem hi, List.getElem?_eq_getElem (by omega), List.getElem_zipWith]
      rfl
    have hlen := row_len h
    have hlen2 := row_len h2
    have hzz : ∀ x ∈ List.zipWith (fun a b => a - b) l m, szR x 3 := by
      intro x hx
      obtain ⟨i, hi, rfl⟩ := List.getElem_of_mem hx
      rw [List.getElem_zipWith]
      exact szR_sub (row_sz (by omega) h _ (List.getElem_mem _)) (row_sz (by omega) h2 _ (List.getElem_mem _)) (by omega)
    generalize hZ : List.zipWith (fun a b => a - b) l m = z at *
    have t1 := test_student (rvsC_row z hzz) (RatA_rv (int_szR (n := 0) (by omega))) (by omega) (by omega) (by omega) (by omega) (by omega)
    have e0 : ((0 : Int) : Rat) = 0 := rfl
    rw [e0] at t1 r0
    rw [hzl] at t1
    have hrl := rvsC_len z
    rw [hzl] at hrl
    refine Go.Ev.Fn.intro (fn := Tryz.f126) (body := (Tryz.f126).body.get!) (by kernel_rfl) (by kernel_rfl) (by kernel_rfl) (fun _ => rfl) (Nat.le_of_ble_eq_true (by kernel_rfl)) ?_; unfold Tryz.f126; simp only [Option.get!_some]
    repeat (first | (simp only [go_sem, Nat.reduceEqDiff, Nat.reduceAdd, Nat.reduceSub, Nat.reduceMul, Nat.reduceLeDiff, Nat.reduceLT, reduceIte, reduceCtorEq, Nat.succ_ne_zero, elemsC, Int.reduceToNat, Nat.reducePow]) | (simp (disch := (first | omega | (simp only [AL, List.length_map]; omega))) only [AR, AL, ifT, ifF, take_all, List.length_cons, List.length_nil, Int.reduceToNat, Int.reducePow, Nat.reducePow]) | (refine wk_intro (by kernel_rfl) ?_) | (refine vp_draw (id := 7) (l := []) (by kernel_rfl) ?_))
    refine vp_loop_inv (fun s => s.tmp 4 = .ptr 4 0 0 ∧ s.obj 4 0 = some [.bool false, .sl 0 [], .sl 0 []] ∧ s.tmp 1 = .sv (.sl m.length ds) ∧ s.tmp 16 = .sv (.sl l.length cs) ∧ s.tmp 17 = .sv (.int .i64 (l.length : Int)) ∧
        ∃ i : Nat, s.tmp 18 = .sv (.int .i64 (i : Int)) ∧ i ≤ l.length ∧ ((i = 0 ∧ s.tmp 7 = .nil ∧ s.gen 31 = 0) ∨ (0 < i ∧ s.tmp 7 = .ref 31 0 3 0 i ∧ s.obj 31 0 = some (rvsC (z.take i)))))
      (fun s => match s.tmp 18 with | .sv (.int _ i) => l.length - i.toNat | _ => 0) ⟨rfl, rfl, rfl, rfl, rfl, 0, rfl, by omega, .inl ⟨rfl, rfl, rfl⟩⟩ ?_
    rintro s2 ⟨i4, iO, i1, i16, i17, i, i18, hi, hc⟩
    by_cases hend : i = l.length
    · subst hend
      rcases hc with ⟨h00, i7, _⟩ | ⟨_, i7, iP⟩
      · rw [h00] at t1 hzl
        have hz0 : z = [] := List.length_eq_zero_iff.1 hzl
        subst hz0
        rw [rvsC_nil] at t1
        repeat (first | (simp only [go_sem, Nat.reduceEqDiff, Nat.reduceAdd, Nat.reduceSub, Nat.reduceMul, Nat.reduceLeDiff, Nat.reduceLT, reduceIte, reduceCtorEq, Nat.succ_ne_zero, elemsC, Int.reduceToNat, Nat.reducePow, i4, iO, i1, i16, i17, i18, i7]) | (simp (disch := (first | omega | (simp only [AL, List.length_map]; omega))) only [AR, AL, ifT, ifF, take_all, List.length_cons, List.length_nil, Int.reduceToNat, Int.reducePow, Nat.reducePow, i4, iO, i1, i16, i17, i18, i7]) | (refine wk_intro (by kernel_rfl) ?_) | (refine vp_draw (id := 7) (l := []) (by kernel_rfl) ?_) | (refine vf_of (by first | exact r0 | exact t1) ?_))
      · rw [List.take_of_length_le (by omega)] at iP
        have htk : (rvsC z).take (l.length * 3) = rvsC z := List.take_of_length_le (by omega)
        repeat (first | (simp only [go_sem, Nat.reduceEqDiff, Nat.reduceAdd, Nat.reduceSub, Nat.reduceMul, Nat.reduceLeDiff, Nat.reduceLT, reduceIte, reduceCtorEq, Nat.succ_ne_zero, elemsC, Int.reduceToNat, Nat.reducePow, i4, iO, i1, i16, i17, i18, i7, iP, rvC, htk, List.drop_zero]) | (simp (disch := (first | omega | (simp only [AL, List.length_map]; omega))) only [AR, AL, ifT, ifF, take_all, List.length_cons, List.length_nil, Int.reduceToNat, Int.reducePow, Nat.reducePow, i4, iO, i1, i16, i17, i18, i7, iP, rvC, htk, List.drop_zero]) | (refine wk_intro (by kernel_rfl) ?_) | (refine vp_draw (id := 7) (l := []) (by kernel_rfl) ?_) | (refine vf_of (by first | exact r0 | exact t1) ?_))
    · obtain ⟨s, n, d, rest, hat, hA⟩ := row_at (i := i) h (by omega)
      obtain ⟨s', n', d', rest2, hat2, hA2⟩ := row_at (i := i) h2 (by omega)
      have a := rat_Sub hA hA2 (by omega) (by omega) (by omega)
      have hsn := rvs_snoc (l := z) (i := i) (by omega)
      rw [← hzg i (by omega)] at a
      have hrl2 := rvsC_len (z.take i)
      rw [List.length_take, hzl, Nat.min_eq_left (by omega)] at hrl2
      clear hzz h h2 hA hA2 t1 r0 hzg
      rcases hc with ⟨h00, i7, ig⟩ | ⟨h00, i7, iP⟩
      · subst h00
        rw [List.take_zero, rvsC_nil, List.nil_append] at hsn
        rw [Nat.zero_mul, List.drop_zero] at hat hat2
        subst hat hat2
        repeat (first | (simp only [go_sem, Nat.reduceEqDiff, Nat.reduceAdd, Nat.reduceSub, Nat.reduceMul, Nat.reduceLeDiff, Nat.reduceLT, reduceIte, reduceCtorEq, Nat.succ_ne_zero, elemsC, Int.reduceToNat, Nat.reducePow, i4, iO, i1, i16, i17, i18, i7, ig, N0]) | (simp (disch := (first | omega | (simp only [AL, List.length_map]; omega))) only [AR, AL, ifT, ifF, take_all, List.length_cons, List.length_nil, Int.reduceToNat, Int.reducePow, Nat.reducePow, i4, iO, i1, i16, i17, i18, i7, ig, N0]) | (refine wk_intro (by kernel_rfl) ?_) | (refine vp_draw (id := 7) (l := []) (by kernel_rfl) ?_) | (refine vf_of (by first | exact a) ?_))
        exact ⟨⟨1, rfl, by omega, .inr ⟨by omega, rfl, by first | (rw [← hsn]; rfl) | rw [← hsn]⟩⟩, by omega⟩
      · unfold rvC at hsn
        repeat (first | (simp only [go_sem, Nat.reduceEqDiff, Nat.reduceAdd, Nat.reduceSub, Nat.reduceMul, Nat.reduceLeDiff, Nat.reduceLT, reduceIte, reduceCtorEq, Nat.succ_ne_zero, elemsC, Int.reduceToNat, Nat.reducePow, i4, iO, i1, i16, i17, i18, i7, iP, hat, hat2, hlen, hlen2, rvC, N0, hsn, hrl2]) | (simp (disch := (first | omega | (simp only [AL, List.length_map]; omega))) only [AR, AL, ifT, ifF, take_all, List.length_cons, List.length_nil, Int.reduceToNat, Int.reducePow, Nat.reducePow, i4, iO, i1, i16, i17, i18, i7, iP, hat, hat2, hlen, hlen2, rvC, N0, hsn, hrl2]) | (refine wk_intro (by kernel_rfl) ?_) | (refine vp_draw (id := 7) (l := []) (by kernel_rfl) ?_) | (refine vf_of (by first | exact a) ?_))
        exact ⟨⟨i + 1, rfl, by omega, .inr ⟨by omega, rfl, by first | (rw [← hsn]; rfl) | rw [← hsn]⟩⟩, by omega⟩
  · rw [if_pos hlm]
    clear h h2
    refine Go.Ev.Fn.intro (fn := Tryz.f126) (body := (Tryz.f126).body.get!) (by kernel_rfl) (by kernel_rfl) (by kernel_rfl) (fun _ => rfl) (Nat.le_of_ble_eq_true (by kernel_rfl)) ?_; unfold Tryz.f126; simp only [Option.get!_some]
    repeat (first | (simp only [go_sem, Nat.reduceEqDiff, Nat.reduceAdd, Nat.reduceSub, Nat.reduceMul, Nat.reduceLeDiff, Nat.reduceLT, reduceIte, reduceCtorEq, Nat.succ_ne_zero, elemsC, Int.reduceToNat, Nat.reducePow]) | (simp (disch := (first | omega | (simp only [AL, List.length_map]; omega))) only [AR, AL, ifT, ifF, take_all, List.length_cons, List.length_nil, Int.reduceToNat, Int.reducePow, Nat.reducePow]) | (refine wk_intro (by kernel_rfl) ?_) | (refine vp_draw (id := 7) (l := []) (by kernel_rfl) ?_) | (refine vf_of (by first | exact r0) ?_))
    rfl
theorem test_spread {cs : List SV} {l : List Rat} (h : RowC cs l 1) (hl : l.length ≤ 12) (h0 : 1 ≤ l.length) : Go.Ev.Fn CX 181 [.sl l.length cs] (rv (sqR l)) := by
  have c1 := stat_Central h (by omega) (by omega) hl h0
  have z := sz_sq (by omega) (row_sz (by omega) h) hl
  have i1 := rat_Int (l.length : Int) (by omega)
  have zi := int_szR (n := (l.length : Int)) (by omega)
  have m1 := rat_Mul (RatA_rv (szR_div z zi (by omega) (by omega))) (RatA_rv zi) (by omega) (by omega) (by omega)
  rw [div_cancel' (lenR_ne (l := l) (by rintro rfl; simp at h0))] at m1
  clear h z
  refine Go.Ev.Fn.intro (fn := Tryz.f181) (body := (Tryz.f181).body.get!) (by kernel_rfl) (by kernel_rfl) (by kernel_rfl) (fun _ => rfl) (Nat.le_of_ble_eq_true (by kernel_rfl)) ?_; unfold Tryz.f181; simp only [Option.get!_some]
  repeat (first | (simp only [go_sem, Nat.reduceEqDiff, Nat.reduceAdd, Nat.reduceSub, Nat.reduceMul, Nat.reduceLeDiff, Nat.reduceLT, reduceIte, reduceCtorEq, Nat.succ_ne_zero, elemsC, Int.reduceToNat, Nat.reducePow]) | (simp (disch := (first | omega | (simp only [AL, List.length_map]; omega))) only [AR, AL, ifT, ifF, take_all, List.length_cons, List.length_nil, Int.reduceToNat, Int.reducePow, Nat.reducePow]) | (refine wk_intro (by kernel_rfl) ?_) | (refine vp_draw (id := 2) (l := []) (by kernel_rfl) ?_) | (refine vf_of (by first | exact c1 | exact i1 | exact m1) ?_))
theorem test_pooled {cs ds : List SV} {l m : List Rat} (h : RowC cs l 1) (h2 : RowC ds m 1) (hl : l.length ≤ 12) (hm : m.length ≤ 12) :
    Go.Ev.Fn CX 127 [.sl l.length cs, .sl m.length ds] (resV (poolR l m)) := by
  have r0 := rat_Int 0 (by omega)
  unfold poolR
  by_cases c1 : l.length = 0
  · rw [if_pos (.inl c1)]
    clear h h2
    refine Go.Ev.Fn.intro (fn := Tryz.f127) (body := (Tryz.f127).body.get!) (by kernel_rfl) (by kernel_rfl) (by kernel_rfl) (fun _ => rfl) (Nat.le_of_ble_eq_true (by kernel_rfl)) ?_; unfold Tryz.f127; simp only [Option.get!_some]
    repeat (first | (simp only [go_sem, Nat.reduceEqDiff, Nat.reduceAdd, Nat.reduceSub, Nat.reduceMul, Nat.reduceLeDiff, Nat.reduceLT, reduceIte, reduceCtorEq, Nat.succ_ne_zero, elemsC, Int.reduceToNat, Nat.reducePow]) | (simp (disch := (first | omega | (simp only [AL, List.length_map]; omega))) only [AR, AL, ifT, ifF, take_all, List.length_cons, List.length_nil, Int.reduceToNat, Int.reducePow, Nat.reducePow]) | (refine wk_intro (by kernel_rfl) ?_) | (refine vp_draw (id := 10) (l := []) (by kernel_rfl) ?_) | (refine vf_of (by first | exact r0) ?_))
    rfl
  by_cases c2 : m.length = 0
  · rw [if_pos (.inr (.inl c2))]
    clear h h2
    refine Go.Ev.Fn.intro (fn := Tryz.f127) (body := (Tryz.f127).body.get!) (by kernel_rfl) (by kernel_rfl) (by kernel_rfl) (fun _ => rfl) (Nat.le_of_ble_eq_true (by kernel_rfl)) ?_; unfold Tryz.f127; simp only [Option.get!_some]
    repeat (first | (simp only [go_sem, Nat.reduceEqDiff, Nat.reduceAdd, Nat.reduceSub, Nat.reduceMul, Nat.reduceLeDiff, Nat.reduceLT, reduceIte, reduceCtorEq, Nat.succ_ne_zero, elemsC, Int.reduceToNat, Nat.reducePow]) | (simp (disch := (first | omega | (simp only [AL, List.length_map]; omega))) only [AR, AL, ifT, ifF, take_all, List.length_cons, List.length_nil, Int.reduceToNat, Int.reducePow, Nat.reducePow]) | (refine wk_intro (by kernel_rfl) ?_) | (refine vp_draw (id := 10) (l := []) (by kernel_rfl) ?_) | (refine vf_of (by first | exact r0) ?_))
    rfl
  by_cases c3 : l.length + m.length < 3
  · rw [if_pos (.inr (.inr c3))]
    clear h h2
    refine Go.Ev.Fn.intro (fn := Tryz.f127) (body := (Tryz.f127).body.get!) (by kernel_rfl) (by kernel_rfl) (by kernel_rfl) (fun _ => rfl) (Nat.le_of_ble_eq_true (by kernel_rfl)) ?_; unfold Tryz.f127; simp only [Option.get!_some]
    repeat (first | (simp only [go_sem, Nat.reduceEqDiff, Nat.reduceAdd, Nat.reduceSub, Nat.reduceMul, Nat.reduceLeDiff, Nat.reduceLT, reduceIte, reduceCtorEq, Nat.succ_ne_zero, elemsC, Int.reduceToNat, Nat.reducePow]) | (simp (disch := (first | omega | (simp only [AL, List.length_map]; omega))) only [AR, AL, ifT, ifF, take_all, List.length_cons, List.length_nil, Int.reduceToNat, Int.reducePow, Nat.reducePow]) | (refine wk_intro (by kernel_rfl) ?_) | (refine vp_draw (id := 10) (l := []) (by kernel_rfl) ?_) | (refine vf_of (by first | exact r0) ?_))
    rfl
  rw [if_neg (by omega)]
  have s1 := test_spread h hl (by omega)
  have s2 := test_spread h2 hm (by omega)
  have z1 := sz_sq (by omega) (row_sz (by omega) h) hl
  have z2 := sz_sq (by omega) (row_sz (by omega) h2) hm
  have y1 := sz_mean (by omega) (row_sz (by omega) h) hl
  have y2 := sz_mean (by omega) (row_sz (by omega) h2) hm
  have m1 := stat_Mean h (by omega) (by omega) hl
  have m2 := stat_Mean h2 (by omega) (by omega) hm
  rw [if_neg c1] at m1
  rw [if_neg c2] at m2
  have a1 := rat_Add (RatA_rv z1) (RatA_rv z2) (by omega) (by omega) (by omega)
  have za := szR_add z1 z2 (by omega)
  have i1 := rat_Int ((l.length : Int) + (m.length : Int) - 2) (by omega)
  have zi1 := int_szR (n := (l.length : Int) + (m.length : Int) - 2) (by omega)
  have o1 := test_over (RatA_rv za) (RatA_rv zi1) (by omega) (by omega) (by omega)
  have zo := szR_div za zi1 (by omega) (by omega)
  have zz := rat_Zero (RatA_rv zo) (by omega) (by omega)
  clear z1 z2 za zi1 h h2
  by_cases hv : (sqR l + sqR m) / (((l.length : Int) + (m.length : Int) - 2 : Int) : Rat) = 0
  · rw [if_pos hv]
    rw [decide_eq_true hv] at zz
    clear hv
    refine Go.Ev.Fn.intro (fn := Tryz.f127) (body := (Tryz.f127).body.get!) (by kernel_rfl) (by kernel_rfl) (by kernel_rfl) (fun _ => rfl) (Nat.le_of_ble_eq_true (by kernel_rfl)) ?_; unfold Tryz.f127; simp only [Option.get!_some]
    repeat (first | (simp only [go_sem, Nat.reduceEqDiff, Nat.reduceAdd, Nat.reduceSub, Nat.reduceMul, Nat.reduceLeDiff, Nat.reduceLT, reduceIte, reduceCtorEq, Nat.succ_ne_zero, elemsC, Int.reduceToNat, Nat.reducePow]) | (simp (disch := (first | omega | (simp only [AL, List.length_map]; omega))) only [AR, AL, ifT, ifF, take_all, List.length_cons, List.length_nil, Int.reduceToNat, Int.reducePow, Nat.reducePow]) | (refine wk_intro (by kernel_rfl) ?_) | (refine vp_draw (id := 10) (l := []) (by kernel_rfl) ?_) | (refine vf_of (by first | exact s1 | exact s2 | exact a1 | exact i1 | exact o1 | exact zz | exact r0) ?_))
    rfl
  · rw [if_neg hv]
    rw [decide_eq_false hv] at zz
    have lm : 1 ≤ l.length * m.length ∧ l.length * m.length ≤ 144 := ⟨Nat.mul_pos (by omega) (by omega), Nat.mul_le_mul hl hm⟩
    have elm : (l.length : Int) * (m.length : Int) = ((l.length * m.length : Nat) : Int) := (Int.natCast_mul _ _).symm
    have i2 := rat_Int ((l.length : Int) + (m.length : Int)) (by omega)
    have zi2 := int_szR (n := (l.length : Int) + (m.length : Int)) (by omega)
    have i3 := rat_Int ((l.length : Int) * (m.length : Int)) (by rw [elm]; omega)
    have zi3 := int_szR (n := (l.length : Int) * (m.length : Int)) (by rw [elm]; omega)
    have o2 := test_over (RatA_rv zi2) (RatA_rv zi3) (by omega) (by omega) (by omega)
    have zo2 := szR_div zi2 zi3 (by omega) (by omega)
    have d1 := rat_Sub (RatA_rv y1) (RatA_rv y2) (by omega) (by omega) (by omega)
    have zd := szR_sub y1 y2 (by omega)
    have q1 := test_square (RatA_rv zd) (by omega) (by omega)
    have zq := szR_mul zd zd (by omega)
    have p1 := rat_Mul (RatA_rv zo) (RatA_rv zo2) (by omega) (by omega) (by omega)
    have o3 := test_over (RatA_rv zq) (RatA_rv (szR_mul zo zo2 (by omega))) (by omega) (by omega) (by omega)
    clear zi2 zi3 zo zo2 zd zq y1 y2 hv
    generalize meanR l = x at *
    generalize meanR m = y at *
    generalize (sqR l + sqR m) / (((l.length : Int) + (m.length : Int) - 2 : Int) : Rat) = v at *
    generalize sqR l + sqR m = v2 at *
    generalize (((l.length : Int) + (m.length : Int) : Int) : Rat) / (((l.length : Int) * (m.length : Int) : Int) : Rat) = w at *
    rw [elm] at i3 o2
    generalize hpr : l.length * m.length = pr at *
    have hmul : IntKind.i64.wrap ((l.length : Int) * (m.length : Int)) = (pr : Int) := by rw [elm]; exact wI64 (by omega)
    clear elm
    refine Go.Ev.Fn.intro (fn := Tryz.f127) (body := (Tryz.f127).body.get!) (by kernel_rfl) (by kernel_rfl) (by kernel_rfl) (fun _ => rfl) (Nat.le_of_ble_eq_true (by kernel_rfl)) ?_; unfold Tryz.f127; simp only [Option.get!_some]
    repeat (first | (simp only [go_sem, Nat.reduceEqDiff, Nat.reduceAdd, Nat.reduceSub, Nat.reduceMul, Nat.reduceLeDiff, Nat.reduceLT, reduceIte, reduceCtorEq, Nat.succ_ne_zero, elemsC, Int.reduceToNat, Nat.reducePow, hmul]) | (simp (disch := (first | omega | (simp only [AL, List.length_map]; omega))) only [AR, AL, ifT, ifF, take_all, List.length_cons, List.length_nil, Int.reduceToNat, Int.reducePow, Nat.reducePow, hmul]) | (refine wk_intro (by kernel_rfl) ?_) | (refine vp_draw (id := 10) (l := []) (by kernel_rfl) ?_) | (refine vf_of (by first | exact s1 | exact s2 | exact a1 | exact i1 | exact o1 | exact zz | exact m1 | exact m2 | exact i2 | exact i3 | exact o2 | exact d1 | exact q1 | exact p1 | exact o3) ?_))
theorem test_fisher {cs ds : List SV} {l m : List Rat} (h : RowC cs l 1) (h2 : RowC ds m 1) (hl : l.length ≤ 12) (hm : m.length ≤ 12) :
    Go.Ev.Fn CX 128 [.sl l.length cs, .sl m.length ds] (resV (fisR l m)) := by
  have r0 := rat_Int 0 (by omega)
  have v1 := stat_Variance h (by omega) (by omega) hl
  have v2 := stat_Variance h2 (by omega) (by omega) hm
  have z1 := sz_var (by omega) (row_sz (by omega) h) hl
  have z2 := sz_var (by omega) (row_sz (by omega) h2) hm
  have q1 := rat_Zero (RatA_rv z1) (by omega) (by omega)
  have q2 := rat_Zero (RatA_rv z2) (by omega) (by omega)
  have o1 := test_over (RatA_rv z1) (RatA_rv z2) (by omega) (by omega) (by omega)
  unfold fisR
  clear h h2 z1 z2
  by_cases c1 : l.length < 2
  · rw [if_pos (.inl c1)]
    rw [if_pos c1] at v1
    refine Go.Ev.Fn.intro (fn := Tryz.f128) (body := (Tryz.f128).body.get!) (by kernel_rfl) (by kernel_rfl) (by kernel_rfl) (fun _ => rfl) (Nat.le_of_ble_eq_true (by kernel_rfl)) ?_; unfold Tryz.f128; simp only [Option.get!_some]
    repeat (first | (simp only [go_sem, Nat.reduceEqDiff, Nat.reduceAdd, Nat.reduceSub, Nat.reduceMul, Nat.reduceLeDiff, Nat.reduceLT, reduceIte, reduceCtorEq, Nat.succ_ne_zero, elemsC, Int.reduceToNat, Nat.reducePow]) | (simp (disch := (first | omega | (simp only [AL, List.length_map]; omega))) only [AR, AL, ifT, ifF, take_all, List.length_cons, List.length_nil, Int.reduceToNat, Int.reducePow, Nat.reducePow]) | (refine wk_intro (by kernel_rfl) ?_) | (refine vf_of (by first | exact v1 | exact r0) ?_))
    rfl
  rw [if_neg c1] at v1
  by_cases c2 : m.length < 2
  · rw [if_pos (.inr c2)]
    rw [if_pos c2] at v2
    refine Go.Ev.Fn.intro (fn := Tryz.f128) (body := (Tryz.f128).body.get!) (by kernel_rfl) (by kernel_rfl) (by kernel_rfl) (fun _ => rfl) (Nat.le_of_ble_eq_true (by kernel_rfl)) ?_; unfold Tryz.f128; simp only [Option.get!_some]
    repeat (first | (simp only [go_sem, Nat.reduceEqDiff, Nat.reduceAdd, Nat.reduceSub, Nat.reduceMul, Nat.reduceLeDiff, Nat.reduceLT, reduceIte, reduceCtorEq, Nat.succ_ne_zero, elemsC, Int.reduceToNat, Nat.reducePow]) | (simp (disch := (first | omega | (simp only [AL, List.length_map]; omega))) only [AR, AL, ifT, ifF, take_all, List.length_cons, List.length_nil, Int.reduceToNat, Int.reducePow, Nat.reducePow]) | (refine wk_intro (by kernel_rfl) ?_) | (refine vf_of (by first | exact v1 | exact v2 | exact r0) ?_))
    rfl
  rw [if_neg c2] at v2
  rw [if_neg (by omega)]
  generalize varR l = a at *
  generalize varR m = b at *
  by_cases c3 : a = 0
  · rw [if_pos (.inl c3)]
    rw [decide_eq_true c3] at q1
    refine Go.Ev.Fn.intro (fn := Tryz.f128) (body := (Tryz.f128).body.get!) (by kernel_rfl) (by kernel_rfl) (by kernel_rfl) (fun _ => rfl) (Nat.le_of_ble_eq_true (by kernel_rfl)) ?_; unfold Tryz.f128; simp only [Option.get!_some]
    repeat (first | (simp only [go_sem, Nat.reduceEqDiff, Nat.reduceAdd, Nat.reduceSub, Nat.reduceMul, Nat.reduceLeDiff, Nat.reduceLT, reduceIte, reduceCtorEq, Nat.succ_ne_zero, elemsC, Int.reduceToNat, Nat.reducePow]) | (simp (disch := (first | omega | (simp only [AL, List.length_map]; omega))) only [AR, AL, ifT, ifF, take_all, List.length_cons, List.length_nil, Int.reduceToNat, Int.reducePow, Nat.reducePow]) | (refine wk_intro (by kernel_rfl) ?_) | (refine vf_of (by first | exact v1 | exact v2 | exact q1 | exact r0) ?_))
    rfl
  rw [decide_eq_false c3] at q1
  by_cases c4 : b = 0
  · rw [if_pos (.inr c4)]
    rw [decide_eq_true c4] at q2
    refine Go.Ev.Fn.intro (fn := Tryz.f128) (body := (Tryz.f128).body.get!) (by kernel_rfl) (by kernel_rfl) (by kernel_rfl) (fun _ => rfl) (Nat.le_of_ble_eq_true (by kernel_rfl)) ?_; unfold Tryz.f128; simp only [Option.get!_some]
    repeat (first | (simp only [go_sem, Nat.reduceEqDiff, Nat.reduceAdd, Nat.reduceSub, Nat.reduceMul, Nat.reduceLeDiff, Nat.reduceLT, reduceIte, reduceCtorEq, Nat.succ_ne_zero, elemsC, Int.reduceToNat, Nat.reducePow]) | (simp (disch := (first | omega | (simp only [AL, List.length_map]; omega))) only [AR, AL, ifT, ifF, take_all, List.length_cons, List.length_nil, Int.reduceToNat, Int.reducePow, Nat.reducePow]) | (refine wk_intro (by kernel_rfl) ?_) | (refine vf_of (by first | exact v1 | exact v2 | exact q1 | exact q2 | exact r0) ?_))
    rfl
  rw [decide_eq_false c4] at q2
  rw [if_neg (fun h => h.elim c3 c4)]
  refine Go.Ev.Fn.intro (fn := Tryz.f128) (body := (Tryz.f128).body.get!) (by kernel_rfl) (by kernel_rfl) (by kernel_rfl) (fun _ => rfl) (Nat.le_of_ble_eq_true (by kernel_rfl)) ?_; unfold Tryz.f128; simp only [Option.get!_some]
  repeat (first | (simp only [go_sem, Nat.reduceEqDiff, Nat.reduceAdd, Nat.reduceSub, Nat.reduceMul, Nat.reduceLeDiff, Nat.reduceLT, reduceIte, reduceCtorEq, Nat.succ_ne_zero, elemsC, Int.reduceToNat, Nat.reducePow]) | (simp (disch := (first | omega | (simp only [AL, List.length_map]; omega))) only [AR, AL, ifT, ifF, take_all, List.length_cons, List.length_nil, Int.reduceToNat, Int.reducePow, Nat.reducePow]) | (refine wk_intro (by kernel_rfl) ?_) | (refine vf_of (by first | exact v1 | exact v2 | exact q1 | exact q2 | exact o1) ?_))
  refine ro_ref (cs := [.int .i64 ((l.length - 1 : Nat) : Int), .int .i64 ((m.length - 1 : Nat) : Int)]) (by decide) ?_ rfl
  simp only [go_sem, Nat.reduceEqDiff, Nat.reduceAdd, Nat.reduceSub, Nat.reduceMul, Nat.reduceLeDiff, Nat.reduceLT, reduceIte, reduceCtorEq, Nat.succ_ne_zero, elemsC, Int.reduceToNat, Nat.reducePow]
end Go.Proofs.YthbjgdmcnonofaaGreat

/- ball.Of, Sub; incg.P, Q at 0; vernierref4.Has, in the evaluator. -/
namespace Go.Proofs.YthbjgdmcnonofaaGreat
set_option linter.unusedSimpArgs false
set_option linter.unusedVariables false
set_option maxRecDepth 8000
open Go.Ev
/-- A ball's ends. -/
abbrev ballR (a b : Rat) : SV := .agg [.bool (decide (a.num < 0)), natV (lim a.num.natAbs), natV (lim a.den), .bool (decide (b.num < 0)), natV (lim b.num.natAbs), natV (lim b.den)]
theorem ball_Of {v : SV} {q : Rat} {L : Nat} (hv : RatA v q L) (hL : L ≤ 1000000) : Go.Ev.Fn CX 28 [v] (ballR q q) := by
  have n1 := rat_Norm hv (by omega)
  obtain ⟨s, n, d, rfl, -⟩ := hv
  refine Go.Ev.Fn.intro (fn := Tryz.f28) (body := (Tryz.f28).body.get!) (by kernel_rfl) (by kernel_rfl) (by kernel_rfl) (fun _ => rfl) (Nat.le_of_ble_eq_true (by kernel_rfl)) ?_; unfold Tryz.f28; simp only [Option.get!_some]
  repeat (first | (simp only [go_sem, Nat.reduceEqDiff, Nat.reduceAdd, Nat.reduceSub, Nat.reduceMul, Nat.reduceLeDiff, Nat.reduceLT, reduceIte, reduceCtorEq, Nat.succ_ne_zero, elemsC, Int.reduceToNat, Nat.reducePow]) | (simp (disch := (first | omega | (simp only [AL, List.length_map]; omega))) only [AR, AL, ifT, ifF, take_all, List.length_cons, List.length_nil, Int.reduceToNat, Int.reducePow, Nat.reducePow]) | (refine wk_intro (by kernel_rfl) ?_) | (refine vp_draw (id := 1) (l := []) (by kernel_rfl) ?_) | (refine vf_of (by first | exact n1) ?_))
theorem ball_Sub {a b c d : Rat} {L : Nat} (ha : szR a L) (hb : szR b L) (hc : szR c L) (hd : szR d L) (hL : 1 ≤ L) (hL2 : L ≤ 1000000) : Go.Ev.Fn CX 53 [ballR a b, ballR c d] (ballR (a - d) (b - c)) := by
  have s1 := rat_Sub (RatA_rv ha) (RatA_rv hd) hL hL (by omega)
  have s2 := rat_Sub (RatA_rv hb) (RatA_rv hc) hL hL (by omega)
  refine Go.Ev.Fn.intro (fn := Tryz.f53) (body := (Tryz.f53).body.get!) (by kernel_rfl) (by kernel_rfl) (by kernel_rfl) (fun _ => rfl) (Nat.le_of_ble_eq_true (by kernel_rfl)) ?_; unfold Tryz.f53; simp only [Option.get!_some]
  repeat (first | (simp only [go_sem, Nat.reduceEqDiff, Nat.reduceAdd, Nat.reduceSub, Nat.reduceMul, Nat.reduceLeDiff, Nat.reduceLT, reduceIte, reduceCtorEq, Nat.succ_ne_zero, elemsC, Int.reduceToNat, Nat.reducePow]) | (simp (disch := (first | omega | (simp only [AL, List.length_map]; omega))) only [AR, AL, ifT, ifF, take_all, List.length_cons, List.length_nil, Int.reduceToNat, Int.reducePow, Nat.reducePow]) | (refine wk_intro (by kernel_rfl) ?_) | (refine vp_draw (id := 1) (l := []) (by kernel_rfl) ?_) | (refine vf_of (by first | exact s1 | exact s2) ?_))
theorem ref4_Has {a b q : Rat} {v : SV} {L M : Nat} (ha : szR a L) (hb : szR b L) (hv : RatA v q M) (hL : 1 ≤ L) (hM : 1 ≤ M) (h : L + M ≤ 1000000) (h1 : a ≤ q) (h2 : q ≤ b) : Go.Ev.Fn CX 20 [ballR a b, v] (.bool true) := by
  have c1 := ref2_Cmp (RatA_rv ha) hv hL hM (by omega)
  have c2 := ref2_Cmp hv (RatA_rv hb) hM hL (by omega)
  have e1 : decide (cmpR a q ≤ 0) = true := by rw [cmpR_le]; exact decide_eq_true h1
  have e2 : decide (cmpR q b ≤ 0) = true := by rw [cmpR_le]; exact decide_eq_true h2
  obtain ⟨s, n, d, rfl, -⟩ := hv
  refine Go.Ev.Fn.intro (fn := Tryz.f20) (body := (Tryz.f20).body.get!) (by kernel_rfl) (by kernel_rfl) (by kernel_rfl) (fun _ => rfl) (Nat.le_of_ble_eq_true (by kernel_rfl)) ?_; unfold Tryz.f20; simp only [Option.get!_some]
  repeat (first | (simp only [go_sem, Nat.reduceEqDiff, Nat.reduceAdd, Nat.reduceSub, Nat.reduceMul, Nat.reduceLeDiff, Nat.reduceLT, reduceIte, reduceCtorEq, Nat.succ_ne_zero, elemsC, Int.reduceToNat, Nat.reducePow, e1, e2]) | (simp (disch := (first | omega | (simp only [AL, List.length_map]; omega))) only [AR, AL, ifT, ifF, take_all, List.length_cons, List.length_nil, Int.reduceToNat, Int.reducePow, Nat.reducePow, e1, e2]) | (refine wk_intro (by kernel_rfl) ?_) | (refine vf_of (by first | exact c1 | exact c2) ?_))
theorem incg_isOutside {n : Int} (h1 : 1 ≤ n) (h2 : n ≤ 256) : Go.Ev.Fn CX 191 [.int .i64 n, rv 0] (.bool false) := by
  have r0 := rat_Int 0 (by omega)
  have r1 := rat_Int 64 (by omega)
  have c0 := rat_Cmp (RatA_rv (szR_zero (L := 1) (by omega))) (RatA_rv (int_szR (n := 0) (by omega))) (by omega) (by omega) (by omega)
  have c1 := rat_Cmp (RatA_rv (szR_zero (L := 1) (by omega))) (RatA_rv (int_szR (n := 64) (by omega))) (by omega) (by omega) (by omega)
  have e0 : decide (cmpR 0 ((0 : Int) : Rat) < 0) = false := by rw [cmpR_lt]; decide +kernel
  have e1 : decide (cmpR 0 ((64 : Int) : Rat) > 0) = false := by rw [cmpR_gt]; decide +kernel
  refine Go.Ev.Fn.intro (fn := Tryz.f191) (body := (Tryz.f191).body.get!) (by kernel_rfl) (by kernel_rfl) (by kernel_rfl) (fun _ => rfl) (Nat.le_of_ble_eq_true (by kernel_rfl)) ?_; unfold Tryz.f191; simp only [Option.get!_some]
  repeat (first | (simp only [go_sem, Nat.reduceEqDiff, Nat.reduceAdd, Nat.reduceSub, Nat.reduceMul, Nat.reduceLeDiff, Nat.reduceLT, reduceIte, reduceCtorEq, Nat.succ_ne_zero, elemsC, Int.reduceToNat, Nat.reducePow, e0, e1]) | (simp (disch := (first | omega | (simp only [AL, List.length_map]; omega))) only [AR, AL, ifT, ifF, take_all, List.length_cons, List.length_nil, Int.reduceToNat, Int.reducePow, Nat.reducePow, e0, e1]) | (refine wk_intro (by kernel_rfl) ?_) | (refine vp_draw (id := 1) (l := []) (by kernel_rfl) ?_) | (refine vf_of (by first | exact r0 | exact c0 | exact r1 | exact c1) ?_))
theorem incg_P0 {n p : Int} (h1 : 1 ≤ n) (h2 : n ≤ 256) : Go.Ev.Fn CX 135 [.int .i64 n, rv 0, .int .i64 p] (.tup [ballR 0 0, .bool true]) := by
  have n0 := rat_Norm (RatA_rv (szR_zero (L := 1) (by omega))) (by omega)
  have o := incg_isOutside h1 h2
  have z := rat_Zero (RatA_rv (szR_zero (L := 1) (by omega))) (by omega) (by omega)
  rw [decide_eq_true rfl] at z
  have r0 := rat_Int 0 (by omega)
  have b := ball_Of (RatA_rv (int_szR (n := 0) (by omega))) (by omega)
  rw [show ((0 : Int) : Rat) = 0 from rfl] at b r0
  refine Go.Ev.Fn.intro (fn := Tryz.f135) (body := (Tryz.f135).body.get!) (by kernel_rfl) (by kernel_rfl) (by kernel_rfl) (fun _ => rfl) (Nat.le_of_ble_eq_true (by kernel_rfl)) ?_; unfold Tryz.f135; simp only [Option.get!_some]
  repeat (first | (simp only [go_sem, Nat.reduceEqDiff, Nat.reduceAdd, Nat.reduceSub, Nat.reduceMul, Nat.reduceLeDiff, Nat.reduceLT, reduceIte, reduceCtorEq, Nat.succ_ne_zero, elemsC, Int.reduceToNat, Nat.reducePow, Bool.not_false]) | (simp (disch := (first | omega | (simp only [AL, List.length_map]; omega))) only [AR, AL, ifT, ifF, take_all, List.length_cons, List.length_nil, Int.reduceToNat, Int.reducePow, Nat.reducePow, Bool.not_false]) | (refine wk_intro (by kernel_rfl) ?_) | (refine vp_draw (id := 3) (l := []) (by kernel_rfl) ?_) | (refine vp_draw (id := 7) (l := []) (by kernel_rfl) ?_) | (refine vp_draw (id := 8) (l := []) (by kernel_rfl) ?_) | (refine vf_of (by first | exact n0 | exact o | exact z | exact r0 | exact b) ?_))
theorem incg_Q0 {n p : Int} (h1 : 1 ≤ n) (h2 : n ≤ 256) : Go.Ev.Fn CX 69 [.int .i64 n, rv 0, .int .i64 p] (.tup [ballR 1 1, .bool true]) := by
  have b := incg_P0 (p := p) h1 h2
  have r1 := rat_Int 1 (by omega)
  have o := ball_Of (RatA_rv (int_szR (n := 1) (by omega))) (by omega)
  have s := ball_Sub (a := ((1 : Int) : Rat)) (b := ((1 : Int) : Rat)) (c := 0) (d := 0) (L := 2) (int_szR (by omega)) (int_szR (by omega)) (szR_zero (by omega)) (szR_zero (by omega)) (by omega) (by omega)
  rw [show ((1 : Int) : Rat) - 0 = 1 from by show (1 : Rat) - 0 = 1; grind] at s
  refine Go.Ev.Fn.intro (fn := Tryz.f69) (body := (Tryz.f69).body.get!) (by kernel_rfl) (by kernel_rfl) (by kernel_rfl) (fun _ => rfl) (Nat.le_of_ble_eq_true (by kernel_rfl)) ?_; unfold Tryz.f69; simp only [Option.get!_some]
  repeat (first | (simp only [go_sem, Nat.reduceEqDiff, Nat.reduceAdd, Nat.reduceSub, Nat.reduceMul, Nat.reduceLeDiff, Nat.reduceLT, reduceIte, reduceCtorEq, Nat.succ_ne_zero, elemsC, Int.reduceToNat, Nat.reducePow, Bool.not_true]) | (simp (disch := (first | omega | (simp only [AL, List.length_map]; omega))) only [AR, AL, ifT, ifF, take_all, List.length_cons, List.length_nil, Int.reduceToNat, Int.reducePow, Nat.reducePow, Bool.not_true]) | (refine wk_intro (by kernel_rfl) ?_) | (refine vp_draw (id := 4) (l := []) (by kernel_rfl) ?_) | (refine vf_of (by first | exact b | exact r1 | exact o | exact s) ?_))
end Go.Proofs.YthbjgdmcnonofaaGreat

/- fix: One Next Shift Of Add Sub Mul Times Small Wider Floor; nat.Bits, in the evaluator. -/
namespace Go.Proofs.YthbjgdmcnonofaaGreat
set_option linter.unusedSimpArgs false
set_option linter.unusedVariables false
set_option maxRecDepth 8000
open Go.Ev
/-- Two naturals: a number that lies between them. -/
abbrev spanV (a b : Nat) : SV := .agg [natV (lim a), natV (lim b)]
/-- A natural times 2 to a power, or by it, rounded down. -/
def shfN (a : Nat) (n : Int) : Nat := if 0 ≤ n then a * 2 ^ n.toNat else a / 2 ^ (-n).toNat
theorem lim_len_shl {a n : Nat} : (lim (a * 2 ^ n)).length ≤ (lim a).length + n / 32 + 1 := by
  refine lim_len_lt ?_
  have h1 := lim_len_pow (a := a)
  have h2 : 2 ^ n ≤ 4294967296 ^ (n / 32 + 1) := by
    rw [show (4294967296 : Nat) = 2 ^ 32 from rfl, ← Nat.pow_mul]
    exact Nat.pow_le_pow_right (by omega) (by omega)
  calc a * 2 ^ n < 4294967296 ^ (lim a).length * 2 ^ n := Nat.mul_lt_mul_of_pos_right h1 (Nat.pow_pos (by omega))
    _ ≤ 4294967296 ^ (lim a).length * 4294967296 ^ (n / 32 + 1) := Nat.mul_le_mul_left _ h2
    _ = 4294967296 ^ ((lim a).length + n / 32 + 1) := by rw [← Nat.pow_add, Nat.add_assoc]
theorem fix_Over' {N D : Nat} (hD : D ≠ 0) (hl : (lim N).length ≤ 536870912) (hm : (lim D).length ≤ 536870912) : Go.Ev.Fn CX 171 [natV (lim N), natV (lim D)] (natV (lim (N / D))) := by
  have h := nat_DivL hD hl hm
  refine Go.Ev.Fn.intro (fn := Tryz.f171) (body := (Tryz.f171).body.get!) (by kernel_rfl) (by kernel_rfl) (by kernel_rfl) (fun _ => rfl) (Nat.le_of_ble_eq_true (by kernel_rfl)) ?_; unfold Tryz.f171; simp only [Option.get!_some]
  repeat (first | (simp only [go_sem, Nat.reduceEqDiff, Nat.reduceAdd, Nat.reduceSub, Nat.reduceMul, Nat.reduceLeDiff, Nat.reduceLT, reduceIte, reduceCtorEq, Nat.succ_ne_zero, elemsC, Int.reduceToNat, Nat.reducePow]) | (simp (disch := (first | omega | (simp only [AL, List.length_map]; omega))) only [AR, AL, ifT, ifF, take_all, List.length_cons, List.length_nil, Int.reduceToNat, Int.reducePow, Nat.reducePow]) | (refine wk_intro (by kernel_rfl) ?_) | (refine vf_of (by first | exact h) ?_))
theorem fix_One : Go.Ev.Fn CX 98 [] (natV (lim 1)) := by
  have o := nat_Of 1 (by omega)
  refine Go.Ev.Fn.intro (fn := Tryz.f98) (body := (Tryz.f98).body.get!) (by kernel_rfl) (by kernel_rfl) (by kernel_rfl) (fun _ => rfl) (Nat.le_of_ble_eq_true (by kernel_rfl)) ?_; unfold Tryz.f98; simp only [Option.get!_some]
  repeat (first | (simp only [go_sem, Nat.reduceEqDiff, Nat.reduceAdd, Nat.reduceSub, Nat.reduceMul, Nat.reduceLeDiff, Nat.reduceLT, reduceIte, reduceCtorEq, Nat.succ_ne_zero, elemsC, Int.reduceToNat, Nat.reducePow]) | (simp (disch := (first | omega | (simp only [AL, List.length_map]; omega))) only [AR, AL, ifT, ifF, take_all, List.length_cons, List.length_nil, Int.reduceToNat, Int.reducePow, Nat.reducePow]) | (refine wk_intro (by kernel_rfl) ?_) | (refine vf_of (by first | exact o) ?_))
theorem fix_Next {a : Nat} (h : (lim a).length ≤ 1000000) : Go.Ev.Fn CX 99 [natV (lim a)] (natV (lim (a + 1))) := by
  have o := fix_One
  have l := lim_len1
  have s := nat_AddL (N := a) (D := 1) (by omega) (by omega)
  refine Go.Ev.Fn.intro (fn := Tryz.f99) (body := (Tryz.f99).body.get!) (by kernel_rfl) (by kernel_rfl) (by kernel_rfl) (fun _ => rfl) (Nat.le_of_ble_eq_true (by kernel_rfl)) ?_; unfold Tryz.f99; simp only [Option.get!_some]
  repeat (first | (simp only [go_sem, Nat.reduceEqDiff, Nat.reduceAdd, Nat.reduceSub, Nat.reduceMul, Nat.reduceLeDiff, Nat.reduceLT, reduceIte, reduceCtorEq, Nat.succ_ne_zero, elemsC, Int.reduceToNat, Nat.reducePow]) | (simp (disch := (first | omega | (simp only [AL, List.length_map]; omega))) only [AR, AL, ifT, ifF, take_all, List.length_cons, List.length_nil, Int.reduceToNat, Int.reducePow, Nat.reducePow]) | (refine wk_intro (by kernel_rfl) ?_) | (refine vf_of (by first | exact o | exact s) ?_))
theorem fix_Add {a b c d : Nat} (h1 : (lim a).length ≤ 1000000) (h2 : (lim b).length ≤ 1000000) (h3 : (lim c).length ≤ 1000000) (h4 : (lim d).length ≤ 1000000) : Go.Ev.Fn CX 105 [spanV a b, spanV c d] (spanV (a + c) (b + d)) := by
  have s1 := nat_AddL (N := a) (D := c) (by omega) (by omega)
  have s2 := nat_AddL (N := b) (D := d) (by omega) (by omega)
  refine Go.Ev.Fn.intro (fn := Tryz.f105) (body := (Tryz.f105).body.get!) (by kernel_rfl) (by kernel_rfl) (by kernel_rfl) (fun _ => rfl) (Nat.le_of_ble_eq_true (by kernel_rfl)) ?_; unfold Tryz.f105; simp only [Option.get!_some]
  repeat (first | (simp only [go_sem, Nat.reduceEqDiff, Nat.reduceAdd, Nat.reduceSub, Nat.reduceMul, Nat.reduceLeDiff, Nat.reduceLT, reduceIte, reduceCtorEq, Nat.succ_ne_zero, elemsC, Int.reduceToNat, Nat.reducePow]) | (simp (disch := (first | omega | (simp only [AL, List.length_map]; omega))) only [AR, AL, ifT, ifF, take_all, List.length_cons, List.length_nil, Int.reduceToNat, Int.reducePow, Nat.reducePow]) | (refine wk_intro (by kernel_rfl) ?_) | (refine vp_draw (id := 1) (l := [6, 8, 11, 13]) (by kernel_rfl) ?_) | (refine vf_of (by first | exact s1 | exact s2) ?_))
theorem fix_Wider {a b n : Nat} (h1 : (lim a).length ≤ 1000000) (h2 : (lim b).length ≤ 1000000) (hn : n < 18446744073709551616) : Go.Ev.Fn CX 106 [spanV a b, .int .u64 (n : Int)] (spanV a (b + n)) := by
  have o := nat_Of n hn
  have l : (lim n).length ≤ 1000000 := Nat.le_trans (lim_len_lt (L := 2) (by omega)) (by omega)
  have s := nat_AddL (N := b) (D := n) (by omega) (by omega)
  refine Go.Ev.Fn.intro (fn := Tryz.f106) (body := (Tryz.f106).body.get!) (by kernel_rfl) (by kernel_rfl) (by kernel_rfl) (fun _ => rfl) (Nat.le_of_ble_eq_true (by kernel_rfl)) ?_; unfold Tryz.f106; simp only [Option.get!_some]
  repeat (first | (simp only [go_sem, Nat.reduceEqDiff, Nat.reduceAdd, Nat.reduceSub, Nat.reduceMul, Nat.reduceLeDiff, Nat.reduceLT, reduceIte, reduceCtorEq, Nat.succ_ne_zero, elemsC, Int.reduceToNat, Nat.reducePow]) | (simp (disch := (first | omega | (simp only [AL, List.length_map]; omega))) only [AR, AL, ifT, ifF, take_all, List.length_cons, List.length_nil, Int.reduceToNat, Int.reducePow, Nat.reducePow]) | (refine wk_intro (by kernel_rfl) ?_) | (refine vp_draw (id := 1) (l := [8, 10]) (by kernel_rfl) ?_) | (refine vf_of (by first | exact o | exact s) ?_))
theorem fix_Times {a b n d : Nat} (h1 : (lim a).length ≤ 100000) (h2 : (lim b).length ≤ 100000) (h3 : (lim n).length ≤ 100000) (h4 : (lim d).length ≤ 100000) (hd : d ≠ 0) : Go.Ev.Fn CX 103 [spanV a b, natV (lim n), natV (lim d)] (spanV (a * n / d) (b * n / d + 1)) := by
  have m1 := nat_MulL (N := a) (D := n) (by omega) (by omega)
  have m2 := nat_MulL (N := b) (D := n) (by omega) (by omega)
  have l1 := lim_len_mul (a := a) (b := n)
  have l2 := lim_len_mul (a := b) (b := n)
  have o1 := fix_Over' (N := a * n) (D := d) hd (by omega) (by omega)
  have o2 := fix_Over' (N := b * n) (D := d) hd (by omega) (by omega)
  have l3 := lim_len_mono (Nat.div_le_self (b * n) d)
  have n1 := fix_Next (a := b * n / d) (by omega)
  generalize a * n / d = x at *
  generalize b * n / d = y at *
  generalize a * n = u at *
  generalize b * n = v at *
  refine Go.Ev.Fn.intro (fn := Tryz.f103) (body := (Tryz.f103).body.get!) (by kernel_rfl) (by kernel_rfl) (by kernel_rfl) (fun _ => rfl) (Nat.le_of_ble_eq_true (by kernel_rfl)) ?_; unfold Tryz.f103; simp only [Option.get!_some]
  repeat (first | (simp only [go_sem, Nat.reduceEqDiff, Nat.reduceAdd, Nat.reduceSub, Nat.reduceMul, Nat.reduceLeDiff, Nat.reduceLT, reduceIte, reduceCtorEq, Nat.succ_ne_zero, elemsC, Int.reduceToNat, Nat.reducePow]) | (simp (disch := (first | omega | (simp only [AL, List.length_map]; omega))) only [AR, AL, ifT, ifF, take_all, List.length_cons, List.length_nil, Int.reduceToNat, Int.reducePow, Nat.reducePow]) | (refine wk_intro (by kernel_rfl) ?_) | (refine vp_draw (id := 1) (l := [8, 1, 10, 2, 14, 1, 16, 2, 18]) (by kernel_rfl) ?_) | (refine vf_of (by first | exact m1 | exact o1 | exact m2 | exact o2 | exact n1) ?_))
theorem fix_Less' {N D : Nat} (hl : (lim N).length ≤ 536870912) (hm : (lim D).length ≤ 536870912) : Go.Ev.Fn CX 198 [natV (lim N), natV (lim D)] (natV (lim (N - D))) := by
  have h := nat_SubL hl hm
  refine Go.Ev.Fn.intro (fn := Tryz.f198) (body := (Tryz.f198).body.get!) (by kernel_rfl) (by kernel_rfl) (by kernel_rfl) (fun _ => rfl) (Nat.le_of_ble_eq_true (by kernel_rfl)) ?_; unfold Tryz.f198; simp only [Option.get!_some]
  repeat (first | (simp only [go_sem, Nat.reduceEqDiff, Nat.reduceAdd, Nat.reduceSub, Nat.reduceMul, Nat.reduceLeDiff, Nat.reduceLT, reduceIte, reduceCtorEq, Nat.succ_ne_zero, elemsC, Int.reduceToNat, Nat.reducePow]) | (simp (disch := (first | omega | (simp only [AL, List.length_map]; omega))) only [AR, AL, ifT, ifF, take_all, List.length_cons, List.length_nil, Int.reduceToNat, Int.reducePow, Nat.reducePow]) | (refine wk_intro (by kernel_rfl) ?_) | (refine vf_of (by first | exact h) ?_))
theorem fix_Sub {a b c d : Nat} (h1 : (lim a).length ≤ 100000) (h2 : (lim b).length ≤ 100000) (h3 : (lim c).length ≤ 100000) (h4 : (lim d).length ≤ 100000) : Go.Ev.Fn CX 142 [spanV a b, spanV c d] (spanV (a - d) (b - c + 1)) := by
  have m1 := fix_Less' (N := a) (D := d) (by omega) (by omega)
  have m2 := fix_Less' (N := b) (D := c) (by omega) (by omega)
  have l := lim_len_mono (Nat.sub_le b c)
  have n1 := fix_Next (a := b - c) (by omega)
  generalize a - d = x at *
  generalize b - c = y at *
  refine Go.Ev.Fn.intro (fn := Tryz.f142) (body := (Tryz.f142).body.get!) (by kernel_rfl) (by kernel_rfl) (by kernel_rfl) (fun _ => rfl) (Nat.le_of_ble_eq_true (by kernel_rfl)) ?_; unfold Tryz.f142; simp only [Option.get!_some]
  repeat (first | (simp only [go_sem, Nat.reduceEqDiff, Nat.reduceAdd, Nat.reduceSub, Nat.reduceMul, Nat.reduceLeDiff, Nat.reduceLT, reduceIte, reduceCtorEq, Nat.succ_ne_zero, elemsC, Int.reduceToNat, Nat.reducePow]) | (simp (disch := (first | omega | (simp only [AL, List.length_map]; omega))) only [AR, AL, ifT, ifF, take_all, List.length_cons, List.length_nil, Int.reduceToNat, Int.reducePow, Nat.reducePow]) | (refine wk_intro (by kernel_rfl) ?_) | (refine vp_draw (id := 1) (l := [6, 8, 11, 13, 14]) (by kernel_rfl) ?_) | (refine vf_of (by first | exact m1 | exact m2 | exact n1) ?_))
end Go.Proofs.YthbjgdmcnonofaaGreat

/- vernierref4: Less, More, Num, Sum, Minus, Often, By, Wide, Most, Back, Rat, Ball, in the evaluator. -/
namespace Go.Proofs.YthbjgdmcnonofaaGreat
set_option linter.unusedSimpArgs false
set_option linter.unusedVariables false
set_option maxRecDepth 8000
open Go.Ev
theorem bne_dec (z : Int) : (z != 0) = decide (z ≠ 0) := by by_cases h : z = 0 <;> simp [h]
theorem cmpN_ne {a b : Nat} : (cmpN a b != 0) = decide (a ≠ b) := by
  rw [bne_dec]
  exact decide_eq_decide.2 (by unfold cmpN; split <;> (try split) <;> omega)
theorem ref4_Less (a : Int) (n : Nat) (ha : (lim a.natAbs).length ≤ 100000) (hn : n ≤ 4096) (h0 : 0 < n) : Go.Ev.Fn CX 158 [intV a, .int .i64 (n : Int)] (intV (a / ((2 ^ n : Nat) : Int))) := by
  have hd : 2 ^ n ≠ 0 := Nat.ne_of_gt (Nat.pow_pos (by omega))
  have s1 := ref1_shr (N := a.natAbs) (m := n) (by omega) hn h0
  have l := lim_len_mono (Nat.div_le_self a.natAbs (2 ^ n))
  have l1 := lim_len1
  have s2 := ref1_AddL (N := a.natAbs / 2 ^ n) (D := 1) (by omega) (by omega)
  rw [lim_one] at s2
  have s3 := ref1_shl (N := a.natAbs / 2 ^ n) (m := n) (by omega) hn
  have l3 := lim_len_shl (a := a.natAbs / 2 ^ n) (n := n)
  have c := ref1_CmpL (N := a.natAbs / 2 ^ n * 2 ^ n) (D := a.natAbs) (by omega) (by omega)
  have e2 : (cmpN (a.natAbs / 2 ^ n * 2 ^ n) a.natAbs != 0) = decide (a.natAbs % 2 ^ n ≠ 0) := by
    rw [cmpN_ne]
    refine decide_eq_decide.2 ?_
    have := Nat.div_add_mod a.natAbs (2 ^ n)
    rw [Nat.mul_comm (2 ^ n)] at this
    omega
  have hl := fun (n : Nat) => lenpos (n := n)
  have l5 := lim_len_add (a := a.natAbs / 2 ^ n) (b := 1) (L := 100000) (by omega) (by omega)
  have e := fall_eq (a := a) hd
  have e0 : (0 : Int) - (n : Int) = -(n : Int) := by omega
  generalize 2 ^ n = D at *
  by_cases h : a < 0
  · by_cases h2 : a.natAbs % D = 0
    · rw [if_neg (fun g => g.2 h2)] at e
      rw [e, sgn_iv, decide_eq_true h]
      rw [h2] at e2
      have h0' : decide ((0 : Nat) ≠ 0) = false := rfl
      rw [h0'] at e2
      generalize cmpN (a.natAbs / D * D) a.natAbs = z at *
      generalize a.natAbs / D * D = y at *
      generalize a.natAbs / D = x at *
      refine Go.Ev.Fn.intro (fn := Tryz.f158) (body := (Tryz.f158).body.get!) (by kernel_rfl) (by kernel_rfl) (by kernel_rfl) (fun _ => rfl) (Nat.le_of_ble_eq_true (by kernel_rfl)) ?_; unfold Tryz.f158; simp only [Option.get!_some]
      repeat (first | (simp only [go_sem, Nat.reduceEqDiff, Nat.reduceAdd, Nat.reduceSub, Nat.reduceMul, Nat.reduceLeDiff, Nat.reduceLT, reduceIte, reduceCtorEq, Nat.succ_ne_zero, elemsC, Int.reduceToNat, Nat.reducePow, hl, e0, Bool.true_and, e2]) | (simp (disch := (first | omega | (simp only [AL, List.length_map]; omega))) only [AR, AL, ifT, ifF, take_all, List.length_cons, List.length_nil, Int.reduceToNat, Int.reducePow, Nat.reducePow, hl, e0, Bool.true_and, e2]) | (refine wk_intro (by kernel_rfl) ?_) | (refine vp_draw (id := 2) (l := [5, 16, 18]) (by kernel_rfl) ?_) | (refine vf_of (by first | exact s1 | exact s3 | exact c) ?_))
    · rw [if_pos ⟨h, h2⟩] at e
      rw [e, show -((a.natAbs / D + 1 : Nat) : Int) = sgn true (a.natAbs / D + 1) from rfl, sgn_iv]
      rw [decide_eq_true h2] at e2
      generalize cmpN (a.natAbs / D * D) a.natAbs = z at *
      generalize a.natAbs / D * D = y at *
      generalize a.natAbs / D + 1 = x' at *
      generalize a.natAbs / D = x at *
      refine Go.Ev.Fn.intro (fn := Tryz.f158) (body := (Tryz.f158).body.get!) (by kernel_rfl) (by kernel_rfl) (by kernel_rfl) (fun _ => rfl) (Nat.le_of_ble_eq_true (by kernel_rfl)) ?_; unfold Tryz.f158; simp only [Option.get!_some]
      repeat (first | (simp only [go_sem, Nat.reduceEqDiff, Nat.reduceAdd, Nat.reduceSub, Nat.reduceMul, Nat.reduceLeDiff, Nat.reduceLT, reduceIte, reduceCtorEq, Nat.succ_ne_zero, elemsC, Int.reduceToNat, Nat.reducePow, hl, e0, Bool.true_and, e2]) | (simp (disch := (first | omega | (simp only [AL, List.length_map]; omega))) only [AR, AL, ifT, ifF, take_all, List.length_cons, List.length_nil, Int.reduceToNat, Int.reducePow, Nat.reducePow, hl, e0, Bool.true_and, e2]) | (refine wk_intro (by kernel_rfl) ?_) | (refine vp_draw (id := 2) (l := [5, 16, 18]) (by kernel_rfl) ?_) | (refine vf_of (by first | exact s1 | exact s3 | exact c | exact s2) ?_))
  · rw [if_neg (fun g => h g.1)] at e
    rw [e, sgn_iv, decide_eq_false h]
    generalize a.natAbs / D = x at *
    refine Go.Ev.Fn.intro (fn := Tryz.f158) (body := (Tryz.f158).body.get!) (by kernel_rfl) (by kernel_rfl) (by kernel_rfl) (fun _ => rfl) (Nat.le_of_ble_eq_true (by kernel_rfl)) ?_; unfold Tryz.f158; simp only [Option.get!_some]
    repeat (first | (simp only [go_sem, Nat.reduceEqDiff, Nat.reduceAdd, Nat.reduceSub, Nat.reduceMul, Nat.reduceLeDiff, Nat.reduceLT, reduceIte, reduceCtorEq, Nat.succ_ne_zero, elemsC, Int.reduceToNat, Nat.reducePow, hl, e0, Bool.false_and]) | (simp (disch := (first | omega | (simp only [AL, List.length_map]; omega))) only [AR, AL, ifT, ifF, take_all, List.length_cons, List.length_nil, Int.reduceToNat, Int.reducePow, Nat.reducePow, hl, e0, Bool.false_and]) | (refine wk_intro (by kernel_rfl) ?_) | (refine vp_draw (id := 2) (l := [5, 16, 18]) (by kernel_rfl) ?_) | (refine vf_of (by first | exact s1) ?_))
theorem ref4_More (a : Int) (n : Nat) (ha : (lim a.natAbs).length ≤ 100000) (hn : n ≤ 4096) (h0 : 0 < n) : Go.Ev.Fn CX 159 [intV a, .int .i64 (n : Int)] (intV (cdZ a (2 ^ n))) := by
  have hd : 2 ^ n ≠ 0 := Nat.ne_of_gt (Nat.pow_pos (by omega))
  have o := ref4_Opp a (by omega)
  have f := ref4_Less (-a) n (by rw [Int.natAbs_neg]; exact ha) hn h0
  have l := lim_len_mono (abs_div_le (-a) hd)
  rw [Int.natAbs_neg a] at l
  have o2 := ref4_Opp (-a / ((2 ^ n : Nat) : Int)) (by omega)
  unfold cdZ
  generalize -a / ((2 ^ n : Nat) : Int) = y at *
  refine Go.Ev.Fn.intro (fn := Tryz.f159) (body := (Tryz.f159).body.get!) (by kernel_rfl) (by kernel_rfl) (by kernel_rfl) (fun _ => rfl) (Nat.le_of_ble_eq_true (by kernel_rfl)) ?_; unfold Tryz.f159; simp only [Option.get!_some]
  repeat (first | (simp only [go_sem, Nat.reduceEqDiff, Nat.reduceAdd, Nat.reduceSub, Nat.reduceMul, Nat.reduceLeDiff, Nat.reduceLT, reduceIte, reduceCtorEq, Nat.succ_ne_zero, elemsC, Int.reduceToNat, Nat.reducePow]) | (simp (disch := (first | omega | (simp only [AL, List.length_map]; omega))) only [AR, AL, ifT, ifF, take_all, List.length_cons, List.length_nil, Int.reduceToNat, Int.reducePow, Nat.reducePow]) | (refine wk_intro (by kernel_rfl) ?_) | (refine vf_of (by first | exact o | exact f | exact o2) ?_))
theorem mul_p2_abs (z : Int) (w : Nat) : (z * ((2 ^ w : Nat) : Int)).natAbs = z.natAbs * 2 ^ w := by rw [Int.natAbs_mul, Int.natAbs_natCast]
theorem ref4_Num {v : SV} {q : Rat} {L w : Nat} (hv : RatA v q L) (hL1 : 1 ≤ L) (hL : L ≤ 100000) (hw : w ≤ 4096) : Go.Ev.Fn CX 60 [v, .int .i64 (w : Int)] (ivV (q.num * ((2 ^ w : Nat) : Int) / (q.den : Int)) (cdZ (q.num * ((2 ^ w : Nat) : Int)) q.den)) := by
  have n1 := ref2_Norm hv (by omega)
  obtain ⟨z1, z2⟩ := szR_of hv hL1
  have s1 := ref1_shl (N := q.num.natAbs) (m := w) (by omega) hw
  have l1 := lim_len_shl (a := q.num.natAbs) (n := w)
  have hP : 0 < 2 ^ w := Nat.pow_pos (by omega)
  have ea := mul_p2_abs q.num w
  have en : decide (q.num * ((2 ^ w : Nat) : Int) < 0) = decide (q.num < 0) := decide_eq_decide.2 ⟨fun h => by
      rcases Int.lt_or_le q.num 0 with g | g
      · exact g
      · have := Int.mul_nonneg g (Int.natCast_nonneg (2 ^ w)); omega, fun h => Int.mul_neg_of_neg_of_pos h (by omega)⟩
  have f := ref4_Fall (q.num * ((2 ^ w : Nat) : Int)) q.den q.den_nz (by rw [ea]; omega) (by omega)
  have r := ref4_Rise (q.num * ((2 ^ w : Nat) : Int)) q.den q.den_nz (by rw [ea]; omega) (by omega)
  unfold intV at f r
  rw [ea, en] at f r
  obtain ⟨s, n, d, rfl, -⟩ := hv
  generalize q.num * ((2 ^ w : Nat) : Int) / (q.den : Int) = x at *
  generalize cdZ (q.num * ((2 ^ w : Nat) : Int)) q.den = y at *
  generalize q.num.natAbs * 2 ^ w = u at *
  refine Go.Ev.Fn.intro (fn := Tryz.f60) (body := (Tryz.f60).body.get!) (by kernel_rfl) (by kernel_rfl) (by kernel_rfl) (fun _ => rfl) (Nat.le_of_ble_eq_true (by kernel_rfl)) ?_; unfold Tryz.f60; simp only [Option.get!_some]
  repeat (first | (simp only [go_sem, Nat.reduceEqDiff, Nat.reduceAdd, Nat.reduceSub, Nat.reduceMul, Nat.reduceLeDiff, Nat.reduceLT, reduceIte, reduceCtorEq, Nat.succ_ne_zero, elemsC, Int.reduceToNat, Nat.reducePow]) | (simp (disch := (first | omega | (simp only [AL, List.length_map]; omega))) only [AR, AL, ifT, ifF, take_all, List.length_cons, List.length_nil, Int.reduceToNat, Int.reducePow, Nat.reducePow]) | (refine wk_intro (by kernel_rfl) ?_) | (refine vp_draw (id := 2) (l := [12]) (by kernel_rfl) ?_) | (refine vp_draw (id := 3) (l := [18, 22]) (by kernel_rfl) ?_) | (refine vf_of (by first | exact n1 | exact s1 | exact f | exact r) ?_))
section
variable {a b c d : Int} (ha : (lim a.natAbs).length ≤ 100000) (hb : (lim b.natAbs).length ≤ 100000) (hc : (lim c.natAbs).length ≤ 100000) (hd : (lim d.natAbs).length ≤ 100000)
include ha hb
theorem ref4_Sum (hc : (lim c.natAbs).length ≤ 100000) (hd : (lim d.natAbs).length ≤ 100000) : Go.Ev.Fn CX 175 [ivV a b, ivV c d] (ivV (a + c) (b + d)) := by
  have s1 := ref4_Plus a c (by omega) (by omega)
  have s2 := ref4_Plus b d (by omega) (by omega)
  generalize a + c = x at *
  generalize b + d = y at *
  refine Go.Ev.Fn.intro (fn := Tryz.f175) (body := (Tryz.f175).body.get!) (by kernel_rfl) (by kernel_rfl) (by kernel_rfl) (fun _ => rfl) (Nat.le_of_ble_eq_true (by kernel_rfl)) ?_; unfold Tryz.f175; simp only [Option.get!_some]
  repeat (first | (simp only [go_sem, Nat.reduceEqDiff, Nat.reduceAdd, Nat.reduceSub, Nat.reduceMul, Nat.reduceLeDiff, Nat.reduceLT, reduceIte, reduceCtorEq, Nat.succ_ne_zero, elemsC, Int.reduceToNat, Nat.reducePow]) | (simp (disch := (first | omega | (simp only [AL, List.length_map]; omega))) only [AR, AL, ifT, ifF, take_all, List.length_cons, List.length_nil, Int.reduceToNat, Int.reducePow, Nat.reducePow]) | (refine wk_intro (by kernel_rfl) ?_) | (refine vp_draw (id := 1) (l := []) (by kernel_rfl) ?_) | (refine vf_of (by first | exact s1 | exact s2) ?_))
theorem ref4_Minus (hc : (lim c.natAbs).length ≤ 100000) (hd : (lim d.natAbs).length ≤ 100000) : Go.Ev.Fn CX 61 [ivV a b, ivV c d] (ivV (a - d) (b - c)) := by
  have o1 := ref4_Opp d (by omega)
  have o2 := ref4_Opp c (by omega)
  have s1 := ref4_Plus a (-d) (by omega) (by rw [Int.natAbs_neg]; omega)
  have s2 := ref4_Plus b (-c) (by omega) (by rw [Int.natAbs_neg]; omega)
  rw [← Int.sub_eq_add_neg] at s1 s2
  generalize a - d = x at *
  generalize b - c = y at *
  refine Go.Ev.Fn.intro (fn := Tryz.f61) (body := (Tryz.f61).body.get!) (by kernel_rfl) (by kernel_rfl) (by kernel_rfl) (fun _ => rfl) (Nat.le_of_ble_eq_true (by kernel_rfl)) ?_; unfold Tryz.f61; simp only [Option.get!_some]
  repeat (first | (simp only [go_sem, Nat.reduceEqDiff, Nat.reduceAdd, Nat.reduceSub, Nat.reduceMul, Nat.reduceLeDiff, Nat.reduceLT, reduceIte, reduceCtorEq, Nat.succ_ne_zero, elemsC, Int.reduceToNat, Nat.reducePow]) | (simp (disch := (first | omega | (simp only [AL, List.length_map]; omega))) only [AR, AL, ifT, ifF, take_all, List.length_cons, List.length_nil, Int.reduceToNat, Int.reducePow, Nat.reducePow]) | (refine wk_intro (by kernel_rfl) ?_) | (refine vp_draw (id := 1) (l := []) (by kernel_rfl) ?_) | (refine vf_of (by first | exact o1 | exact s1 | exact o2 | exact s2) ?_))
theorem ref4_Often (n : Int) (hn : -4294967296 < n ∧ n < 4294967296) : Go.Ev.Fn CX 155 [ivV a b, .int .i64 n] (ivV (a * n) (b * n)) := by
  have w := ref4_Whole n (by omega)
  have l : (lim n.natAbs).length ≤ 1 := lim_len_one (by omega)
  have s1 := ref4_Times a n (by omega) (by omega)
  have s2 := ref4_Times b n (by omega) (by omega)
  generalize a * n = x at *
  generalize b * n = y at *
  refine Go.Ev.Fn.intro (fn := Tryz.f155) (body := (Tryz.f155).body.get!) (by kernel_rfl) (by kernel_rfl) (by kernel_rfl) (fun _ => rfl) (Nat.le_of_ble_eq_true (by kernel_rfl)) ?_; unfold Tryz.f155; simp only [Option.get!_some]
  repeat (first | (simp only [go_sem, Nat.reduceEqDiff, Nat.reduceAdd, Nat.reduceSub, Nat.reduceMul, Nat.reduceLeDiff, Nat.reduceLT, reduceIte, reduceCtorEq, Nat.succ_ne_zero, elemsC, Int.reduceToNat, Nat.reducePow]) | (simp (disch := (first | omega | (simp only [AL, List.length_map]; omega))) only [AR, AL, ifT, ifF, take_all, List.length_cons, List.length_nil, Int.reduceToNat, Int.reducePow, Nat.reducePow]) | (refine wk_intro (by kernel_rfl) ?_) | (refine vp_draw (id := 1) (l := []) (by kernel_rfl) ?_) | (refine vf_of (by first | exact w | exact s1 | exact s2) ?_))
theorem ref4_By (n : Nat) (h0 : 0 < n) (hn : n < 9223372036854775808) : Go.Ev.Fn CX 174 [ivV a b, .int .i64 (n : Int)] (ivV (a / (n : Int)) (cdZ b n)) := by
  have o := ref1_Of n (by omega)
  have l : (lim n).length ≤ 2 := lim_len_lt (by omega)
  have f := ref4_Fall a n (by omega) (by omega) (by omega)
  have r := ref4_Rise b n (by omega) (by omega) (by omega)
  generalize a / (n : Int) = x at *
  generalize cdZ b n = y at *
  refine Go.Ev.Fn.intro (fn := Tryz.f174) (body := (Tryz.f174).body.get!) (by kernel_rfl) (by kernel_rfl) (by kernel_rfl) (fun _ => rfl) (Nat.le_of_ble_eq_true (by kernel_rfl)) ?_; unfold Tryz.f174; simp only [Option.get!_some]
  repeat (first | (simp only [go_sem, Nat.reduceEqDiff, Nat.reduceAdd, Nat.reduceSub, Nat.reduceMul, Nat.reduceLeDiff, Nat.reduceLT, reduceIte, reduceCtorEq, Nat.succ_ne_zero, elemsC, Int.reduceToNat, Nat.reducePow]) | (simp (disch := (first | omega | (simp only [AL, List.length_map]; omega))) only [AR, AL, ifT, ifF, take_all, List.length_cons, List.length_nil, Int.reduceToNat, Int.reducePow, Nat.reducePow]) | (refine wk_intro (by kernel_rfl) ?_) | (refine vp_draw (id := 2) (l := [5, 5]) (by kernel_rfl) ?_) | (refine vf_of (by first | exact o | exact f | exact r) ?_))
theorem ref4_Wide (n : Int) (hn : -4294967296 < n ∧ n < 4294967296) : Go.Ev.Fn CX 177 [ivV a b, .int .i64 n] (ivV (a - n) (b + n)) := by
  have w1 := ref4_Whole (-n) (by omega)
  have w2 := ref4_Whole n (by omega)
  have l : (lim n.natAbs).length ≤ 1 := lim_len_one (by omega)
  have s1 := ref4_Plus a (-n) (by omega) (by rw [Int.natAbs_neg]; omega)
  have s2 := ref4_Plus b n (by omega) (by omega)
  rw [← Int.sub_eq_add_neg] at s1
  have e0 : 0 - n = -n := by omega
  generalize a - n = x at *
  generalize b + n = y at *
  refine Go.Ev.Fn.intro (fn := Tryz.f177) (body := (Tryz.f177).body.get!) (by kernel_rfl) (by kernel_rfl) (by kernel_rfl) (fun _ => rfl) (Nat.le_of_ble_eq_true (by kernel_rfl)) ?_; unfold Tryz.f177; simp only [Option.get!_some]
  repeat (first | (simp only [go_sem, Nat.reduceEqDiff, Nat.reduceAdd, Nat.reduceSub, Nat.reduceMul, Nat.reduceLeDiff, Nat.reduceLT, reduceIte, reduceCtorEq, Nat.succ_ne_zero, elemsC, Int.reduceToNat, Nat.reducePow, e0]) | (simp (disch := (first | omega | (simp only [AL, List.length_map]; omega))) only [AR, AL, ifT, ifF, take_all, List.length_cons, List.length_nil, Int.reduceToNat, Int.reducePow, Nat.reducePow, e0]) | (refine wk_intro (by kernel_rfl) ?_) | (refine vp_draw (id := 1) (l := []) (by kernel_rfl) ?_) | (refine vf_of (by first | exact w1 | exact s1 | exact w2 | exact s2) ?_))
theorem ref4_Most : Go.Ev.Fn CX 176 [ivV a b] (intV ((max a.natAbs b.natAbs : Nat) : Int)) := by
  have c := ref4_Cmp (a.natAbs : Int) (b.natAbs : Int) (by rw [Int.natAbs_natCast]; exact ha) (by rw [Int.natAbs_natCast]; exact hb)
  have q : ∀ n : Nat, intV (n : Int) = .agg [.bool false, natV (lim n)] := fun n => iv_eq (Int.natAbs_natCast n) (decide_eq_false (by omega))
  rw [q, q] at c
  rw [q]
  by_cases h : b.natAbs < a.natAbs
  · have e : decide (cmpZ (a.natAbs : Int) (b.natAbs : Int) > 0) = true := decide_eq_true (by unfold cmpZ; rw [if_neg (by omega), if_neg (by omega)]; omega)
    rw [Nat.max_eq_left (by omega)]
    generalize cmpZ (a.natAbs : Int) (b.natAbs : Int) = z at *
    refine Go.Ev.Fn.intro (fn := Tryz.f176) (body := (Tryz.f176).body.get!) (by kernel_rfl) (by kernel_rfl) (by kernel_rfl) (fun _ => rfl) (Nat.le_of_ble_eq_true (by kernel_rfl)) ?_; unfold Tryz.f176; simp only [Option.get!_some]
    repeat (first | (simp only [go_sem, Nat.reduceEqDiff, Nat.reduceAdd, Nat.reduceSub, Nat.reduceMul, Nat.reduceLeDiff, Nat.reduceLT, reduceIte, reduceCtorEq, Nat.succ_ne_zero, elemsC, Int.reduceToNat, Nat.reducePow, e]) | (simp (disch := (first | omega | (simp only [AL, List.length_map]; omega))) only [AR, AL, ifT, ifF, take_all, List.length_cons, List.length_nil, Int.reduceToNat, Int.reducePow, Nat.reducePow, e]) | (refine wk_intro (by kernel_rfl) ?_) | (refine vp_draw (id := 1) (l := []) (by kernel_rfl) ?_) | (refine vf_of (by first | exact c) ?_))
  · have e : decide (cmpZ (a.natAbs : Int) (b.natAbs : Int) > 0) = false := decide_eq_false (by unfold cmpZ; split <;> (try split) <;> omega)
    rw [Nat.max_eq_right (by omega)]
    generalize cmpZ (a.natAbs : Int) (b.natAbs : Int) = z at *
    refine Go.Ev.Fn.intro (fn := Tryz.f176) (body := (Tryz.f176).body.get!) (by kernel_rfl) (by kernel_rfl) (by kernel_rfl) (fun _ => rfl) (Nat.le_of_ble_eq_true (by kernel_rfl)) ?_; unfold Tryz.f176; simp only [Option.get!_some]
    repeat (first | (simp only [go_sem, Nat.reduceEqDiff, Nat.reduceAdd, Nat.reduceSub, Nat.reduceMul, Nat.reduceLeDiff, Nat.reduceLT, reduceIte, reduceCtorEq, Nat.succ_ne_zero, elemsC, Int.reduceToNat, Nat.reducePow, e]) | (simp (disch := (first | omega | (simp only [AL, List.length_map]; omega))) only [AR, AL, ifT, ifF, take_all, List.length_cons, List.length_nil, Int.reduceToNat, Int.reducePow, Nat.reducePow, e]) | (refine wk_intro (by kernel_rfl) ?_) | (refine vp_draw (id := 1) (l := []) (by kernel_rfl) ?_) | (refine vf_of (by first | exact c) ?_))
theorem ref4_Back (n : Nat) (hn : n ≤ 4096) (h0 : 0 < n) : Go.Ev.Fn CX 91 [ivV a b, .int .i64 (n : Int)] (ivV (a / ((2 ^ n : Nat) : Int)) (cdZ b (2 ^ n))) := by
  have s1 := ref4_Less a n ha hn h0
  have s2 := ref4_More b n hb hn h0
  generalize a / ((2 ^ n : Nat) : Int) = x at *
  generalize cdZ b (2 ^ n) = y at *
  refine Go.Ev.Fn.intro (fn := Tryz.f91) (body := (Tryz.f91).body.get!) (by kernel_rfl) (by kernel_rfl) (by kernel_rfl) (fun _ => rfl) (Nat.le_of_ble_eq_true (by kernel_rfl)) ?_; unfold Tryz.f91; simp only [Option.get!_some]
  repeat (first | (simp only [go_sem, Nat.reduceEqDiff, Nat.reduceAdd, Nat.reduceSub, Nat.reduceMul, Nat.reduceLeDiff, Nat.reduceLT, reduceIte, reduceCtorEq, Nat.succ_ne_zero, elemsC, Int.reduceToNat, Nat.reducePow]) | (simp (disch := (first | omega | (simp only [AL, List.length_map]; omega))) only [AR, AL, ifT, ifF, take_all, List.length_cons, List.length_nil, Int.reduceToNat, Int.reducePow, Nat.reducePow]) | (refine wk_intro (by kernel_rfl) ?_) | (refine vp_draw (id := 1) (l := []) (by kernel_rfl) ?_) | (refine vf_of (by first | exact s1 | exact s2) ?_))
omit hb in
theorem ref4_Rat (w : Nat) (hw : w ≤ 4096) : Go.Ev.Fn CX 87 [intV a, .int .i64 (w : Int)] (rv (mkRat a (2 ^ w))) := by
  have p := ref4_pow2 (n := w) hw
  have l := lim_len_shl (a := 1) (n := w)
  have l1 := lim_len1
  rw [Nat.one_mul] at l
  have o := ref2_OfL (s := decide (a < 0)) (n := a.natAbs) (d := 2 ^ w) (by omega) (by omega)
  rw [sgn_self] at o
  generalize 2 ^ w = D at *
  refine Go.Ev.Fn.intro (fn := Tryz.f87) (body := (Tryz.f87).body.get!) (by kernel_rfl) (by kernel_rfl) (by kernel_rfl) (fun _ => rfl) (Nat.le_of_ble_eq_true (by kernel_rfl)) ?_; unfold Tryz.f87; simp only [Option.get!_some]
  repeat (first | (simp only [go_sem, Nat.reduceEqDiff, Nat.reduceAdd, Nat.reduceSub, Nat.reduceMul, Nat.reduceLeDiff, Nat.reduceLT, reduceIte, reduceCtorEq, Nat.succ_ne_zero, elemsC, Int.reduceToNat, Nat.reducePow]) | (simp (disch := (first | omega | (simp only [AL, List.length_map]; omega))) only [AR, AL, ifT, ifF, take_all, List.length_cons, List.length_nil, Int.reduceToNat, Int.reducePow, Nat.reducePow]) | (refine wk_intro (by kernel_rfl) ?_) | (refine vp_draw (id := 1) (l := [8, 10]) (by kernel_rfl) ?_) | (refine vf_of (by first | exact p | exact o) ?_))
theorem ref4_Ball (w : Nat) (hw : w ≤ 4096) : Go.Ev.Fn CX 44 [ivV a b, .int .i64 (w : Int)] (ballR (mkRat a (2 ^ w)) (mkRat b (2 ^ w))) := by
  have s1 := ref4_Rat ha w hw
  have s2 := ref4_Rat hb w hw
  generalize mkRat a (2 ^ w) = x at *
  generalize mkRat b (2 ^ w) = y at *
  refine Go.Ev.Fn.intro (fn := Tryz.f44) (body := (Tryz.f44).body.get!) (by kernel_rfl) (by kernel_rfl) (by kernel_rfl) (fun _ => rfl) (Nat.le_of_ble_eq_true (by kernel_rfl)) ?_; unfold Tryz.f44; simp only [Option.get!_some]
  repeat (first | (simp only [go_sem, Nat.reduceEqDiff, Nat.reduceAdd, Nat.reduceSub, Nat.reduceMul, Nat.reduceLeDiff, Nat.reduceLT, reduceIte, reduceCtorEq, Nat.succ_ne_zero, elemsC, Int.reduceToNat, Nat.reducePow]) | (simp (disch := (first | omega | (simp only [AL, List.length_map]; omega))) only [AR, AL, ifT, ifF, take_all, List.length_cons, List.length_nil, Int.reduceToNat, Int.reducePow, Nat.reducePow]) | (refine wk_intro (by kernel_rfl) ?_) | (refine vp_draw (id := 1) (l := []) (by kernel_rfl) ?_) | (refine vf_of (by first | exact s1 | exact s2) ?_))
end
end Go.Proofs.YthbjgdmcnonofaaGreat

/- fix.Shift, in the evaluator. -/
namespace Go.Proofs.YthbjgdmcnonofaaGreat
set_option linter.unusedSimpArgs false
set_option linter.unusedVariables false
set_option maxRecDepth 8000
open Go.Ev
theorem nat_shl {N m : Nat} (h : (lim N).length ≤ 1073741824) (hm : m ≤ 4096) : Go.Ev.Fn CX 144 [natV (lim N), .int .i64 (m : Int)] (natV (lim (N * 2 ^ m))) := by
  have := shift_up (lim N) m (okL_lim _) h _ rfl hm
  rwa [wth_lim] at this
theorem nat_shr {N m : Nat} (h : (lim N).length ≤ 1073741824) (hm : m ≤ 4096) (h0 : 0 < m) : Go.Ev.Fn CX 144 [natV (lim N), .int .i64 (-(m : Int))] (natV (lim (N / 2 ^ m))) := by
  have := shift_down (lim N) m (okL_lim _) h _ rfl hm h0
  rwa [wth_lim] at this
theorem fix_shl {a m : Nat} (ha : (lim a).length ≤ 100000) (hm : m ≤ 100000) : Go.Ev.Fn CX 97 [natV (lim a), .int .i64 (m : Int)] (natV (lim (a * 2 ^ m))) := by
  have hl := fun j => lim_len_shl (a := a) (n := j)
  refine Go.Ev.Fn.intro (fn := Tryz.f97) (body := (Tryz.f97).body.get!) (by kernel_rfl) (by kernel_rfl) (by kernel_rfl) (fun _ => rfl) (Nat.le_of_ble_eq_true (by kernel_rfl)) ?_; unfold Tryz.f97; simp only [Option.get!_some]
  repeat (first | (simp only [go_sem, Nat.reduceEqDiff, Nat.reduceAdd, Nat.reduceSub, Nat.reduceMul, Nat.reduceLeDiff, Nat.reduceLT, reduceIte, reduceCtorEq, Nat.succ_ne_zero, elemsC, Int.reduceToNat, Nat.reducePow]) | (simp (disch := (first | omega | (simp only [AL, List.length_map]; omega))) only [AR, AL, ifT, ifF, take_all, List.length_cons, List.length_nil, Int.reduceToNat, Int.reducePow, Nat.reducePow]) | (refine wk_intro (by kernel_rfl) ?_))
  refine vp_loop_inv (fun s => ∃ j : Nat, j ≤ m ∧ s.tmp 0 = .sv (natV (lim (a * 2 ^ j))) ∧ s.tmp 1 = .sv (.int .i64 ((m - j : Nat) : Int)))
    (fun s => match s.tmp 1 with | .sv (.int _ i) => i.toNat | _ => 0) ⟨0, by omega, by rw [Nat.pow_zero, Nat.mul_one]; rfl, rfl⟩ ?_
  rintro s ⟨j, hj, i0, i1⟩
  have hlj := hl j
  by_cases hc : 1024 < m - j
  · obtain ⟨K, hK⟩ : ∃ K : Nat, K = 1024 := ⟨_, rfl⟩
    have st := nat_shl (N := a * 2 ^ j) (m := K) (by omega) (by omega)
    rw [Nat.mul_assoc, ← Nat.pow_add] at st
    generalize hx : a * 2 ^ j = x at *
    generalize hy : a * 2 ^ (j + K) = y at *
    rw [show (K : Int) = 1024 by omega] at st
    repeat (first | (simp only [go_sem, Nat.reduceEqDiff, Nat.reduceAdd, Nat.reduceSub, Nat.reduceMul, Nat.reduceLeDiff, Nat.reduceLT, reduceIte, reduceCtorEq, Nat.succ_ne_zero, elemsC, Int.reduceToNat, Nat.reducePow, i0, i1]) | (simp (disch := (first | omega | (simp only [AL, List.length_map]; omega))) only [AR, AL, ifT, ifF, take_all, List.length_cons, List.length_nil, Int.reduceToNat, Int.reducePow, Nat.reducePow, i0, i1]) | (refine wk_intro (by kernel_rfl) ?_) | (refine vf_of (by first | exact st) ?_))
    exact ⟨⟨j + K, by omega, by rw [hy], by rw [show ((m - (j + K) : Nat) : Int) = ((m - j : Nat) : Int) - 1024 by omega]⟩, by omega⟩
  · have st := nat_shl (N := a * 2 ^ j) (m := m - j) (by omega) (by omega)
    rw [Nat.mul_assoc, ← Nat.pow_add, show j + (m - j) = m by omega] at st
    generalize a * 2 ^ j = x at *
    generalize a * 2 ^ m = y at *
    repeat (first | (simp only [go_sem, Nat.reduceEqDiff, Nat.reduceAdd, Nat.reduceSub, Nat.reduceMul, Nat.reduceLeDiff, Nat.reduceLT, reduceIte, reduceCtorEq, Nat.succ_ne_zero, elemsC, Int.reduceToNat, Nat.reducePow, i0, i1]) | (simp (disch := (first | omega | (simp only [AL, List.length_map]; omega))) only [AR, AL, ifT, ifF, take_all, List.length_cons, List.length_nil, Int.reduceToNat, Int.reducePow, Nat.reducePow, i0, i1]) | (refine wk_intro (by kernel_rfl) ?_))
    refine vp_loop_inv (fun s => s.tmp 0 = .sv (natV (lim x)) ∧ s.tmp 1 = .sv (.int .i64 ((m - j : Nat) : Int))) (fun _ => 0) ⟨i0, i1⟩ ?_
    rintro s' ⟨j0, j1⟩
    repeat (first | (simp only [go_sem, Nat.reduceEqDiff, Nat.reduceAdd, Nat.reduceSub, Nat.reduceMul, Nat.reduceLeDiff, Nat.reduceLT, reduceIte, reduceCtorEq, Nat.succ_ne_zero, elemsC, Int.reduceToNat, Nat.reducePow, j0, j1]) | (simp (disch := (first | omega | (simp only [AL, List.length_map]; omega))) only [AR, AL, ifT, ifF, take_all, List.length_cons, List.length_nil, Int.reduceToNat, Int.reducePow, Nat.reducePow, j0, j1]) | (refine wk_intro (by kernel_rfl) ?_) | (refine vf_of (by first | exact st) ?_))
theorem fix_shr {a m : Nat} (ha : (lim a).length ≤ 100000) (hm : m ≤ 100000) (h0 : 0 < m) : Go.Ev.Fn CX 97 [natV (lim a), .int .i64 (-(m : Int))] (natV (lim (a / 2 ^ m))) := by
  have hl := fun j => lim_len_mono (Nat.div_le_self a (2 ^ j))
  refine Go.Ev.Fn.intro (fn := Tryz.f97) (body := (Tryz.f97).body.get!) (by kernel_rfl) (by kernel_rfl) (by kernel_rfl) (fun _ => rfl) (Nat.le_of_ble_eq_true (by kernel_rfl)) ?_; unfold Tryz.f97; simp only [Option.get!_some]
  repeat (first | (simp only [go_sem, Nat.reduceEqDiff, Nat.reduceAdd, Nat.reduceSub, Nat.reduceMul, Nat.reduceLeDiff, Nat.reduceLT, reduceIte, reduceCtorEq, Nat.succ_ne_zero, elemsC, Int.reduceToNat, Nat.reducePow]) | (simp (disch := (first | omega | (simp only [AL, List.length_map]; omega))) only [AR, AL, ifT, ifF, take_all, List.length_cons, List.length_nil, Int.reduceToNat, Int.reducePow, Nat.reducePow]) | (refine wk_intro (by kernel_rfl) ?_))
  refine vp_loop_inv (fun s => s.tmp 0 = .sv (natV (lim a)) ∧ s.tmp 1 = .sv (.int .i64 (-(m : Int)))) (fun _ => 0) ⟨rfl, rfl⟩ ?_
  rintro s ⟨i0, i1⟩
  repeat (first | (simp only [go_sem, Nat.reduceEqDiff, Nat.reduceAdd, Nat.reduceSub, Nat.reduceMul, Nat.reduceLeDiff, Nat.reduceLT, reduceIte, reduceCtorEq, Nat.succ_ne_zero, elemsC, Int.reduceToNat, Nat.reducePow, i0, i1]) | (simp (disch := (first | omega | (simp only [AL, List.length_map]; omega))) only [AR, AL, ifT, ifF, take_all, List.length_cons, List.length_nil, Int.reduceToNat, Int.reducePow, Nat.reducePow, i0, i1]) | (refine wk_intro (by kernel_rfl) ?_))
  refine vp_loop_inv (fun s => ∃ j : Nat, j < m ∧ s.tmp 0 = .sv (natV (lim (a / 2 ^ j))) ∧ s.tmp 1 = .sv (.int .i64 (-((m - j : Nat) : Int))))
    (fun s => match s.tmp 1 with | .sv (.int _ i) => (-i).toNat | _ => 0) ⟨0, by omega, by rw [Nat.pow_zero, Nat.div_one]; exact i0, i1⟩ ?_
  rintro s2 ⟨j, hj, j0, j1⟩
  have hlj := hl j
  by_cases hc : 1024 < m - j
  · obtain ⟨K, hK⟩ : ∃ K : Nat, K = 1024 := ⟨_, rfl⟩
    have st := nat_shr (N := a / 2 ^ j) (m := K) (by omega) (by omega) (by omega)
    rw [Nat.div_div_eq_div_mul, ← Nat.pow_add] at st
    generalize hx : a / 2 ^ j = x at *
    generalize hy : a / 2 ^ (j + K) = y at *
    rw [show -(K : Int) = -1024 by omega] at st
    repeat (first | (simp only [go_sem, Nat.reduceEqDiff, Nat.reduceAdd, Nat.reduceSub, Nat.reduceMul, Nat.reduceLeDiff, Nat.reduceLT, reduceIte, reduceCtorEq, Nat.succ_ne_zero, elemsC, Int.reduceToNat, Nat.reducePow, j0, j1]) | (simp (disch := (first | omega | (simp only [AL, List.length_map]; omega))) only [AR, AL, ifT, ifF, take_all, List.length_cons, List.length_nil, Int.reduceToNat, Int.reducePow, Nat.reducePow, j0, j1]) | (refine wk_intro (by kernel_rfl) ?_) | (refine vf_of (by first | exact st) ?_))
    exact ⟨⟨j + K, by omega, by rw [hy], by rw [show -((m - (j + K) : Nat) : Int) = -((m - j : Nat) : Int) + 1024 by omega]⟩, by omega⟩
  · have st := nat_shr (N := a / 2 ^ j) (m := m - j) (by omega) (by omega) (by omega)
    rw [Nat.div_div_eq_div_mul, ← Nat.pow_add, show j + (m - j) = m by omega] at st
    generalize a / 2 ^ j = x at *
    generalize a / 2 ^ m = y at *
    repeat (first | (simp only [go_sem, Nat.reduceEqDiff, Nat.reduceAdd, Nat.reduceSub, Nat.reduceMul, Nat.reduceLeDiff, Nat.reduceLT, reduceIte, reduceCtorEq, Nat.succ_ne_zero, elemsC, Int.reduceToNat, Nat.reducePow, j0, j1]) | (simp (disch := (first | omega | (simp only [AL, List.length_map]; omega))) only [AR, AL, ifT, ifF, take_all, List.length_cons, List.length_nil, Int.reduceToNat, Int.reducePow, Nat.reducePow, j0, j1]) | (refine wk_intro (by kernel_rfl) ?_) | (refine vf_of (by first | exact st) ?_))
end Go.Proofs.YthbjgdmcnonofaaGreat

/- nat.Bits, fix.Small; vernierref1.Bits, vernierref4.root, Sqrt, in the evaluator. -/
namespace Go.Proofs.YthbjgdmcnonofaaGreat
set_option linter.unusedSimpArgs false
set_option linter.unusedVariables false
set_option maxRecDepth 8000
open Go.Ev
theorem blen_iff {x k : Nat} : blen x ≤ k ↔ x < 2 ^ k := by
  unfold blen
  by_cases h : x = 0
  · rw [if_pos h, h]
    have : 0 < 2 ^ k := Nat.pow_pos (by omega)
    omega
  · rw [if_neg h]
    have := Nat.log2_lt (n := x) (k := k) h
    omega
theorem blen_lims (N : Nat) (h : N ≠ 0) : blen N = 32 * ((lim N).length - 1) + blen ((lim N).getD ((lim N).length - 1) 0) := by
  have h0 := lim_pos h
  have ht := trimL_getD (trimL_lim N) h0
  have hw := wth_lim N
  have hok := okL_lim N
  generalize lim N = a at *
  have h1 := wth_at a (w := a.length - 1) (by omega)
  rw [List.drop_of_length_le (by omega), show wth [] = 0 from rfl, Nat.mul_zero, Nat.add_zero, hw] at h1
  have h2 := wth_lt (okL_take hok (a.length - 1))
  rw [List.length_take, Nat.min_eq_left (by omega)] at h2
  rw [show (4294967296 : Nat) = 2 ^ 32 from rfl, ← Nat.pow_mul] at h1 h2
  have hp : 0 < 2 ^ (32 * (a.length - 1)) := Nat.pow_pos (by omega)
  have h3 : N / 2 ^ (32 * (a.length - 1)) = a.getD (a.length - 1) 0 := by
    rw [h1, Nat.add_mul_div_left _ _ hp, Nat.div_eq_of_lt h2, Nat.zero_add]
  have h4 : 2 ^ (32 * (a.length - 1)) ≤ N := by
    have := Nat.mul_le_mul_left (2 ^ (32 * (a.length - 1))) (show 1 ≤ a.getD (a.length - 1) 0 by omega)
    omega
  rw [blen_shift h4, h3]
theorem nat_Bits {N : Nat} (h : (lim N).length ≤ 1000000) : Go.Ev.Fn CX 170 [natV (lim N)] (.int .i64 (blen N : Nat)) := by
  have t := nat_trim (lim N) (okL_lim N) (by omega)
  rw [wth_lim] at t
  by_cases h0 : N = 0
  · subst h0
    have e : (lim 0).length = 0 := by rw [lim_zero]; rfl
    have e2 : blen 0 = 0 := rfl
    rw [e2]
    refine Go.Ev.Fn.intro (fn := Tryz.f170) (body := (Tryz.f170).body.get!) (by kernel_rfl) (by kernel_rfl) (by kernel_rfl) (fun _ => rfl) (Nat.le_of_ble_eq_true (by kernel_rfl)) ?_; unfold Tryz.f170; simp only [Option.get!_some]
    repeat (first | (simp only [go_sem, Nat.reduceEqDiff, Nat.reduceAdd, Nat.reduceSub, Nat.reduceMul, Nat.reduceLeDiff, Nat.reduceLT, reduceIte, reduceCtorEq, Nat.succ_ne_zero, elemsC, Int.reduceToNat, Nat.reducePow]) | (simp (disch := (first | omega | (simp only [AL, List.length_map]; omega))) only [AR, AL, ifT, ifF, take_all, List.length_cons, List.length_nil, Int.reduceToNat, Int.reducePow, Nat.reducePow]) | (refine wk_intro (by kernel_rfl) ?_) | (refine vf_of (by first | exact t) ?_))
    rfl
  · have e := blen_lims N h0
    have hl := lim_pos h0
    have hg := getD_lt (okL_lim N) ((lim N).length - 1)
    have b := bits_Len32 _ hg
    have hb : blen ((lim N).getD ((lim N).length - 1) 0) ≤ 32 := blen_iff.2 hg
    rw [e]
    generalize hgx : (lim N).getD ((lim N).length - 1) 0 = x at *
    generalize hcs : lim N = cs at *
    have hi : (cs.map limb).length = cs.length := List.length_map _
    have hat : ((cs.map limb).drop (cs.length - 1)).head? = some (limb x) := by
      rw [List.head?_drop, List.getElem?_map, List.getElem?_eq_getElem (by omega)]
      rw [List.getD_eq_getElem?_getD, List.getElem?_eq_getElem (by omega)] at hgx
      rw [← hgx]; rfl
    generalize blen x = y at *
    refine Go.Ev.Fn.intro (fn := Tryz.f170) (body := (Tryz.f170).body.get!) (by kernel_rfl) (by kernel_rfl) (by kernel_rfl) (fun _ => rfl) (Nat.le_of_ble_eq_true (by kernel_rfl)) ?_; unfold Tryz.f170; simp only [Option.get!_some]
    repeat (first | (simp only [go_sem, Nat.reduceEqDiff, Nat.reduceAdd, Nat.reduceSub, Nat.reduceMul, Nat.reduceLeDiff, Nat.reduceLT, reduceIte, reduceCtorEq, Nat.succ_ne_zero, elemsC, Int.reduceToNat, Nat.reducePow, hgx]) | (simp (disch := (first | omega | (simp only [AL, List.length_map]; omega))) only [AR, AL, ifT, ifF, take_all, List.length_cons, List.length_nil, Int.reduceToNat, Int.reducePow, Nat.reducePow, hgx]) | (refine wk_intro (by kernel_rfl) ?_) | (refine vf_of (by first | exact t | exact b) ?_))
    congr 1
theorem fix_Small {a b : Nat} (h : (lim b).length ≤ 1000000) {k : Nat} (hk : k ≤ 1000) : Go.Ev.Fn CX 102 [spanV a b, .int .i64 (k : Int)] (.bool (decide (b < 2 ^ k))) := by
  have s := nat_Bits h
  rw [show decide (b < 2 ^ k) = decide (((blen b : Nat) : Int) ≤ (k : Int)) from decide_eq_decide.2 (by rw [← blen_iff]; omega)]
  generalize blen b = x at *
  refine Go.Ev.Fn.intro (fn := Tryz.f102) (body := (Tryz.f102).body.get!) (by kernel_rfl) (by kernel_rfl) (by kernel_rfl) (fun _ => rfl) (Nat.le_of_ble_eq_true (by kernel_rfl)) ?_; unfold Tryz.f102; simp only [Option.get!_some]
  repeat (first | (simp only [go_sem, Nat.reduceEqDiff, Nat.reduceAdd, Nat.reduceSub, Nat.reduceMul, Nat.reduceLeDiff, Nat.reduceLT, reduceIte, reduceCtorEq, Nat.succ_ne_zero, elemsC, Int.reduceToNat, Nat.reducePow]) | (simp (disch := (first | omega | (simp only [AL, List.length_map]; omega))) only [AR, AL, ifT, ifF, take_all, List.length_cons, List.length_nil, Int.reduceToNat, Int.reducePow, Nat.reducePow]) | (refine wk_intro (by kernel_rfl) ?_) | (refine vf_of (by first | exact s) ?_))
end Go.Proofs.YthbjgdmcnonofaaGreat

/- vernierref1.Bits; vernierref4.root, Sqrt, in the evaluator. -/
namespace Go.Proofs.YthbjgdmcnonofaaGreat
set_option linter.unusedSimpArgs false
set_option linter.unusedVariables false
set_option maxRecDepth 8000
open Go.Ev
theorem blen_half {x : Nat} (h : x ≠ 0) : blen x = blen (x / 2) + 1 := by
  have h1 := blen_iff (x := x) (k := blen x)
  have h2 := blen_iff (x := x / 2) (k := blen (x / 2))
  have h3 := blen_iff (x := x) (k := blen (x / 2) + 1)
  have h4 := blen_iff (x := x / 2) (k := blen x - 1)
  have h5 : blen x ≠ 0 := fun e => by rw [e] at h1; simp at h1; omega
  have h6 : x < 2 ^ blen x := h1.1 (Nat.le_refl _)
  have h7 : x / 2 < 2 ^ blen (x / 2) := h2.1 (Nat.le_refl _)
  rw [Nat.pow_succ] at h3
  have h8 : 2 ^ blen x = 2 ^ (blen x - 1) * 2 := by rw [← Nat.pow_succ, Nat.succ_eq_add_one, show blen x - 1 + 1 = blen x by omega]
  have h9 := h3.2 (by omega)
  have h10 := h4.2 (by omega)
  omega
theorem ref1_Bits {N : Nat} (h : (lim N).length ≤ 1000000) : Go.Ev.Fn CX 201 [natV (lim N)] (.int .i64 (blen N : Nat)) := by
  have t := ref1_Trim (lim N) (okL_lim N) (by omega)
  rw [wth_lim] at t
  by_cases h0 : N = 0
  · subst h0
    have e : (lim 0).length = 0 := by rw [lim_zero]; rfl
    have e2 : blen 0 = 0 := rfl
    rw [e2]
    refine Go.Ev.Fn.intro (fn := Tryz.f201) (body := (Tryz.f201).body.get!) (by kernel_rfl) (by kernel_rfl) (by kernel_rfl) (fun _ => rfl) (Nat.le_of_ble_eq_true (by kernel_rfl)) ?_; unfold Tryz.f201; simp only [Option.get!_some]
    repeat (first | (simp only [go_sem, Nat.reduceEqDiff, Nat.reduceAdd, Nat.reduceSub, Nat.reduceMul, Nat.reduceLeDiff, Nat.reduceLT, reduceIte, reduceCtorEq, Nat.succ_ne_zero, elemsC, Int.reduceToNat, Nat.reducePow]) | (simp (disch := (first | omega | (simp only [AL, List.length_map]; omega))) only [AR, AL, ifT, ifF, take_all, List.length_cons, List.length_nil, Int.reduceToNat, Int.reducePow, Nat.reducePow]) | (refine wk_intro (by kernel_rfl) ?_) | (refine vf_of (by first | exact t) ?_))
    rfl
  · have e := blen_lims N h0
    have hl := lim_pos h0
    have hg := getD_lt (okL_lim N) ((lim N).length - 1)
    have hb : blen ((lim N).getD ((lim N).length - 1) 0) ≤ 32 := blen_iff.2 hg
    rw [e]
    generalize hgx : (lim N).getD ((lim N).length - 1) 0 = x at *
    generalize hcs : lim N = cs at *
    refine Go.Ev.Fn.intro (fn := Tryz.f201) (body := (Tryz.f201).body.get!) (by kernel_rfl) (by kernel_rfl) (by kernel_rfl) (fun _ => rfl) (Nat.le_of_ble_eq_true (by kernel_rfl)) ?_; unfold Tryz.f201; simp only [Option.get!_some]
    repeat (first | (simp only [go_sem, Nat.reduceEqDiff, Nat.reduceAdd, Nat.reduceSub, Nat.reduceMul, Nat.reduceLeDiff, Nat.reduceLT, reduceIte, reduceCtorEq, Nat.succ_ne_zero, elemsC, Int.reduceToNat, Nat.reducePow, hgx]) | (simp (disch := (first | omega | (simp only [AL, List.length_map]; omega))) only [AR, AL, ifT, ifF, take_all, List.length_cons, List.length_nil, Int.reduceToNat, Int.reducePow, Nat.reducePow, hgx]) | (refine wk_intro (by kernel_rfl) ?_) | (refine vf_of (by first | exact t) ?_))
    refine vp_loop_inv (fun s => ∃ y : Nat, y < 4294967296 ∧ blen y ≤ 32 ∧ s.tmp 5 = .sv (.int .u32 (y : Int)) ∧ blen y ≤ blen x ∧ s.tmp 4 = .sv (.int .i64 ((32 * (cs.length - 1) + (blen x - blen y) : Nat) : Int)))
      (fun s => match s.tmp 5 with | .sv (.int _ i) => i.toNat | _ => 0) ⟨x, hg, hb, rfl, Nat.le_refl _, by rw [Nat.sub_self, Nat.add_zero]; first | rfl | (congr 2; omega)⟩ ?_
    rintro s ⟨y, g1, g2, i5, g3, i4⟩
    by_cases hy : y = 0
    · subst hy
      rw [show blen 0 = 0 from rfl, Nat.sub_zero] at i4
      repeat (first | (simp only [go_sem, Nat.reduceEqDiff, Nat.reduceAdd, Nat.reduceSub, Nat.reduceMul, Nat.reduceLeDiff, Nat.reduceLT, reduceIte, reduceCtorEq, Nat.succ_ne_zero, elemsC, Int.reduceToNat, Nat.reducePow, i5, i4]) | (simp (disch := (first | omega | (simp only [AL, List.length_map]; omega))) only [AR, AL, ifT, ifF, take_all, List.length_cons, List.length_nil, Int.reduceToNat, Int.reducePow, Nat.reducePow, i5, i4]) | (refine wk_intro (by kernel_rfl) ?_))
    · have e2 := blen_half hy
      repeat (first | (simp only [go_sem, Nat.reduceEqDiff, Nat.reduceAdd, Nat.reduceSub, Nat.reduceMul, Nat.reduceLeDiff, Nat.reduceLT, reduceIte, reduceCtorEq, Nat.succ_ne_zero, elemsC, Int.reduceToNat, Nat.reducePow, i5, i4]) | (simp (disch := (first | omega | (simp only [AL, List.length_map]; omega))) only [AR, AL, ifT, ifF, take_all, List.length_cons, List.length_nil, Int.reduceToNat, Int.reducePow, Nat.reducePow, i5, i4]) | (refine wk_intro (by kernel_rfl) ?_))
      exact ⟨⟨y / 2, by omega, by omega, by first | rfl | (congr 2; omega), by omega, by first | rfl | (congr 2; omega)⟩, by omega⟩
/-- There is a root, rounded down. -/
theorem sqrt_ex (a : Nat) : ∃ r, r * r ≤ a ∧ a < (r + 1) * (r + 1) := by
  induction a with
  | zero => exact ⟨0, by omega, by omega⟩
  | succ a ih =>
    obtain ⟨r, h1, h2⟩ := ih
    by_cases h : (r + 1) * (r + 1) ≤ a + 1
    · refine ⟨r + 1, h, ?_⟩
      have : (r + 1 + 1) * (r + 1 + 1) = (r + 1) * (r + 1) + (r + 1) + (r + 2) := by
        rw [Nat.add_mul, Nat.mul_add]; omega
      omega
    · exact ⟨r, by omega, by omega⟩
noncomputable def rtN (a : Nat) : Nat := (sqrt_ex a).choose
theorem rtN_le (a : Nat) : rtN a * rtN a ≤ a := (sqrt_ex a).choose_spec.1
theorem lt_rtN (a : Nat) : a < (rtN a + 1) * (rtN a + 1) := (sqrt_ex a).choose_spec.2
theorem rtN_eq {a r : Nat} (h1 : r * r ≤ a) (h2 : a < (r + 1) * (r + 1)) : r = rtN a := by
  have h3 := rtN_le a
  have h4 := lt_rtN a
  rcases Nat.lt_trichotomy r (rtN a) with h | h | h
  · have := Nat.mul_le_mul (show r + 1 ≤ rtN a from h) (show r + 1 ≤ rtN a from h)
    omega
  · exact h
  · have := Nat.mul_le_mul (show rtN a + 1 ≤ r from h) (show rtN a + 1 ≤ r from h)
    omega
theorem rtN_self (a : Nat) : rtN a ≤ a := by
  have := rtN_le a
  rcases Nat.eq_zero_or_pos (rtN a) with h | h
  · omega
  · have := Nat.le_mul_of_pos_left (rtN a) h
    omega
theorem ref4_root {a : Nat} (h : (lim a).length ≤ 100) : Go.Ev.Fn CX 160 [natV (lim a)] (natV (lim (rtN a))) := by
  have b := ref1_Bits (N := a) (by omega)
  have hb : a < 2 ^ blen a := blen_iff.1 (Nat.le_refl _)
  have hB : blen a ≤ 3200 := by
    obtain ⟨K, hK⟩ : ∃ K : Nat, K = 3200 := ⟨_, rfl⟩
    rw [← hK]
    refine blen_iff.2 (Nat.lt_of_lt_of_le lim_len_pow ?_)
    rw [show (4294967296 : Nat) = 2 ^ 32 from rfl, ← Nat.pow_mul]
    exact Nat.pow_le_pow_right (by omega) (by omega)
  generalize hBB : blen a = B at *
  have hK : a < 2 ^ ((B + 1) / 2) * 2 ^ ((B + 1) / 2) := by
    rw [← Nat.pow_add]
    exact Nat.lt_of_lt_of_le hb (Nat.pow_le_pow_right (by omega) (by omega))
  have tq : ((B : Int) + 1).tdiv 2 = (((B + 1) / 2 : Nat) : Int) := _root_.id rfl
  have tq2 : ((B + 1 : Nat) : Int).tdiv 2 = (((B + 1) / 2 : Nat) : Int) := _root_.id rfl
  refine Go.Ev.Fn.intro (fn := Tryz.f160) (body := (Tryz.f160).body.get!) (by kernel_rfl) (by kernel_rfl) (by kernel_rfl) (fun _ => rfl) (Nat.le_of_ble_eq_true (by kernel_rfl)) ?_; unfold Tryz.f160; simp only [Option.get!_some]
  repeat (first | (simp only [go_sem, Nat.reduceEqDiff, Nat.reduceAdd, Nat.reduceSub, Nat.reduceMul, Nat.reduceLeDiff, Nat.reduceLT, reduceIte, reduceCtorEq, Nat.succ_ne_zero, elemsC, Int.reduceToNat, Nat.reducePow, tq, tq2]) | (simp (disch := (first | omega | (simp only [AL, List.length_map]; omega))) only [AR, AL, ifT, ifF, take_all, List.length_cons, List.length_nil, Int.reduceToNat, Int.reducePow, Nat.reducePow, tq, tq2]) | (refine wk_intro (by kernel_rfl) ?_) | (refine vf_of (by first | exact b) ?_))
  refine vp_loop_inv (fun s => s.tmp 0 = .sv (natV (lim a)) ∧ ∃ k r : Nat, k ≤ 1602 ∧ s.tmp 4 = .sv (.int .i64 ((k : Int) - 1)) ∧ (s.tmp 3 = .sv (natV (lim r)) ∨ r = 0 ∧ s.tmp 3 = .nil) ∧ r * r ≤ a ∧ a < (r + 2 ^ k) * (r + 2 ^ k))
    (fun s => match s.tmp 4 with | .sv (.int _ i) => (i + 1).toNat | _ => 0) ?_ ?_
  · refine ⟨rfl, (B + 1) / 2 + 1, 0, by omega, by rw [show ((((B + 1) / 2 + 1 : Nat) : Int) - 1) = (((B + 1) / 2 : Nat) : Int) by omega]; rfl, .inr ⟨rfl, rfl⟩, by omega, ?_⟩
    rw [Nat.zero_add, Nat.pow_succ]
    have := Nat.mul_le_mul (Nat.le_mul_of_pos_right (2 ^ ((B + 1) / 2)) (show 0 < 2 by omega)) (Nat.le_mul_of_pos_right (2 ^ ((B + 1) / 2)) (show 0 < 2 by omega))
    omega
  rintro s ⟨i0, k, r, hk, i4, i3, g1, g2⟩
  rcases Nat.eq_zero_or_pos k with h0 | h0
  · subst h0
    obtain rfl := rtN_eq g1 g2
    rcases i3 with i3 | ⟨e, i3⟩
    · repeat (first | (simp only [go_sem, Nat.reduceEqDiff, Nat.reduceAdd, Nat.reduceSub, Nat.reduceMul, Nat.reduceLeDiff, Nat.reduceLT, reduceIte, reduceCtorEq, Nat.succ_ne_zero, elemsC, Int.reduceToNat, Nat.reducePow, i0, i4, i3]) | (simp (disch := (first | omega | (simp only [AL, List.length_map]; omega))) only [AR, AL, ifT, ifF, take_all, List.length_cons, List.length_nil, Int.reduceToNat, Int.reducePow, Nat.reducePow, i0, i4, i3]) | (refine wk_intro (by kernel_rfl) ?_))
    · rw [e, lim_zero]
      repeat (first | (simp only [go_sem, Nat.reduceEqDiff, Nat.reduceAdd, Nat.reduceSub, Nat.reduceMul, Nat.reduceLeDiff, Nat.reduceLT, reduceIte, reduceCtorEq, Nat.succ_ne_zero, elemsC, Int.reduceToNat, Nat.reducePow, i0, i4, i3]) | (simp (disch := (first | omega | (simp only [AL, List.length_map]; omega))) only [AR, AL, ifT, ifF, take_all, List.length_cons, List.length_nil, Int.reduceToNat, Int.reducePow, Nat.reducePow, i0, i4, i3]) | (refine wk_intro (by kernel_rfl) ?_))
      rfl
  · obtain ⟨j, rfl⟩ : ∃ j, k = j + 1 := ⟨k - 1, by omega⟩
    have p := ref4_pow2 (n := j) (by omega)
    have l := lim_len_shl (a := 1) (n := j)
    have l1 := lim_len1
    rw [Nat.one_mul] at l
    have lr : (lim r).length ≤ 100 := Nat.le_trans (lim_len_mono (by rcases Nat.eq_zero_or_pos r with e | e; (omega); (have := Nat.le_mul_of_pos_left r e; omega))) h
    have s1 := ref1_AddL (N := r) (D := 2 ^ j) (by omega) (by omega)
    have l2 := lim_len_add (a := r) (b := 2 ^ j) (L := 200) (by omega) (by omega)
    have m := ref1_MulL (N := r + 2 ^ j) (D := r + 2 ^ j) (by omega) (by omega)
    have l3 := lim_len_mul (a := r + 2 ^ j) (b := r + 2 ^ j)
    have c := ref1_CmpL (N := (r + 2 ^ j) * (r + 2 ^ j)) (D := a) (by omega) (by omega)
    have e1 : decide (cmpN ((r + 2 ^ j) * (r + 2 ^ j)) a ≤ 0) = decide ((r + 2 ^ j) * (r + 2 ^ j) ≤ a) := decide_eq_decide.2 (by unfold cmpN; split <;> (try split) <;> omega)
    have e4 : ((j + 1 : Nat) : Int) - 1 = (j : Int) := by omega
    rw [e4] at i4
    generalize hz : cmpN ((r + 2 ^ j) * (r + 2 ^ j)) a = z at *
    by_cases hle : (r + 2 ^ j) * (r + 2 ^ j) ≤ a
    · rw [decide_eq_true hle] at e1
      rw [show r + 2 ^ (j + 1) = r + 2 ^ j + 2 ^ j by rw [Nat.pow_succ]; omega] at g2
      generalize hu : (r + 2 ^ j) * (r + 2 ^ j) = u at *
      generalize hv : r + 2 ^ j = v at *
      generalize hw : (v + 2 ^ j) * (v + 2 ^ j) = w at *
      rcases i3 with i3 | ⟨e, i3⟩
      · repeat (first | (simp only [go_sem, Nat.reduceEqDiff, Nat.reduceAdd, Nat.reduceSub, Nat.reduceMul, Nat.reduceLeDiff, Nat.reduceLT, reduceIte, reduceCtorEq, Nat.succ_ne_zero, elemsC, Int.reduceToNat, Nat.reducePow, i0, i4, i3]) | (simp (disch := (first | omega | (simp only [AL, List.length_map]; omega))) only [AR, AL, ifT, ifF, take_all, List.length_cons, List.length_nil, Int.reduceToNat, Int.reducePow, Nat.reducePow, i0, i4, i3]) | (refine wk_intro (by kernel_rfl) ?_))
        repeat (first | (simp only [go_sem, Nat.reduceEqDiff, Nat.reduceAdd, Nat.reduceSub, Nat.reduceMul, Nat.reduceLeDiff, Nat.reduceLT, reduceIte, reduceCtorEq, Nat.succ_ne_zero, elemsC, Int.reduceToNat, Nat.reducePow, i0, i4, i3, e1]) | (simp (disch := (first | omega | (simp only [AL, List.length_map]; omega))) only [AR, AL, ifT, ifF, take_all, List.length_cons, List.length_nil, Int.reduceToNat, Int.reducePow, Nat.reducePow, i0, i4, i3, e1]) | (refine wk_intro (by kernel_rfl) ?_) | (refine vf_of (by first | exact p | exact s1 | exact m | exact c) ?_))
        exact ⟨⟨j, v, by omega, by first | rfl | (congr 2; omega), .inl rfl, by rw [hu]; exact hle, by rw [hw]; exact g2⟩, by omega⟩
      · subst e
        rw [lim_zero] at s1
        repeat (first | (simp only [go_sem, Nat.reduceEqDiff, Nat.reduceAdd, Nat.reduceSub, Nat.reduceMul, Nat.reduceLeDiff, Nat.reduceLT, reduceIte, reduceCtorEq, Nat.succ_ne_zero, elemsC, Int.reduceToNat, Nat.reducePow, i0, i4, i3, e1]) | (simp (disch := (first | omega | (simp only [AL, List.length_map]; omega))) only [AR, AL, ifT, ifF, take_all, List.length_cons, List.length_nil, Int.reduceToNat, Int.reducePow, Nat.reducePow, i0, i4, i3, e1]) | (refine wk_intro (by kernel_rfl) ?_) | (refine vf_of (by first | exact p | exact s1 | exact m | exact c) ?_))
        exact ⟨⟨j, v, by omega, by first | rfl | (congr 2; omega), .inl rfl, by rw [hu]; exact hle, by rw [hw]; exact g2⟩, by omega⟩
    · rw [decide_eq_false hle] at e1
      generalize hu : (r + 2 ^ j) * (r + 2 ^ j) = u at *
      generalize hv : r + 2 ^ j = v at *
      rcases i3 with i3 | ⟨e, i3⟩
      · repeat (first | (simp only [go_sem, Nat.reduceEqDiff, Nat.reduceAdd, Nat.reduceSub, Nat.reduceMul, Nat.reduceLeDiff, Nat.reduceLT, reduceIte, reduceCtorEq, Nat.succ_ne_zero, elemsC, Int.reduceToNat, Nat.reducePow, i0, i4, i3]) | (simp (disch := (first | omega | (simp only [AL, List.length_map]; omega))) only [AR, AL, ifT, ifF, take_all, List.length_cons, List.length_nil, Int.reduceToNat, Int.reducePow, Nat.reducePow, i0, i4, i3]) | (refine wk_intro (by kernel_rfl) ?_))
        repeat (first | (simp only [go_sem, Nat.reduceEqDiff, Nat.reduceAdd, Nat.reduceSub, Nat.reduceMul, Nat.reduceLeDiff, Nat.reduceLT, reduceIte, reduceCtorEq, Nat.succ_ne_zero, elemsC, Int.reduceToNat, Nat.reducePow, i0, i4, i3, e1]) | (simp (disch := (first | omega | (simp only [AL, List.length_map]; omega))) only [AR, AL, ifT, ifF, take_all, List.length_cons, List.length_nil, Int.reduceToNat, Int.reducePow, Nat.reducePow, i0, i4, i3, e1]) | (refine wk_intro (by kernel_rfl) ?_) | (refine vf_of (by first | exact p | exact s1 | exact m | exact c) ?_))
        exact ⟨⟨j, r, by omega, by first | rfl | (congr 2; omega), .inl (by first | rfl | exact i3), g1, by rw [hv, hu]; omega⟩, by omega⟩
      · subst e
        rw [lim_zero] at s1
        repeat (first | (simp only [go_sem, Nat.reduceEqDiff, Nat.reduceAdd, Nat.reduceSub, Nat.reduceMul, Nat.reduceLeDiff, Nat.reduceLT, reduceIte, reduceCtorEq, Nat.succ_ne_zero, elemsC, Int.reduceToNat, Nat.reducePow, i0, i4, i3, e1]) | (simp (disch := (first | omega | (simp only [AL, List.length_map]; omega))) only [AR, AL, ifT, ifF, take_all, List.length_cons, List.length_nil, Int.reduceToNat, Int.reducePow, Nat.reducePow, i0, i4, i3, e1]) | (refine wk_intro (by kernel_rfl) ?_) | (refine vf_of (by first | exact p | exact s1 | exact m | exact c) ?_))
        exact ⟨⟨j, 0, by omega, by first | rfl | (congr 2; omega), .inr (by first | rfl | exact ⟨rfl, rfl⟩ | exact ⟨rfl, i3⟩), g1, by rw [hv, hu]; omega⟩, by omega⟩
theorem ref4_Sqrt {a b w : Nat} (ha : (lim a).length ≤ 60) (hb : (lim b).length ≤ 60) (hw : w ≤ 1000) : Go.Ev.Fn CX 90 [ivV (a : Int) (b : Int), .int .i64 (w : Int)] (ivV (rtN (a * 2 ^ w) : Int) ((rtN (b * 2 ^ w) + 1 : Nat) : Int)) := by
  have s1 := ref1_shl (N := a) (m := w) (by omega) (by omega)
  have s2 := ref1_shl (N := b) (m := w) (by omega) (by omega)
  have l1 := lim_len_shl (a := a) (n := w)
  have l2 := lim_len_shl (a := b) (n := w)
  have r1 := ref4_root (a := a * 2 ^ w) (by omega)
  have r2 := ref4_root (a := b * 2 ^ w) (by omega)
  have o := ref4_Whole 1 (by omega)
  have l3 := lim_len_mono (rtN_self (b * 2 ^ w))
  have l4 : (lim (rtN (b * 2 ^ w) : Int).natAbs).length ≤ 1000 := by rw [Int.natAbs_natCast]; omega
  have p := ref4_Plus (rtN (b * 2 ^ w) : Int) 1 (by omega) (Nat.le_trans lim_len1 (by omega))
  have q : ∀ n : Nat, intV (n : Int) = .agg [.bool false, natV (lim n)] := fun n => iv_eq (Int.natAbs_natCast n) (decide_eq_false (by omega))
  rw [show ((rtN (b * 2 ^ w) : Int) + 1) = ((rtN (b * 2 ^ w) + 1 : Nat) : Int) from rfl, q, q] at p
  have qq : ∀ m n : Nat, ivV (m : Int) (n : Int) = .agg [.bool false, natV (lim m), .bool false, natV (lim n)] := fun m n => by
    show SV.agg [.bool (decide ((m : Int) < 0)), natV (lim (m : Int).natAbs), .bool (decide ((n : Int) < 0)), natV (lim (n : Int).natAbs)] = _
    rw [Int.natAbs_natCast, Int.natAbs_natCast, decide_eq_false (by omega), decide_eq_false (by omega)]
  rw [qq, qq]
  generalize rtN (b * 2 ^ w) + 1 = y at *
  generalize rtN (b * 2 ^ w) = z at *
  generalize rtN (a * 2 ^ w) = x at *
  generalize a * 2 ^ w = u at *
  generalize b * 2 ^ w = v at *
  refine Go.Ev.Fn.intro (fn := Tryz.f90) (body := (Tryz.f90).body.get!) (by kernel_rfl) (by kernel_rfl) (by kernel_rfl) (fun _ => rfl) (Nat.le_of_ble_eq_true (by kernel_rfl)) ?_; unfold Tryz.f90; simp only [Option.get!_some]
  repeat (first | (simp only [go_sem, Nat.reduceEqDiff, Nat.reduceAdd, Nat.reduceSub, Nat.reduceMul, Nat.reduceLeDiff, Nat.reduceLT, reduceIte, reduceCtorEq, Nat.succ_ne_zero, elemsC, Int.reduceToNat, Nat.reducePow]) | (simp (disch := (first | omega | (simp only [AL, List.length_map]; omega))) only [AR, AL, ifT, ifF, take_all, List.length_cons, List.length_nil, Int.reduceToNat, Int.reducePow, Nat.reducePow]) | (refine wk_intro (by kernel_rfl) ?_) | (refine vp_draw (id := 1) (l := [7, 9, 14, 16]) (by kernel_rfl) ?_) | (refine vf_of (by first | exact s1 | exact r1 | exact s2 | exact r2 | exact o | exact p) ?_))
end Go.Proofs.YthbjgdmcnonofaaGreat

/- vernierref4.Prod, in the evaluator. -/
namespace Go.Proofs.YthbjgdmcnonofaaGreat
set_option linter.unusedSimpArgs false
set_option linter.unusedVariables false
set_option maxRecDepth 8000
open Go.Ev
def mnZ (m x : Int) : Int := if x < m then x else m
def mxZ (m x : Int) : Int := if m < x then x else m
def loP (p1 p2 p3 p4 : Int) : Nat → Int
  | 0 => p1
  | 1 => p1
  | 2 => mnZ p1 p2
  | 3 => mnZ (mnZ p1 p2) p3
  | _ => mnZ (mnZ (mnZ p1 p2) p3) p4
def hiP (p1 p2 p3 p4 : Int) : Nat → Int
  | 0 => p1
  | 1 => p1
  | 2 => mxZ p1 p2
  | 3 => mxZ (mxZ p1 p2) p3
  | _ => mxZ (mxZ (mxZ p1 p2) p3) p4
/-- The least and the greatest of four products. -/
def loQ (a b c d : Int) : Int := loP (a * c) (a * d) (b * c) (b * d) 4
def hiQ (a b c d : Int) : Int := hiP (a * c) (a * d) (b * c) (b * d) 4
theorem cmpZ_lt {a b : Int} : decide (cmpZ a b < 0) = decide (a < b) := decide_eq_decide.2 (by unfold cmpZ; split <;> (try split) <;> omega)
theorem cmpZ_gt {a b : Int} : decide (cmpZ a b > 0) = decide (b < a) := decide_eq_decide.2 (by unfold cmpZ; split <;> (try split) <;> omega)
theorem cmpZ_le {a b : Int} : decide (cmpZ a b ≤ 0) = decide (a ≤ b) := decide_eq_decide.2 (by unfold cmpZ; split <;> (try split) <;> omega)
theorem mnZ_is (m x : Int) : mnZ m x = m ∨ mnZ m x = x := by unfold mnZ; split <;> simp
theorem loP_is (p1 p2 p3 p4 : Int) (i : Nat) : loP p1 p2 p3 p4 i = p1 ∨ loP p1 p2 p3 p4 i = p2 ∨ loP p1 p2 p3 p4 i = p3 ∨ loP p1 p2 p3 p4 i = p4 := by
  have h2 := mnZ_is p1 p2
  have h3 := mnZ_is (mnZ p1 p2) p3
  have h4 := mnZ_is (mnZ (mnZ p1 p2) p3) p4
  match i with
  | 0 => exact .inl rfl
  | 1 => exact .inl rfl
  | 2 => show mnZ p1 p2 = _ ∨ mnZ p1 p2 = _ ∨ mnZ p1 p2 = _ ∨ mnZ p1 p2 = _; omega
  | 3 => simp only [loP]; omega
  | _ + 4 => simp only [loP]; omega
theorem mxZ_is (m x : Int) : mxZ m x = m ∨ mxZ m x = x := by unfold mxZ; split <;> simp
theorem hiP_is (p1 p2 p3 p4 : Int) (i : Nat) : hiP p1 p2 p3 p4 i = p1 ∨ hiP p1 p2 p3 p4 i = p2 ∨ hiP p1 p2 p3 p4 i = p3 ∨ hiP p1 p2 p3 p4 i = p4 := by
  have h2 := mxZ_is p1 p2
  have h3 := mxZ_is (mxZ p1 p2) p3
  have h4 := mxZ_is (mxZ (mxZ p1 p2) p3) p4
  match i with
  | 0 => exact .inl rfl
  | 1 => exact .inl rfl
  | 2 => show mxZ p1 p2 = _ ∨ mxZ p1 p2 = _ ∨ mxZ p1 p2 = _ ∨ mxZ p1 p2 = _; omega
  | 3 => simp only [hiP]; omega
  | _ + 4 => simp only [hiP]; omega
set_option maxHeartbeats 1000000 in
theorem ref4_Prod {a b c d : Int} {w : Nat} (ha : (lim a.natAbs).length ≤ 10000) (hb : (lim b.natAbs).length ≤ 10000) (hc : (lim c.natAbs).length ≤ 10000) (hd : (lim d.natAbs).length ≤ 10000) (hw : w ≤ 4096) (h0 : 0 < w) :
    Go.Ev.Fn CX 89 [ivV a b, ivV c d, .int .i64 (w : Int)] (ivV (loQ a b c d / ((2 ^ w : Nat) : Int)) (cdZ (hiQ a b c d) (2 ^ w))) := by
  have m1 := ref4_Times a c (by omega) (by omega)
  have m2 := ref4_Times a d (by omega) (by omega)
  have m3 := ref4_Times b c (by omega) (by omega)
  have m4 := ref4_Times b d (by omega) (by omega)
  have l1 : (lim (a * c).natAbs).length ≤ 20000 := by rw [Int.natAbs_mul]; have := lim_len_mul (a := a.natAbs) (b := c.natAbs); omega
  have l2 : (lim (a * d).natAbs).length ≤ 20000 := by rw [Int.natAbs_mul]; have := lim_len_mul (a := a.natAbs) (b := d.natAbs); omega
  have l3 : (lim (b * c).natAbs).length ≤ 20000 := by rw [Int.natAbs_mul]; have := lim_len_mul (a := b.natAbs) (b := c.natAbs); omega
  have l4 : (lim (b * d).natAbs).length ≤ 20000 := by rw [Int.natAbs_mul]; have := lim_len_mul (a := b.natAbs) (b := d.natAbs); omega
  unfold loQ hiQ
  generalize a * c = p1 at *
  generalize a * d = p2 at *
  generalize b * c = p3 at *
  generalize b * d = p4 at *
  have lL : ∀ i, (lim (loP p1 p2 p3 p4 i).natAbs).length ≤ 20000 := by
    intro i
    rcases loP_is p1 p2 p3 p4 i with h | h | h | h <;> rw [h] <;> assumption
  have lH : ∀ i, (lim (hiP p1 p2 p3 p4 i).natAbs).length ≤ 20000 := by
    intro i
    rcases hiP_is p1 p2 p3 p4 i with h | h | h | h <;> rw [h] <;> assumption
  have s1 := ref4_Less (loP p1 p2 p3 p4 4) w (by have := lL 4; omega) hw h0
  have s2 := ref4_More (hiP p1 p2 p3 p4 4) w (by have := lH 4; omega) hw h0
  have L1 : loP p1 p2 p3 p4 1 = p1 := rfl
  have H1 : hiP p1 p2 p3 p4 1 = p1 := rfl
  have L2 : loP p1 p2 p3 p4 2 = mnZ (loP p1 p2 p3 p4 1) p2 := rfl
  have H2 : hiP p1 p2 p3 p4 2 = mxZ (hiP p1 p2 p3 p4 1) p2 := rfl
  have L3 : loP p1 p2 p3 p4 3 = mnZ (loP p1 p2 p3 p4 2) p3 := rfl
  have H3 : hiP p1 p2 p3 p4 3 = mxZ (hiP p1 p2 p3 p4 2) p3 := rfl
  have L4 : loP p1 p2 p3 p4 4 = mnZ (loP p1 p2 p3 p4 3) p4 := rfl
  have H4 : hiP p1 p2 p3 p4 4 = mxZ (hiP p1 p2 p3 p4 3) p4 := rfl
  generalize loP p1 p2 p3 p4 = lo at *
  generalize hiP p1 p2 p3 p4 = hi at *
  generalize hX : lo 4 / ((2 ^ w : Nat) : Int) = X at *
  generalize hY : cdZ (hi 4) (2 ^ w) = Y at *
  clear hX hY ha hb hc hd
  refine Go.Ev.Fn.intro (fn := Tryz.f89) (body := (Tryz.f89).body.get!) (by kernel_rfl) (by kernel_rfl) (by kernel_rfl) (fun _ => rfl) (Nat.le_of_ble_eq_true (by kernel_rfl)) ?_; unfold Tryz.f89; simp only [Option.get!_some]
  repeat (first | (simp only [go_sem, Nat.reduceEqDiff, Nat.reduceAdd, Nat.reduceSub, Nat.reduceMul, Nat.reduceLeDiff, Nat.reduceLT, reduceIte, reduceCtorEq, Nat.succ_ne_zero, elemsC, Int.reduceToNat, Nat.reducePow]) | (simp (disch := (first | omega | (simp only [AL, List.length_map]; omega))) only [AR, AL, ifT, ifF, take_all, List.length_cons, List.length_nil, Int.reduceToNat, Int.reducePow, Nat.reducePow]) | (refine wk_intro (by kernel_rfl) ?_) | (refine vp_draw (id := 1) (l := []) (by kernel_rfl) ?_) | (refine vp_draw (id := 2) (l := []) (by kernel_rfl) ?_) | (refine vp_draw (id := 6) (l := []) (by kernel_rfl) ?_) | (refine vp_draw (id := 8) (l := []) (by kernel_rfl) ?_) | (refine vp_draw (id := 10) (l := []) (by kernel_rfl) ?_) | (refine vf_of (by first | exact m1 | exact m2 | exact m3 | exact m4) ?_))
  refine vp_loop_inv (fun s => s.tmp 2 = .sv (.int .i64 (w : Int)) ∧ s.tmp 6 = .ptr 6 0 0 ∧ s.obj 6 0 = some [.bool false, .sl 0 [], .bool false, .sl 0 []] ∧ s.tmp 7 = .sv (.sl 4 [.bool (decide (p1 < 0)), natV (lim p1.natAbs), .bool (decide (p2 < 0)), natV (lim p2.natAbs), .bool (decide (p3 < 0)), natV (lim p3.natAbs), .bool (decide (p4 < 0)), natV (lim p4.natAbs)]) ∧ s.tmp 8 = .ptr 8 0 0 ∧ s.tmp 9 = .ptr 9 0 0 ∧
      ∃ i : Nat, s.tmp 10 = .sv (.int .i64 (i : Int)) ∧ 1 ≤ i ∧ i ≤ 4 ∧ s.obj 8 0 = some [.bool (decide (lo i < 0)), natV (lim (lo i).natAbs)] ∧ s.obj 9 0 = some [.bool (decide (hi i < 0)), natV (lim (hi i).natAbs)])
    (fun s => match s.tmp 10 with | .sv (.int _ i) => 4 - i.toNat | _ => 0) ⟨rfl, rfl, rfl, rfl, rfl, rfl, 1, rfl, by omega, by omega, by first | (rw [L1]; done) | (rw [L1]; rfl) | (rw [L1]; exact o8) | (rw [L1]; exact o9), by first | (rw [H1]; done) | (rw [H1]; rfl) | (rw [H1]; exact o8) | (rw [H1]; exact o9)⟩ ?_
  rintro s ⟨i2, i6, o6, i7, i8, i9, i, i10, g1, g2, o8, o9⟩
  obtain rfl | rfl | rfl | rfl : i = 4 ∨ i = 1 ∨ i = 2 ∨ i = 3 := by omega
  · repeat (first | (simp only [go_sem, Nat.reduceEqDiff, Nat.reduceAdd, Nat.reduceSub, Nat.reduceMul, Nat.reduceLeDiff, Nat.reduceLT, reduceIte, reduceCtorEq, Nat.succ_ne_zero, elemsC, Int.reduceToNat, Nat.reducePow, i2, i6, o6, i7, i8, i9, i10, o8, o9]) | (simp (disch := (first | omega | (simp only [AL, List.length_map]; omega))) only [AR, AL, ifT, ifF, take_all, List.length_cons, List.length_nil, Int.reduceToNat, Int.reducePow, Nat.reducePow, i2, i6, o6, i7, i8, i9, i10, o8, o9]) | (refine wk_intro (by kernel_rfl) ?_) | (refine vp_draw (id := 1) (l := []) (by kernel_rfl) ?_) | (refine vp_draw (id := 2) (l := []) (by kernel_rfl) ?_) | (refine vp_draw (id := 6) (l := []) (by kernel_rfl) ?_) | (refine vp_draw (id := 8) (l := []) (by kernel_rfl) ?_) | (refine vp_draw (id := 10) (l := []) (by kernel_rfl) ?_))
    repeat (first | (simp only [go_sem, Nat.reduceEqDiff, Nat.reduceAdd, Nat.reduceSub, Nat.reduceMul, Nat.reduceLeDiff, Nat.reduceLT, reduceIte, reduceCtorEq, Nat.succ_ne_zero, elemsC, Int.reduceToNat, Nat.reducePow, i2, i6, o6, i7, i8, i9, i10, o8, o9]) | (simp (disch := (first | omega | (simp only [AL, List.length_map]; omega))) only [AR, AL, ifT, ifF, take_all, List.length_cons, List.length_nil, Int.reduceToNat, Int.reducePow, Nat.reducePow, i2, i6, o6, i7, i8, i9, i10, o8, o9]) | (refine wk_intro (by kernel_rfl) ?_) | (refine vp_draw (id := 1) (l := []) (by kernel_rfl) ?_) | (refine vp_draw (id := 2) (l := []) (by kernel_rfl) ?_) | (refine vp_draw (id := 6) (l := []) (by kernel_rfl) ?_) | (refine vp_draw (id := 8) (l := []) (by kernel_rfl) ?_) | (refine vp_draw (id := 10) (l := []) (by kernel_rfl) ?_) | (refine vf_of (by first | exact s1 | exact s2) ?_))
  · have c1 := ref4_Cmp p2 (lo 1) (by omega) (by have := lL 1; omega)
    have c2 := ref4_Cmp p2 (hi 1) (by omega) (by have := lH 1; omega)
    have c3 := ref4_Cmp p2 (hi 1) (by omega) (by have := lH 1; omega)
    have e1 := cmpZ_lt (a := p2) (b := lo 1)
    have e2 := cmpZ_gt (a := p2) (b := hi 1)
    generalize cmpZ p2 (lo 1) = z1 at *
    generalize cmpZ p2 (hi 1) = z2 at *
    by_cases k1 : p2 < lo 1
    · rw [decide_eq_true k1] at e1
      rw [mnZ, if_pos k1] at L2
      by_cases k2 : hi 1 < p2
      · rw [decide_eq_true k2] at e2
        rw [mxZ, if_pos k2] at H2
        clear k1 k2
        repeat (first | (simp only [go_sem, Nat.reduceEqDiff, Nat.reduceAdd, Nat.reduceSub, Nat.reduceMul, Nat.reduceLeDiff, Nat.reduceLT, reduceIte, reduceCtorEq, Nat.succ_ne_zero, elemsC, Int.reduceToNat, Nat.reducePow, i2, i6, o6, i7, i8, i9, i10, o8, o9, e1, e2]) | (simp (disch := (first | omega | (simp only [AL, List.length_map]; omega))) only [AR, AL, ifT, ifF, take_all, List.length_cons, List.length_nil, Int.reduceToNat, Int.reducePow, Nat.reducePow, i2, i6, o6, i7, i8, i9, i10, o8, o9, e1, e2]) | (refine wk_intro (by kernel_rfl) ?_) | (refine vp_draw (id := 1) (l := []) (by kernel_rfl) ?_) | (refine vp_draw (id := 2) (l := []) (by kernel_rfl) ?_) | (refine vp_draw (id := 6) (l := []) (by kernel_rfl) ?_) | (refine vp_draw (id := 8) (l := []) (by kernel_rfl) ?_) | (refine vp_draw (id := 10) (l := []) (by kernel_rfl) ?_) | (refine vf_of (by first | exact c1 | exact c2) ?_))
        exact ⟨2, rfl, by omega, by omega, by first | (rw [L2]; done) | (rw [L2]; rfl) | (rw [L2]; exact o8) | (rw [L2]; exact o9), by first | (rw [H2]; done) | (rw [H2]; rfl) | (rw [H2]; exact o8) | (rw [H2]; exact o9)⟩
      · rw [decide_eq_false k2] at e2
        rw [mxZ, if_neg k2] at H2
        clear k1 k2
        repeat (first | (simp only [go_sem, Nat.reduceEqDiff, Nat.reduceAdd, Nat.reduceSub, Nat.reduceMul, Nat.reduceLeDiff, Nat.reduceLT, reduceIte, reduceCtorEq, Nat.succ_ne_zero, elemsC, Int.reduceToNat, Nat.reducePow, i2, i6, o6, i7, i8, i9, i10, o8, o9, e1, e2]) | (simp (disch := (first | omega | (simp only [AL, List.length_map]; omega))) only [AR, AL, ifT, ifF, take_all, List.length_cons, List.length_nil, Int.reduceToNat, Int.reducePow, Nat.reducePow, i2, i6, o6, i7, i8, i9, i10, o8, o9, e1, e2]) | (refine wk_intro (by kernel_rfl) ?_) | (refine vp_draw (id := 1) (l := []) (by kernel_rfl) ?_) | (refine vp_draw (id := 2) (l := []) (by kernel_rfl) ?_) | (refine vp_draw (id := 6) (l := []) (by kernel_rfl) ?_) | (refine vp_draw (id := 8) (l := []) (by kernel_rfl) ?_) | (refine vp_draw (id := 10) (l := []) (by kernel_rfl) ?_) | (refine vf_of (by first | exact c1 | exact c2) ?_))
        exact ⟨2, rfl, by omega, by omega, by first | (rw [L2]; done) | (rw [L2]; rfl) | (rw [L2]; exact o8) | (rw [L2]; exact o9), by first | (rw [H2]; done) | (rw [H2]; rfl) | (rw [H2]; exact o8) | (rw [H2]; exact o9)⟩
    · rw [decide_eq_false k1] at e1
      rw [mnZ, if_neg k1] at L2
      by_cases k2 : hi 1 < p2
      · rw [decide_eq_true k2] at e2
        rw [mxZ, if_pos k2] at H2
        clear k1 k2
        repeat (first | (simp only [go_sem, Nat.reduceEqDiff, Nat.reduceAdd, Nat.reduceSub, Nat.reduceMul, Nat.reduceLeDiff, Nat.reduceLT, reduceIte, reduceCtorEq, Nat.succ_ne_zero, elemsC, Int.reduceToNat, Nat.reducePow, i2, i6, o6, i7, i8, i9, i10, o8, o9, e1, e2]) | (simp (disch := (first | omega | (simp only [AL, List.length_map]; omega))) only [AR, AL, ifT, ifF, take_all, List.length_cons, List.length_nil, Int.reduceToNat, Int.reducePow, Nat.reducePow, i2, i6, o6, i7, i8, i9, i10, o8, o9, e1, e2]) | (refine wk_intro (by kernel_rfl) ?_) | (refine vp_draw (id := 1) (l := []) (by kernel_rfl) ?_) | (refine vp_draw (id := 2) (l := []) (by kernel_rfl) ?_) | (refine vp_draw (id := 6) (l := []) (by kernel_rfl) ?_) | (refine vp_draw (id := 8) (l := []) (by kernel_rfl) ?_) | (refine vp_draw (id := 10) (l := []) (by kernel_rfl) ?_) | (refine vf_of (by first | exact c1 | exact c2) ?_))
        exact ⟨2, rfl, by omega, by omega, by first | (rw [L2]; done) | (rw [L2]; rfl) | (rw [L2]; exact o8) | (rw [L2]; exact o9), by first | (rw [H2]; done) | (rw [H2]; rfl) | (rw [H2]; exact o8) | (rw [H2]; exact o9)⟩
      · rw [decide_eq_false k2] at e2
        rw [mxZ, if_neg k2] at H2
        clear k1 k2
        repeat (first | (simp only [go_sem, Nat.reduceEqDiff, Nat.reduceAdd, Nat.reduceSub, Nat.reduceMul, Nat.reduceLeDiff, Nat.reduceLT, reduceIte, reduceCtorEq, Nat.succ_ne_zero, elemsC, Int.reduceToNat, Nat.reducePow, i2, i6, o6, i7, i8, i9, i10, o8, o9, e1, e2]) | (simp (disch := (first | omega | (simp only [AL, List.length_map]; omega))) only [AR, AL, ifT, ifF, take_all, List.length_cons, List.length_nil, Int.reduceToNat, Int.reducePow, Nat.reducePow, i2, i6, o6, i7, i8, i9, i10, o8, o9, e1, e2]) | (refine wk_intro (by kernel_rfl) ?_) | (refine vp_draw (id := 1) (l := []) (by kernel_rfl) ?_) | (refine vp_draw (id := 2) (l := []) (by kernel_rfl) ?_) | (refine vp_draw (id := 6) (l := []) (by kernel_rfl) ?_) | (refine vp_draw (id := 8) (l := []) (by kernel_rfl) ?_) | (refine vp_draw (id := 10) (l := []) (by kernel_rfl) ?_) | (refine vf_of (by first | exact c1 | exact c2) ?_))
        exact ⟨2, rfl, by omega, by omega, by first | (rw [L2]; done) | (rw [L2]; rfl) | (rw [L2]; exact o8) | (rw [L2]; exact o9), by first | (rw [H2]; done) | (rw [H2]; rfl) | (rw [H2]; exact o8) | (rw [H2]; exact o9)⟩
  · have c1 := ref4_Cmp p3 (lo 2) (by omega) (by have := lL 2; omega)
    have c2 := ref4_Cmp p3 (hi 2) (by omega) (by have := lH 2; omega)
    have c3 := ref4_Cmp p3 (hi 2) (by omega) (by have := lH 2; omega)
    have e1 := cmpZ_lt (a := p3) (b := lo 2)
    have e2 := cmpZ_gt (a := p3) (b := hi 2)
    generalize cmpZ p3 (lo 2) = z1 at *
    generalize cmpZ p3 (hi 2) = z2 at *
    by_cases k1 : p3 < lo 2
    · rw [decide_eq_true k1] at e1
      rw [mnZ, if_pos k1] at L3
      by_cases k2 : hi 2 < p3
      · rw [decide_eq_true k2] at e2
        rw [mxZ, if_pos k2] at H3
        clear k1 k2
        repeat (first | (simp only [go_sem, Nat.reduceEqDiff, Nat.reduceAdd, Nat.reduceSub, Nat.reduceMul, Nat.reduceLeDiff, Nat.reduceLT, reduceIte, reduceCtorEq, Nat.succ_ne_zero, elemsC, Int.reduceToNat, Nat.reducePow, i2, i6, o6, i7, i8, i9, i10, o8, o9, e1, e2]) | (simp (disch := (first | omega | (simp only [AL, List.length_map]; omega))) only [AR, AL, ifT, ifF, take_all, List.length_cons, List.length_nil, Int.reduceToNat, Int.reducePow, Nat.reducePow, i2, i6, o6, i7, i8, i9, i10, o8, o9, e1, e2]) | (refine wk_intro (by kernel_rfl) ?_) | (refine vp_draw (id := 1) (l := []) (by kernel_rfl) ?_) | (refine vp_draw (id := 2) (l := []) (by kernel_rfl) ?_) | (refine vp_draw (id := 6) (l := []) (by kernel_rfl) ?_) | (refine vp_draw (id := 8) (l := []) (by kernel_rfl) ?_) | (refine vp_draw (id := 10) (l := []) (by kernel_rfl) ?_) | (refine vf_of (by first | exact c1 | exact c2) ?_))
        exact ⟨3, rfl, by omega, by omega, by first | (rw [L3]; done) | (rw [L3]; rfl) | (rw [L3]; exact o8) | (rw [L3]; exact o9), by first | (rw [H3]; done) | (rw [H3]; rfl) | (rw [H3]; exact o8) | (rw [H3]; exact o9)⟩
      · rw [decide_eq_false k2] at e2
        rw [mxZ, if_neg k2] at H3
        clear k1 k2
        repeat (first | (simp only [go_sem, Nat.reduceEqDiff, Nat.reduceAdd, Nat.reduceSub, Nat.reduceMul, Nat.reduceLeDiff, Nat.reduceLT, reduceIte, reduceCtorEq, Nat.succ_ne_zero, elemsC, Int.reduceToNat, Nat.reducePow, i2, i6, o6, i7, i8, i9, i10, o8, o9, e1, e2]) | (simp (disch := (first | omega | (simp only [AL, List.length_map]; omega))) only [AR, AL, ifT, ifF, take_all, List.length_cons, List.length_nil, Int.reduceToNat, Int.reducePow, Nat.reducePow, i2, i6, o6, i7, i8, i9, i10, o8, o9, e1, e2]) | (refine wk_intro (by kernel_rfl) ?_) | (refine vp_draw (id := 1) (l := []) (by kernel_rfl) ?_) | (refine vp_draw (id := 2) (l := []) (by kernel_rfl) ?_) | (refine vp_draw (id := 6) (l := []) (by kernel_rfl) ?_) | (refine vp_draw (id := 8) (l := []) (by kernel_rfl) ?_) | (refine vp_draw (id := 10) (l := []) (by kernel_rfl) ?_) | (refine vf_of (by first | exact c1 | exact c2) ?_))
        exact ⟨3, rfl, by omega, by omega, by first | (rw [L3]; done) | (rw [L3]; rfl) | (rw [L3]; exact o8) | (rw [L3]; exact o9), by first | (rw [H3]; done) | (rw [H3]; rfl) | (rw [H3]; exact o8) | (rw [H3]; exact o9)⟩
    · rw [decide_eq_false k1] at e1
      rw [mnZ, if_neg k1] at L3
      by_cases k2 : hi 2 < p3
      · rw [decide_eq_true k2] at e2
        rw [mxZ, if_pos k2] at H3
        clear k1 k2
        repeat (first | (simp only [go_sem, Nat.reduceEqDiff, Nat.reduceAdd, Nat.reduceSub, Nat.reduceMul, Nat.reduceLeDiff, Nat.reduceLT, reduceIte, reduceCtorEq, Nat.succ_ne_zero, elemsC, Int.reduceToNat, Nat.reducePow, i2, i6, o6, i7, i8, i9, i10, o8, o9, e1, e2]) | (simp (disch := (first | omega | (simp only [AL, List.length_map]; omega))) only [AR, AL, ifT, ifF, take_all, List.length_cons, List.length_nil, Int.reduceToNat, Int.reducePow, Nat.reducePow, i2, i6, o6, i7, i8, i9, i10, o8, o9, e1, e2]) | (refine wk_intro (by kernel_rfl) ?_) | (refine vp_draw (id := 1) (l := []) (by kernel_rfl) ?_) | (refine vp_draw (id := 2) (l := []) (by kernel_rfl) ?_) | (refine vp_draw (id := 6) (l := []) (by kernel_rfl) ?_) | (refine vp_draw (id := 8) (l := []) (by kernel_rfl) ?_) | (refine vp_draw (id := 10) (l := []) (by kernel_rfl) ?_) | (refine vf_of (by first | exact c1 | exact c2) ?_))
        exact ⟨3, rfl, by omega, by omega, by first | (rw [L3]; done) | (rw [L3]; rfl) | (rw [L3]; exact o8) | (rw [L3]; exact o9), by first | (rw [H3]; done) | (rw [H3]; rfl) | (rw [H3]; exact o8) | (rw [H3]; exact o9)⟩
      · rw [decide_eq_false k2] at e2
        rw [mxZ, if_neg k2] at H3
        clear k1 k2
        repeat (first | (simp only [go_sem, Nat.reduceEqDiff, Nat.reduceAdd, Nat.reduceSub, Nat.reduceMul, Nat.reduceLeDiff, Nat.reduceLT, reduceIte, reduceCtorEq, Nat.succ_ne_zero, elemsC, Int.reduceToNat, Nat.reducePow, i2, i6, o6, i7, i8, i9, i10, o8, o9, e1, e2]) | (simp (disch := (first | omega | (simp only [AL, List.length_map]; omega))) only [AR, AL, ifT, ifF, take_all, List.length_cons, List.length_nil, Int.reduceToNat, Int.reducePow, Nat.reducePow, i2, i6, o6, i7, i8, i9, i10, o8, o9, e1, e2]) | (refine wk_intro (by kernel_rfl) ?_) | (refine vp_draw (id := 1) (l := []) (by kernel_rfl) ?_) | (refine vp_draw (id := 2) (l := []) (by kernel_rfl) ?_) | (refine vp_draw (id := 6) (l := []) (by kernel_rfl) ?_) | (refine vp_draw (id := 8) (l := []) (by kernel_rfl) ?_) | (refine vp_draw (id := 10) (l := []) (by kernel_rfl) ?_) | (refine vf_of (by first | exact c1 | exact c2) ?_))
        exact ⟨3, rfl, by omega, by omega, by first | (rw [L3]; done) | (rw [L3]; rfl) | (rw [L3]; exact o8) | (rw [L3]; exact o9), by first | (rw [H3]; done) | (rw [H3]; rfl) | (rw [H3]; exact o8) | (rw [H3]; exact o9)⟩
  · have c1 := ref4_Cmp p4 (lo 3) (by omega) (by have := lL 3; omega)
    have c2 := ref4_Cmp p4 (hi 3) (by omega) (by have := lH 3; omega)
    have c3 := ref4_Cmp p4 (hi 3) (by omega) (by have := lH 3; omega)
    have e1 := cmpZ_lt (a := p4) (b := lo 3)
    have e2 := cmpZ_gt (a := p4) (b := hi 3)
    generalize cmpZ p4 (lo 3) = z1 at *
    generalize cmpZ p4 (hi 3) = z2 at *
    by_cases k1 : p4 < lo 3
    · rw [decide_eq_true k1] at e1
      rw [mnZ, if_pos k1] at L4
      by_cases k2 : hi 3 < p4
      · rw [decide_eq_true k2] at e2
        rw [mxZ, if_pos k2] at H4
        clear k1 k2
        repeat (first | (simp only [go_sem, Nat.reduceEqDiff, Nat.reduceAdd, Nat.reduceSub, Nat.reduceMul, Nat.reduceLeDiff, Nat.reduceLT, reduceIte, reduceCtorEq, Nat.succ_ne_zero, elemsC, Int.reduceToNat, Nat.reducePow, i2, i6, o6, i7, i8, i9, i10, o8, o9, e1, e2]) | (simp (disch := (first | omega | (simp only [AL, List.length_map]; omega))) only [AR, AL, ifT, ifF, take_all, List.length_cons, List.length_nil, Int.reduceToNat, Int.reducePow, Nat.reducePow, i2, i6, o6, i7, i8, i9, i10, o8, o9, e1, e2]) | (refine wk_intro (by kernel_rfl) ?_) | (refine vp_draw (id := 1) (l := []) (by kernel_rfl) ?_) | (refine vp_draw (id := 2) (l := []) (by kernel_rfl) ?_) | (refine vp_draw (id := 6) (l := []) (by kernel_rfl) ?_) | (refine vp_draw (id := 8) (l := []) (by kernel_rfl) ?_) | (refine vp_draw (id := 10) (l := []) (by kernel_rfl) ?_) | (refine vf_of (by first | exact c1 | exact c2) ?_))
        exact ⟨4, rfl, by omega, by omega, by first | (rw [L4]; done) | (rw [L4]; rfl) | (rw [L4]; exact o8) | (rw [L4]; exact o9), by first | (rw [H4]; done) | (rw [H4]; rfl) | (rw [H4]; exact o8) | (rw [H4]; exact o9)⟩
      · rw [decide_eq_false k2] at e2
        rw [mxZ, if_neg k2] at H4
        clear k1 k2
        repeat (first | (simp only [go_sem, Nat.reduceEqDiff, Nat.reduceAdd, Nat.reduceSub, Nat.reduceMul, Nat.reduceLeDiff, Nat.reduceLT, reduceIte, reduceCtorEq, Nat.succ_ne_zero, elemsC, Int.reduceToNat, Nat.reducePow, i2, i6, o6, i7, i8, i9, i10, o8, o9, e1, e2]) | (simp (disch := (first | omega | (simp only [AL, List.length_map]; omega))) only [AR, AL, ifT, ifF, take_all, List.length_cons, List.length_nil, Int.reduceToNat, Int.reducePow, Nat.reducePow, i2, i6, o6, i7, i8, i9, i10, o8, o9, e1, e2]) | (refine wk_intro (by kernel_rfl) ?_) | (refine vp_draw (id := 1) (l := []) (by kernel_rfl) ?_) | (refine vp_draw (id := 2) (l := []) (by kernel_rfl) ?_) | (refine vp_draw (id := 6) (l := []) (by kernel_rfl) ?_) | (refine vp_draw (id := 8) (l := []) (by kernel_rfl) ?_) | (refine vp_draw (id := 10) (l := []) (by kernel_rfl) ?_) | (refine vf_of (by first | exact c1 | exact c2) ?_))
        exact ⟨4, rfl, by omega, by omega, by first | (rw [L4]; done) | (rw [L4]; rfl) | (rw [L4]; exact o8) | (rw [L4]; exact o9), by first | (rw [H4]; done) | (rw [H4]; rfl) | (rw [H4]; exact o8) | (rw [H4]; exact o9)⟩
    · rw [decide_eq_false k1] at e1
      rw [mnZ, if_neg k1] at L4
      by_cases k2 : hi 3 < p4
      · rw [decide_eq_true k2] at e2
        rw [mxZ, if_pos k2] at H4
        clear k1 k2
        repeat (first | (simp only [go_sem, Nat.reduceEqDiff, Nat.reduceAdd, Nat.reduceSub, Nat.reduceMul, Nat.reduceLeDiff, Nat.reduceLT, reduceIte, reduceCtorEq, Nat.succ_ne_zero, elemsC, Int.reduceToNat, Nat.reducePow, i2, i6, o6, i7, i8, i9, i10, o8, o9, e1, e2]) | (simp (disch := (first | omega | (simp only [AL, List.length_map]; omega))) only [AR, AL, ifT, ifF, take_all, List.length_cons, List.length_nil, Int.reduceToNat, Int.reducePow, Nat.reducePow, i2, i6, o6, i7, i8, i9, i10, o8, o9, e1, e2]) | (refine wk_intro (by kernel_rfl) ?_) | (refine vp_draw (id := 1) (l := []) (by kernel_rfl) ?_) | (refine vp_draw (id := 2) (l := []) (by kernel_rfl) ?_) | (refine vp_draw (id := 6) (l := []) (by kernel_rfl) ?_) | (refine vp_draw (id := 8) (l := []) (by kernel_rfl) ?_) | (refine vp_draw (id := 10) (l := []) (by kernel_rfl) ?_) | (refine vf_of (by first | exact c1 | exact c2) ?_))
        exact ⟨4, rfl, by omega, by omega, by first | (rw [L4]; done) | (rw [L4]; rfl) | (rw [L4]; exact o8) | (rw [L4]; exact o9), by first | (rw [H4]; done) | (rw [H4]; rfl) | (rw [H4]; exact o8) | (rw [H4]; exact o9)⟩
      · rw [decide_eq_false k2] at e2
        rw [mxZ, if_neg k2] at H4
        clear k1 k2
        repeat (first | (simp only [go_sem, Nat.reduceEqDiff, Nat.reduceAdd, Nat.reduceSub, Nat.reduceMul, Nat.reduceLeDiff, Nat.reduceLT, reduceIte, reduceCtorEq, Nat.succ_ne_zero, elemsC, Int.reduceToNat, Nat.reducePow, i2, i6, o6, i7, i8, i9, i10, o8, o9, e1, e2]) | (simp (disch := (first | omega | (simp only [AL, List.length_map]; omega))) only [AR, AL, ifT, ifF, take_all, List.length_cons, List.length_nil, Int.reduceToNat, Int.reducePow, Nat.reducePow, i2, i6, o6, i7, i8, i9, i10, o8, o9, e1, e2]) | (refine wk_intro (by kernel_rfl) ?_) | (refine vp_draw (id := 1) (l := []) (by kernel_rfl) ?_) | (refine vp_draw (id := 2) (l := []) (by kernel_rfl) ?_) | (refine vp_draw (id := 6) (l := []) (by kernel_rfl) ?_) | (refine vp_draw (id := 8) (l := []) (by kernel_rfl) ?_) | (refine vp_draw (id := 10) (l := []) (by kernel_rfl) ?_) | (refine vf_of (by first | exact c1 | exact c2) ?_))
        exact ⟨4, rfl, by omega, by omega, by first | (rw [L4]; done) | (rw [L4]; rfl) | (rw [L4]; exact o8) | (rw [L4]; exact o9), by first | (rw [H4]; done) | (rw [H4]; rfl) | (rw [H4]; exact o8) | (rw [H4]; exact o9)⟩
end Go.Proofs.YthbjgdmcnonofaaGreat

/- Pi, to so many digits: pure functions on naturals that mirror arcs.pi and vernierref8.PiIv; the kernel reckons them at all widths that are wanted. No program. -/
namespace Go.Ev
/-- A number is reckoned before it is handed on. -/
def pin {α : Type} (n : Nat) (f : Nat → α) : α := match n with
  | 0 => f 0
  | m + 1 => f (m + 1)
/-- arcs.angle's rounds: the terms by Euler's row, until the last one is small. -/
def angGo (w b1 b2 : Nat) : Nat → Nat → Nat → Nat → Nat → Nat → Option (Nat × Nat)
  | 0, _, _, _, _, _ => none
  | f + 1, k, t1, t2, a1, a2 => if t2 < 4 then some (a1, a2 + 8) else
    pin (t1 * b1 / 2 ^ w * (2 * k) / (2 * k + 1)) fun u1 => pin ((t2 * b2 / 2 ^ w + 1) * (2 * k) / (2 * k + 1) + 1) fun u2 =>
    pin (a1 + u1) fun c1 => pin (a2 + u2) fun c2 => pin (k + 1) fun k' => angGo w b1 b2 f k' u1 u2 c1 c2
def angF (n d w : Nat) : Option (Nat × Nat) :=
  pin (n * n * 2 ^ w / (n * n + d * d)) fun b1 => pin (n * d * 2 ^ w / (n * n + d * d)) fun t1 => angGo w b1 (b1 + 1) 1000 1 t1 (t1 + 1) t1 (t1 + 1)
/-- arcs.pi. -/
def piF (w : Nat) : Option (Nat × Nat) := match angF 1 5 w, angF 1 239 w with
  | some (a1, a2), some (b1, b2) => some (a1 * 16 - (b2 * 4 + 1), (a2 * 16 + 1 - b1 * 4) + 1)
  | _, _ => none
/-- The root of pi, times 2 to 400. -/
def rootPi : Nat := 4576918740415440415430138886030104330034393630387746481038405196946375920276839941112766425178723903652484208164514262098
/-- At so many digits pi lies between two whole numbers, for certain: and the constant's square does. -/
def piOk (p : Nat) : Bool := match piF (p + 64) with
  | some (lo, hi) => pin (lo / 2 ^ 64) fun a => Nat.beq a ((hi - 1) / 2 ^ 64) && (Nat.ble (a * 2 ^ (800 - p)) (rootPi * rootPi) && Nat.ble (rootPi * rootPi) ((a + 1) * 2 ^ (800 - p)))
  | none => false
def allFrom (f : Nat → Bool) : Nat → Nat → Bool
  | 0, _ => true
  | n + 1, k => f k && allFrom f n (k + 1)
theorem pi_ok : allFrom piOk 217 8 = true := by kernel_rfl
/-- Rounded up. -/
def cdv (a b : Nat) : Nat := (a + b - 1) / b
/-- vernierref8.small's rounds; what is added and what is taken away stands apart: the sum is a1 .. a2 less b1 .. b2. -/
def smGo (w s1 s2 : Nat) : Nat → Nat → Bool → Nat → Nat → Nat → Nat → Nat → Nat → Option (Nat × Nat × Nat × Nat)
  | 0, _, _, _, _, _, _, _, _ => none
  | f + 1, i, odd, t1, t2, a1, a2, b1, b2 =>
    pin (t1 * s1 / 2 ^ w) fun u1 => pin (cdv (t2 * s2) (2 ^ w)) fun u2 => pin (u1 / (2 * i + 1)) fun x1 => pin (cdv u2 (2 * i + 1)) fun x2 => pin (i + 1) fun i' =>
    match odd with
    | true => pin (b1 + x1) fun c1 => pin (b2 + x2) fun c2 => if u2 ≤ 2 then some (a1, a2, c1, c2) else smGo w s1 s2 f i' false u1 u2 a1 a2 c1 c2
    | false => pin (a1 + x1) fun c1 => pin (a2 + x2) fun c2 => if u2 ≤ 2 then some (c1, c2, b1, b2) else smGo w s1 s2 f i' true u1 u2 c1 c2 b1 b2
def smF (d w : Nat) : Option (Nat × Nat) := pin (2 ^ w / d) fun y1 => pin (cdv (2 ^ w) d) fun y2 => pin (y1 * y1 / 2 ^ w) fun s1 => pin (cdv (y2 * y2) (2 ^ w)) fun s2 =>
  match smGo w s1 s2 1000 1 true y1 y2 y1 y2 0 0 with
  | some (a1, a2, b1, b2) => if b2 + 4 ≤ a1 ∧ b1 ≤ a2 then some (a1 - b2 - 4, a2 - b1 + 4) else none
  | none => none
/-- vernierref8.PiIv. -/
def piIv (w : Nat) : Option (Nat × Nat) := match smF 5 (w + 10), smF 239 (w + 10) with
  | some (a1, a2), some (b1, b2) => if b2 * 4 ≤ a1 * 16 ∧ b1 * 4 ≤ a2 * 16 then some ((a1 * 16 - b2 * 4) / 2 ^ 10, cdv (a2 * 16 - b1 * 4) (2 ^ 10)) else none
  | _, _ => none
def ivOk (w : Nat) : Bool := match piIv w with
  | some (lo, hi) => Nat.ble (lo * 2 ^ (800 - w)) (rootPi * rootPi) && Nat.ble (rootPi * rootPi) (hi * 2 ^ (800 - w))
  | none => false
theorem iv_ok : allFrom ivOk 121 190 = true := by kernel_rfl
end Go.Ev
