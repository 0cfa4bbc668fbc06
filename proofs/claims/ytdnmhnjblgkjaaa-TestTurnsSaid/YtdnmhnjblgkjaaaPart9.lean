/- Part 9 of the proof: the evaluator, contracts of functions and their plain laws (joined by program). No condition. -/
import Derived.Test.YtdnmhnjblgkjaaaPart8
/- stat: by, Sum, Mean, off, products, Variance, Central of 2, in the evaluator. -/
namespace Go.Proofs.Ytdnmhnjblgkjaaa
set_option linter.unusedSimpArgs false
set_option linter.unusedVariables false
set_option maxRecDepth 8000
open Go.Ev
theorem stat_by {v : SV} {q : Rat} {n : Int} {L : Nat} (hv : RatA v q L) (hL : 1 ≤ L) (hL2 : L ≤ 10000000) (hn : -9223372036854775808 ≤ n ∧ n < 9223372036854775808) :
    Go.Ev.Fn CX 99 [v, .int .i64 n] (rv (q / (n : Rat))) := by
  have r := rat_Int n hn
  have d := rat_Div hv (RatA_rv (int_szR (n := n) (by omega))) hL (by omega) (by omega)
  generalize decide ((n : Rat) ≠ 0) = b at *
  obtain ⟨s, y, d', rfl, -⟩ := hv
  refine Go.Ev.Fn.intro (fn := Try.f99) (body := (Try.f99).body.get!) (by kernel_rfl) (by kernel_rfl) (by kernel_rfl) (fun _ => rfl) (Nat.le_of_ble_eq_true (by kernel_rfl)) ?_; unfold Try.f99; simp only [Option.get!_some]
  (try (simp only [go_sem, Nat.reduceEqDiff, Nat.reduceAdd, Nat.reduceSub, Nat.reduceMul, Nat.reduceLeDiff, Nat.reduceLT, reduceIte, reduceCtorEq, Nat.succ_ne_zero, elemsC, Int.reduceToNat, Nat.reducePow])); repeat ((first | (simp (disch := (first | omega | (simp only [AL, List.length_map]; omega))) only [AR, AL, ifT, ifF, take_all, List.length_cons, List.length_nil, Int.reduceToNat, Int.reducePow, Nat.reducePow]) | (refine wk_intro (by kernel_rfl) ?_) | (refine vp_draw (id := 1) (l := []) (by kernel_rfl) ?_)); try (simp only [go_sem, Nat.reduceEqDiff, Nat.reduceAdd, Nat.reduceSub, Nat.reduceMul, Nat.reduceLeDiff, Nat.reduceLT, reduceIte, reduceCtorEq, Nat.succ_ne_zero, elemsC, Int.reduceToNat, Nat.reducePow]))
  refine vf_of (r) ?_; (try (simp only [go_sem, Nat.reduceEqDiff, Nat.reduceAdd, Nat.reduceSub, Nat.reduceMul, Nat.reduceLeDiff, Nat.reduceLT, reduceIte, reduceCtorEq, Nat.succ_ne_zero, elemsC, Int.reduceToNat, Nat.reducePow])); repeat ((first | (simp (disch := (first | omega | (simp only [AL, List.length_map]; omega))) only [AR, AL, ifT, ifF, take_all, List.length_cons, List.length_nil, Int.reduceToNat, Int.reducePow, Nat.reducePow]) | (refine wk_intro (by kernel_rfl) ?_) | (refine vp_draw (id := 1) (l := []) (by kernel_rfl) ?_)); try (simp only [go_sem, Nat.reduceEqDiff, Nat.reduceAdd, Nat.reduceSub, Nat.reduceMul, Nat.reduceLeDiff, Nat.reduceLT, reduceIte, reduceCtorEq, Nat.succ_ne_zero, elemsC, Int.reduceToNat, Nat.reducePow]))
  refine vf_of (d) ?_; (try (simp only [go_sem, Nat.reduceEqDiff, Nat.reduceAdd, Nat.reduceSub, Nat.reduceMul, Nat.reduceLeDiff, Nat.reduceLT, reduceIte, reduceCtorEq, Nat.succ_ne_zero, elemsC, Int.reduceToNat, Nat.reducePow])); repeat ((first | (simp (disch := (first | omega | (simp only [AL, List.length_map]; omega))) only [AR, AL, ifT, ifF, take_all, List.length_cons, List.length_nil, Int.reduceToNat, Int.reducePow, Nat.reducePow]) | (refine wk_intro (by kernel_rfl) ?_) | (refine vp_draw (id := 1) (l := []) (by kernel_rfl) ?_)); try (simp only [go_sem, Nat.reduceEqDiff, Nat.reduceAdd, Nat.reduceSub, Nat.reduceMul, Nat.reduceLeDiff, Nat.reduceLT, reduceIte, reduceCtorEq, Nat.succ_ne_zero, elemsC, Int.reduceToNat, Nat.reducePow]))
theorem stat_Sum {cs : List SV} {l : List Rat} {L : Nat} (h : RowC cs l L) (hL : 1 ≤ L) (hL2 : L ≤ 100000) (hl : l.length ≤ 12) :
    Go.Ev.Fn CX 89 [.sl l.length cs] (rv (sumR l)) := by
  have r0 := rat_Int 0 (by omega)
  have hlen := row_len h
  have hz := row_sz hL h
  refine Go.Ev.Fn.intro (fn := Try.f89) (body := (Try.f89).body.get!) (by kernel_rfl) (by kernel_rfl) (by kernel_rfl) (fun _ => rfl) (Nat.le_of_ble_eq_true (by kernel_rfl)) ?_; unfold Try.f89; simp only [Option.get!_some]
  (try (simp only [go_sem, Nat.reduceEqDiff, Nat.reduceAdd, Nat.reduceSub, Nat.reduceMul, Nat.reduceLeDiff, Nat.reduceLT, reduceIte, reduceCtorEq, Nat.succ_ne_zero, elemsC, Int.reduceToNat, Nat.reducePow])); repeat ((first | (simp (disch := (first | omega | (simp only [AL, List.length_map]; omega))) only [AR, AL, ifT, ifF, take_all, List.length_cons, List.length_nil, Int.reduceToNat, Int.reducePow, Nat.reducePow]) | (refine wk_intro (by kernel_rfl) ?_)); try (simp only [go_sem, Nat.reduceEqDiff, Nat.reduceAdd, Nat.reduceSub, Nat.reduceMul, Nat.reduceLeDiff, Nat.reduceLT, reduceIte, reduceCtorEq, Nat.succ_ne_zero, elemsC, Int.reduceToNat, Nat.reducePow]))
  refine vf_of (r0) ?_; (try (simp only [go_sem, Nat.reduceEqDiff, Nat.reduceAdd, Nat.reduceSub, Nat.reduceMul, Nat.reduceLeDiff, Nat.reduceLT, reduceIte, reduceCtorEq, Nat.succ_ne_zero, elemsC, Int.reduceToNat, Nat.reducePow])); repeat ((first | (simp (disch := (first | omega | (simp only [AL, List.length_map]; omega))) only [AR, AL, ifT, ifF, take_all, List.length_cons, List.length_nil, Int.reduceToNat, Int.reducePow, Nat.reducePow]) | (refine wk_intro (by kernel_rfl) ?_)); try (simp only [go_sem, Nat.reduceEqDiff, Nat.reduceAdd, Nat.reduceSub, Nat.reduceMul, Nat.reduceLeDiff, Nat.reduceLT, reduceIte, reduceCtorEq, Nat.succ_ne_zero, elemsC, Int.reduceToNat, Nat.reducePow]))
  refine vp_loop_inv (fun s => s.tmp 7 = .sv (.sl l.length cs) ∧ s.tmp 8 = .sv (.int .i64 (l.length : Int)) ∧ s.tmp 2 = .ptr 2 0 0 ∧ s.obj 2 0 = some [.bool false, .sl 0 [], .sl 0 []] ∧ s.tmp 3 = .ptr 3 0 0 ∧
      ∃ i : Nat, s.tmp 9 = .sv (.int .i64 (i : Int)) ∧ i ≤ l.length ∧ s.obj 3 0 = some (rvC (sumR (l.take i))))
    (fun s => match s.tmp 9 with | .sv (.int _ i) => l.length - i.toNat | _ => 0) ⟨rfl, rfl, rfl, rfl, rfl, 0, rfl, by omega, rfl⟩ ?_
  rintro s2 ⟨i7, i8, i2, iO, i3, i, i9, hi, iP⟩
  by_cases hend : i = l.length
  · subst hend
    rw [List.take_length] at iP
    (try (simp only [go_sem, Nat.reduceEqDiff, Nat.reduceAdd, Nat.reduceSub, Nat.reduceMul, Nat.reduceLeDiff, Nat.reduceLT, reduceIte, reduceCtorEq, Nat.succ_ne_zero, elemsC, Int.reduceToNat, Nat.reducePow, i7, i8, i2, iO, i3, i9, iP, rvC])); repeat ((first | (simp (disch := (first | omega | (simp only [AL, List.length_map]; omega))) only [AR, AL, ifT, ifF, take_all, List.length_cons, List.length_nil, Int.reduceToNat, Int.reducePow, Nat.reducePow, i7, i8, i2, iO, i3, i9, iP, rvC]) | (refine wk_intro (by kernel_rfl) ?_)); try (simp only [go_sem, Nat.reduceEqDiff, Nat.reduceAdd, Nat.reduceSub, Nat.reduceMul, Nat.reduceLeDiff, Nat.reduceLT, reduceIte, reduceCtorEq, Nat.succ_ne_zero, elemsC, Int.reduceToNat, Nat.reducePow, i7, i8, i2, iO, i3, i9, iP, rvC]))
  · obtain ⟨s, n, d, rest, hat, hA⟩ := row_at (i := i) h (by omega)
    have hS := sumR_take l (i := i) (by omega)
    have z := sz_take12 hL hz hl i
    have a := rat_Add (RatA_rv z) hA (by omega) hL (by omega)
    rw [← hS] at a
    clear hz z h hS hA
    (try (simp only [go_sem, Nat.reduceEqDiff, Nat.reduceAdd, Nat.reduceSub, Nat.reduceMul, Nat.reduceLeDiff, Nat.reduceLT, reduceIte, reduceCtorEq, Nat.succ_ne_zero, elemsC, Int.reduceToNat, Nat.reducePow, i7, i8, i2, iO, i3, i9, iP, rvC, hat, hlen])); repeat ((first | (simp (disch := (first | omega | (simp only [AL, List.length_map]; omega))) only [AR, AL, ifT, ifF, take_all, List.length_cons, List.length_nil, Int.reduceToNat, Int.reducePow, Nat.reducePow, i7, i8, i2, iO, i3, i9, iP, rvC, hat, hlen]) | (refine wk_intro (by kernel_rfl) ?_)); try (simp only [go_sem, Nat.reduceEqDiff, Nat.reduceAdd, Nat.reduceSub, Nat.reduceMul, Nat.reduceLeDiff, Nat.reduceLT, reduceIte, reduceCtorEq, Nat.succ_ne_zero, elemsC, Int.reduceToNat, Nat.reducePow, i7, i8, i2, iO, i3, i9, iP, rvC, hat, hlen]))
    refine vf_of (a) ?_; (try (simp only [go_sem, Nat.reduceEqDiff, Nat.reduceAdd, Nat.reduceSub, Nat.reduceMul, Nat.reduceLeDiff, Nat.reduceLT, reduceIte, reduceCtorEq, Nat.succ_ne_zero, elemsC, Int.reduceToNat, Nat.reducePow, i7, i8, i2, iO, i3, i9, iP, hat, hlen, rvC])); repeat ((first | (simp (disch := (first | omega | (simp only [AL, List.length_map]; omega))) only [AR, AL, ifT, ifF, take_all, List.length_cons, List.length_nil, Int.reduceToNat, Int.reducePow, Nat.reducePow, i7, i8, i2, iO, i3, i9, iP, hat, hlen, rvC]) | (refine wk_intro (by kernel_rfl) ?_)); try (simp only [go_sem, Nat.reduceEqDiff, Nat.reduceAdd, Nat.reduceSub, Nat.reduceMul, Nat.reduceLeDiff, Nat.reduceLT, reduceIte, reduceCtorEq, Nat.succ_ne_zero, elemsC, Int.reduceToNat, Nat.reducePow, i7, i8, i2, iO, i3, i9, iP, hat, hlen, rvC]))
    exact ⟨⟨i + 1, rfl, by omega, rfl⟩, by omega⟩
/-- A number and an error. -/
abbrev numE (q : Rat) (e : Int) : SV := .tup [rv q, .int .i64 e]
theorem stat_Mean {cs : List SV} {l : List Rat} {L : Nat} (h : RowC cs l L) (hL : 1 ≤ L) (hL2 : L ≤ 100000) (hl : l.length ≤ 12) :
    Go.Ev.Fn CX 81 [.sl l.length cs] (if l.length = 0 then numE 0 5 else numE (meanR l) 0) := by
  have r0 := rat_Int 0 (by omega)
  by_cases h0 : l.length = 0
  · rw [if_pos h0]
    refine Go.Ev.Fn.intro (fn := Try.f81) (body := (Try.f81).body.get!) (by kernel_rfl) (by kernel_rfl) (by kernel_rfl) (fun _ => rfl) (Nat.le_of_ble_eq_true (by kernel_rfl)) ?_; unfold Try.f81; simp only [Option.get!_some]
    (try (simp only [go_sem, Nat.reduceEqDiff, Nat.reduceAdd, Nat.reduceSub, Nat.reduceMul, Nat.reduceLeDiff, Nat.reduceLT, reduceIte, reduceCtorEq, Nat.succ_ne_zero, elemsC, Int.reduceToNat, Nat.reducePow])); repeat ((first | (simp (disch := (first | omega | (simp only [AL, List.length_map]; omega))) only [AR, AL, ifT, ifF, take_all, List.length_cons, List.length_nil, Int.reduceToNat, Int.reducePow, Nat.reducePow]) | (refine wk_intro (by kernel_rfl) ?_)); try (simp only [go_sem, Nat.reduceEqDiff, Nat.reduceAdd, Nat.reduceSub, Nat.reduceMul, Nat.reduceLeDiff, Nat.reduceLT, reduceIte, reduceCtorEq, Nat.succ_ne_zero, elemsC, Int.reduceToNat, Nat.reducePow]))
    refine vf_of (r0) ?_; (try (simp only [go_sem, Nat.reduceEqDiff, Nat.reduceAdd, Nat.reduceSub, Nat.reduceMul, Nat.reduceLeDiff, Nat.reduceLT, reduceIte, reduceCtorEq, Nat.succ_ne_zero, elemsC, Int.reduceToNat, Nat.reducePow])); repeat ((first | (simp (disch := (first | omega | (simp only [AL, List.length_map]; omega))) only [AR, AL, ifT, ifF, take_all, List.length_cons, List.length_nil, Int.reduceToNat, Int.reducePow, Nat.reducePow]) | (refine wk_intro (by kernel_rfl) ?_)); try (simp only [go_sem, Nat.reduceEqDiff, Nat.reduceAdd, Nat.reduceSub, Nat.reduceMul, Nat.reduceLeDiff, Nat.reduceLT, reduceIte, reduceCtorEq, Nat.succ_ne_zero, elemsC, Int.reduceToNat, Nat.reducePow]))
    rfl
  · rw [if_neg h0]
    have s1 := stat_Sum h hL hL2 hl
    have b1 := stat_by (n := (l.length : Int)) (RatA_rv (sz_sum12 hL (row_sz hL h) hl)) (by omega) (by omega) (by omega)
    rw [show sumR l / ((l.length : Int) : Rat) = meanR l from rfl] at b1
    clear h
    refine Go.Ev.Fn.intro (fn := Try.f81) (body := (Try.f81).body.get!) (by kernel_rfl) (by kernel_rfl) (by kernel_rfl) (fun _ => rfl) (Nat.le_of_ble_eq_true (by kernel_rfl)) ?_; unfold Try.f81; simp only [Option.get!_some]
    (try (simp only [go_sem, Nat.reduceEqDiff, Nat.reduceAdd, Nat.reduceSub, Nat.reduceMul, Nat.reduceLeDiff, Nat.reduceLT, reduceIte, reduceCtorEq, Nat.succ_ne_zero, elemsC, Int.reduceToNat, Nat.reducePow])); repeat ((first | (simp (disch := (first | omega | (simp only [AL, List.length_map]; omega))) only [AR, AL, ifT, ifF, take_all, List.length_cons, List.length_nil, Int.reduceToNat, Int.reducePow, Nat.reducePow]) | (refine wk_intro (by kernel_rfl) ?_)); try (simp only [go_sem, Nat.reduceEqDiff, Nat.reduceAdd, Nat.reduceSub, Nat.reduceMul, Nat.reduceLeDiff, Nat.reduceLT, reduceIte, reduceCtorEq, Nat.succ_ne_zero, elemsC, Int.reduceToNat, Nat.reducePow]))
    refine vf_of (s1) ?_; (try (simp only [go_sem, Nat.reduceEqDiff, Nat.reduceAdd, Nat.reduceSub, Nat.reduceMul, Nat.reduceLeDiff, Nat.reduceLT, reduceIte, reduceCtorEq, Nat.succ_ne_zero, elemsC, Int.reduceToNat, Nat.reducePow])); repeat ((first | (simp (disch := (first | omega | (simp only [AL, List.length_map]; omega))) only [AR, AL, ifT, ifF, take_all, List.length_cons, List.length_nil, Int.reduceToNat, Int.reducePow, Nat.reducePow]) | (refine wk_intro (by kernel_rfl) ?_)); try (simp only [go_sem, Nat.reduceEqDiff, Nat.reduceAdd, Nat.reduceSub, Nat.reduceMul, Nat.reduceLeDiff, Nat.reduceLT, reduceIte, reduceCtorEq, Nat.succ_ne_zero, elemsC, Int.reduceToNat, Nat.reducePow]))
    refine vf_of (b1) ?_; (try (simp only [go_sem, Nat.reduceEqDiff, Nat.reduceAdd, Nat.reduceSub, Nat.reduceMul, Nat.reduceLeDiff, Nat.reduceLT, reduceIte, reduceCtorEq, Nat.succ_ne_zero, elemsC, Int.reduceToNat, Nat.reducePow])); repeat ((first | (simp (disch := (first | omega | (simp only [AL, List.length_map]; omega))) only [AR, AL, ifT, ifF, take_all, List.length_cons, List.length_nil, Int.reduceToNat, Int.reducePow, Nat.reducePow]) | (refine wk_intro (by kernel_rfl) ?_)); try (simp only [go_sem, Nat.reduceEqDiff, Nat.reduceAdd, Nat.reduceSub, Nat.reduceMul, Nat.reduceLeDiff, Nat.reduceLT, reduceIte, reduceCtorEq, Nat.succ_ne_zero, elemsC, Int.reduceToNat, Nat.reducePow]))
theorem rvs_snoc {l : List Rat} {i : Nat} (h : i < l.length) : rvsC (l.take i) ++ rvC (l.getD i 0) = rvsC (l.take (i + 1)) := by rw [take_snoc l h, rvsC_snoc]
theorem stat_off {cs : List SV} {l : List Rat} {L : Nat} (h : RowC cs l L) (hL : 1 ≤ L) (hL2 : L ≤ 100000) (hl : l.length ≤ 12) (h0 : 1 ≤ l.length) :
    Go.Ev.Fn CX 110 [.sl l.length cs] (.sl l.length (rvsC (offR l))) := by
  have m1 := stat_Mean h hL hL2 hl
  rw [if_neg (by omega)] at m1
  have hz := row_sz hL h
  have zm := sz_mean hL hz hl
  have hlen := row_len h
  have hol : (offR l).length = l.length := by unfold offR; rw [List.length_map]
  refine Go.Ev.Fn.intro (fn := Try.f110) (body := (Try.f110).body.get!) (by kernel_rfl) (by kernel_rfl) (by kernel_rfl) (fun _ => rfl) (Nat.le_of_ble_eq_true (by kernel_rfl)) ?_; unfold Try.f110; simp only [Option.get!_some]
  (try (simp only [go_sem, Nat.reduceEqDiff, Nat.reduceAdd, Nat.reduceSub, Nat.reduceMul, Nat.reduceLeDiff, Nat.reduceLT, reduceIte, reduceCtorEq, Nat.succ_ne_zero, elemsC, Int.reduceToNat, Nat.reducePow])); repeat ((first | (simp (disch := (first | omega | (simp only [AL, List.length_map]; omega))) only [AR, AL, ifT, ifF, take_all, List.length_cons, List.length_nil, Int.reduceToNat, Int.reducePow, Nat.reducePow]) | (refine wk_intro (by kernel_rfl) ?_)); try (simp only [go_sem, Nat.reduceEqDiff, Nat.reduceAdd, Nat.reduceSub, Nat.reduceMul, Nat.reduceLeDiff, Nat.reduceLT, reduceIte, reduceCtorEq, Nat.succ_ne_zero, elemsC, Int.reduceToNat, Nat.reducePow]))
  refine vf_of (m1) ?_; (try (simp only [go_sem, Nat.reduceEqDiff, Nat.reduceAdd, Nat.reduceSub, Nat.reduceMul, Nat.reduceLeDiff, Nat.reduceLT, reduceIte, reduceCtorEq, Nat.succ_ne_zero, elemsC, Int.reduceToNat, Nat.reducePow])); repeat ((first | (simp (disch := (first | omega | (simp only [AL, List.length_map]; omega))) only [AR, AL, ifT, ifF, take_all, List.length_cons, List.length_nil, Int.reduceToNat, Int.reducePow, Nat.reducePow]) | (refine wk_intro (by kernel_rfl) ?_)); try (simp only [go_sem, Nat.reduceEqDiff, Nat.reduceAdd, Nat.reduceSub, Nat.reduceMul, Nat.reduceLeDiff, Nat.reduceLT, reduceIte, reduceCtorEq, Nat.succ_ne_zero, elemsC, Int.reduceToNat, Nat.reducePow]))
  refine vp_loop_inv (fun s => s.tmp 13 = .sv (.sl l.length cs) ∧ s.tmp 14 = .sv (.int .i64 (l.length : Int)) ∧ s.tmp 3 = .ptr 3 0 0 ∧ s.obj 3 0 = some (rvC (meanR l)) ∧
      ∃ i : Nat, s.tmp 15 = .sv (.int .i64 (i : Int)) ∧ i ≤ l.length ∧ ((i = 0 ∧ s.tmp 5 = .nil ∧ s.gen 24 = 0) ∨ (0 < i ∧ s.tmp 5 = .ref 24 0 3 0 i ∧ s.obj 24 0 = some (rvsC ((offR l).take i)))))
    (fun s => match s.tmp 15 with | .sv (.int _ i) => l.length - i.toNat | _ => 0) ⟨rfl, rfl, rfl, rfl, 0, rfl, by omega, .inl ⟨rfl, rfl, rfl⟩⟩ ?_
  rintro s2 ⟨i13, i14, i3, iO, i, i15, hi, hc⟩
  by_cases hend : i = l.length
  · subst hend
    rcases hc with ⟨h00, _⟩ | ⟨_, i5, iP⟩
    · omega
    · rw [List.take_of_length_le (by omega)] at iP
      have hrl := rvsC_len (offR l)
      (try (simp only [go_sem, Nat.reduceEqDiff, Nat.reduceAdd, Nat.reduceSub, Nat.reduceMul, Nat.reduceLeDiff, Nat.reduceLT, reduceIte, reduceCtorEq, Nat.succ_ne_zero, elemsC, Int.reduceToNat, Nat.reducePow, i13, i14, i3, iO, i15, i5, iP, rvC])); repeat ((first | (simp (disch := (first | omega | (simp only [AL, List.length_map]; omega))) only [AR, AL, ifT, ifF, take_all, List.length_cons, List.length_nil, Int.reduceToNat, Int.reducePow, Nat.reducePow, i13, i14, i3, iO, i15, i5, iP, rvC]) | (refine wk_intro (by kernel_rfl) ?_)); try (simp only [go_sem, Nat.reduceEqDiff, Nat.reduceAdd, Nat.reduceSub, Nat.reduceMul, Nat.reduceLeDiff, Nat.reduceLT, reduceIte, reduceCtorEq, Nat.succ_ne_zero, elemsC, Int.reduceToNat, Nat.reducePow, i13, i14, i3, iO, i15, i5, iP, rvC]))
      refine ro_ref (cs := rvsC (offR l)) (by decide) ?_ ?_
      · simp only [go_sem, Nat.reduceEqDiff, Nat.reduceAdd, Nat.reduceSub, Nat.reduceMul, Nat.reduceLeDiff, Nat.reduceLT, reduceIte, reduceCtorEq, Nat.succ_ne_zero, elemsC, Int.reduceToNat, Nat.reducePow, i5, iP]
      · rw [List.drop_zero, List.take_of_length_le (by omega)]
  · obtain ⟨s, n, d, rest, hat, hA⟩ := row_at (i := i) h (by omega)
    have a := rat_Sub hA (RatA_rv zm) hL (by omega) (by omega)
    have hd : (offR l).getD i 0 = l.getD i 0 - meanR l := by unfold offR; rw [getD_map l _ (by omega)]
    have hsn := rvs_snoc (l := offR l) (i := i) (by omega)
    rw [hd] at hsn
    have hrl := rvsC_len ((offR l).take i)
    rw [List.length_take, hol, Nat.min_eq_left (by omega)] at hrl
    clear hz zm h hd hA
    rcases hc with ⟨h00, i5, ig⟩ | ⟨h00, i5, iP⟩
    · subst h00
      rw [List.take_zero, rvsC_nil, List.nil_append] at hsn
      rw [Nat.zero_mul, List.drop_zero] at hat
      subst hat
      (try (simp only [go_sem, Nat.reduceEqDiff, Nat.reduceAdd, Nat.reduceSub, Nat.reduceMul, Nat.reduceLeDiff, Nat.reduceLT, reduceIte, reduceCtorEq, Nat.succ_ne_zero, elemsC, Int.reduceToNat, Nat.reducePow, i13, i14, i3, iO, i15, i5, ig, rvC])); repeat ((first | (simp (disch := (first | omega | (simp only [AL, List.length_map]; omega))) only [AR, AL, ifT, ifF, take_all, List.length_cons, List.length_nil, Int.reduceToNat, Int.reducePow, Nat.reducePow, i13, i14, i3, iO, i15, i5, ig, rvC]) | (refine wk_intro (by kernel_rfl) ?_)); try (simp only [go_sem, Nat.reduceEqDiff, Nat.reduceAdd, Nat.reduceSub, Nat.reduceMul, Nat.reduceLeDiff, Nat.reduceLT, reduceIte, reduceCtorEq, Nat.succ_ne_zero, elemsC, Int.reduceToNat, Nat.reducePow, i13, i14, i3, iO, i15, i5, ig, rvC]))
      refine vf_of (a) ?_; (try (simp only [go_sem, Nat.reduceEqDiff, Nat.reduceAdd, Nat.reduceSub, Nat.reduceMul, Nat.reduceLeDiff, Nat.reduceLT, reduceIte, reduceCtorEq, Nat.succ_ne_zero, elemsC, Int.reduceToNat, Nat.reducePow, i13, i14, i3, iO, i15, i5, ig, N0, rvC])); repeat ((first | (simp (disch := (first | omega | (simp only [AL, List.length_map]; omega))) only [AR, AL, ifT, ifF, take_all, List.length_cons, List.length_nil, Int.reduceToNat, Int.reducePow, Nat.reducePow, i13, i14, i3, iO, i15, i5, ig, N0, rvC]) | (refine wk_intro (by kernel_rfl) ?_)); try (simp only [go_sem, Nat.reduceEqDiff, Nat.reduceAdd, Nat.reduceSub, Nat.reduceMul, Nat.reduceLeDiff, Nat.reduceLT, reduceIte, reduceCtorEq, Nat.succ_ne_zero, elemsC, Int.reduceToNat, Nat.reducePow, i13, i14, i3, iO, i15, i5, ig, N0, rvC]))
      exact ⟨⟨1, rfl, by omega, .inr ⟨by omega, rfl, by first | (rw [← hsn]; rfl) | rw [← hsn]⟩⟩, by omega⟩
    · unfold rvC at hsn
      (try (simp only [go_sem, Nat.reduceEqDiff, Nat.reduceAdd, Nat.reduceSub, Nat.reduceMul, Nat.reduceLeDiff, Nat.reduceLT, reduceIte, reduceCtorEq, Nat.succ_ne_zero, elemsC, Int.reduceToNat, Nat.reducePow, i13, i14, i3, iO, i15, i5, iP, hat, hlen, rvC])); repeat ((first | (simp (disch := (first | omega | (simp only [AL, List.length_map]; omega))) only [AR, AL, ifT, ifF, take_all, List.length_cons, List.length_nil, Int.reduceToNat, Int.reducePow, Nat.reducePow, i13, i14, i3, iO, i15, i5, iP, hat, hlen, rvC]) | (refine wk_intro (by kernel_rfl) ?_)); try (simp only [go_sem, Nat.reduceEqDiff, Nat.reduceAdd, Nat.reduceSub, Nat.reduceMul, Nat.reduceLeDiff, Nat.reduceLT, reduceIte, reduceCtorEq, Nat.succ_ne_zero, elemsC, Int.reduceToNat, Nat.reducePow, i13, i14, i3, iO, i15, i5, iP, hat, hlen, rvC]))
      refine vf_of (a) ?_; (try (simp only [go_sem, Nat.reduceEqDiff, Nat.reduceAdd, Nat.reduceSub, Nat.reduceMul, Nat.reduceLeDiff, Nat.reduceLT, reduceIte, reduceCtorEq, Nat.succ_ne_zero, elemsC, Int.reduceToNat, Nat.reducePow, i13, i14, i3, iO, i15, i5, iP, N0, hsn, hrl, rvC])); repeat ((first | (simp (disch := (first | omega | (simp only [AL, List.length_map]; omega))) only [AR, AL, ifT, ifF, take_all, List.length_cons, List.length_nil, Int.reduceToNat, Int.reducePow, Nat.reducePow, i13, i14, i3, iO, i15, i5, iP, N0, hsn, hrl, rvC]) | (refine wk_intro (by kernel_rfl) ?_)); try (simp only [go_sem, Nat.reduceEqDiff, Nat.reduceAdd, Nat.reduceSub, Nat.reduceMul, Nat.reduceLeDiff, Nat.reduceLT, reduceIte, reduceCtorEq, Nat.succ_ne_zero, elemsC, Int.reduceToNat, Nat.reducePow, i13, i14, i3, iO, i15, i5, iP, N0, hsn, hrl, rvC]))
      exact ⟨⟨i + 1, rfl, by omega, .inr ⟨by omega, rfl, by first | (rw [← hsn]; rfl) | rw [← hsn]⟩⟩, by omega⟩
theorem stat_products {l : List Rat} {L : Nat} (hz : ∀ x ∈ l, szR x L) (hL : 1 ≤ L) (hL2 : L ≤ 1000000) (hl : l.length ≤ 12) :
    Go.Ev.Fn CX 109 [.sl l.length (rvsC l), .sl l.length (rvsC l)] (rv (sumR (l.map fun x => x * x))) := by
  have r0 := rat_Int 0 (by omega)
  have hlen := rvsC_len l
  have hz2 := sz_map (f := fun x => x * x) hz (fun x hx => szR_mul hx hx hL)
  generalize hcs : rvsC l = cs at *
  refine Go.Ev.Fn.intro (fn := Try.f109) (body := (Try.f109).body.get!) (by kernel_rfl) (by kernel_rfl) (by kernel_rfl) (fun _ => rfl) (Nat.le_of_ble_eq_true (by kernel_rfl)) ?_; unfold Try.f109; simp only [Option.get!_some]
  (try (simp only [go_sem, Nat.reduceEqDiff, Nat.reduceAdd, Nat.reduceSub, Nat.reduceMul, Nat.reduceLeDiff, Nat.reduceLT, reduceIte, reduceCtorEq, Nat.succ_ne_zero, elemsC, Int.reduceToNat, Nat.reducePow])); repeat ((first | (simp (disch := (first | omega | (simp only [AL, List.length_map]; omega))) only [AR, AL, ifT, ifF, take_all, List.length_cons, List.length_nil, Int.reduceToNat, Int.reducePow, Nat.reducePow]) | (refine wk_intro (by kernel_rfl) ?_) | (refine vp_draw (id := 5) (l := []) (by kernel_rfl) ?_)); try (simp only [go_sem, Nat.reduceEqDiff, Nat.reduceAdd, Nat.reduceSub, Nat.reduceMul, Nat.reduceLeDiff, Nat.reduceLT, reduceIte, reduceCtorEq, Nat.succ_ne_zero, elemsC, Int.reduceToNat, Nat.reducePow]))
  refine vf_of (r0) ?_; (try (simp only [go_sem, Nat.reduceEqDiff, Nat.reduceAdd, Nat.reduceSub, Nat.reduceMul, Nat.reduceLeDiff, Nat.reduceLT, reduceIte, reduceCtorEq, Nat.succ_ne_zero, elemsC, Int.reduceToNat, Nat.reducePow])); repeat ((first | (simp (disch := (first | omega | (simp only [AL, List.length_map]; omega))) only [AR, AL, ifT, ifF, take_all, List.length_cons, List.length_nil, Int.reduceToNat, Int.reducePow, Nat.reducePow]) | (refine wk_intro (by kernel_rfl) ?_) | (refine vp_draw (id := 5) (l := []) (by kernel_rfl) ?_)); try (simp only [go_sem, Nat.reduceEqDiff, Nat.reduceAdd, Nat.reduceSub, Nat.reduceMul, Nat.reduceLeDiff, Nat.reduceLT, reduceIte, reduceCtorEq, Nat.succ_ne_zero, elemsC, Int.reduceToNat, Nat.reducePow]))
  refine vp_loop_inv (fun s => s.tmp 9 = .sv (.sl l.length cs) ∧ s.tmp 1 = .sv (.sl l.length cs) ∧ s.tmp 10 = .sv (.int .i64 (l.length : Int)) ∧ s.tmp 4 = .ptr 4 0 0 ∧ s.obj 4 0 = some [.bool false, .sl 0 [], .sl 0 []] ∧ s.tmp 5 = .ptr 5 0 0 ∧
      ∃ i : Nat, s.tmp 11 = .sv (.int .i64 (i : Int)) ∧ i ≤ l.length ∧ s.obj 5 0 = some (rvC (sumR ((l.map fun x => x * x).take i))))
    (fun s => match s.tmp 11 with | .sv (.int _ i) => l.length - i.toNat | _ => 0) ⟨rfl, rfl, rfl, rfl, rfl, rfl, 0, rfl, by omega, rfl⟩ ?_
  rintro s2 ⟨i9, i1, i10, i4, iO, i5, i, i11, hi, iP⟩
  by_cases hend : i = l.length
  · subst hend
    rw [List.take_of_length_le (by rw [List.length_map]; omega)] at iP
    (try (simp only [go_sem, Nat.reduceEqDiff, Nat.reduceAdd, Nat.reduceSub, Nat.reduceMul, Nat.reduceLeDiff, Nat.reduceLT, reduceIte, reduceCtorEq, Nat.succ_ne_zero, elemsC, Int.reduceToNat, Nat.reducePow, i9, i1, i10, i4, iO, i5, i11, iP, rvC])); repeat ((first | (simp (disch := (first | omega | (simp only [AL, List.length_map]; omega))) only [AR, AL, ifT, ifF, take_all, List.length_cons, List.length_nil, Int.reduceToNat, Int.reducePow, Nat.reducePow, i9, i1, i10, i4, iO, i5, i11, iP, rvC]) | (refine wk_intro (by kernel_rfl) ?_) | (refine vp_draw (id := 5) (l := []) (by kernel_rfl) ?_)); try (simp only [go_sem, Nat.reduceEqDiff, Nat.reduceAdd, Nat.reduceSub, Nat.reduceMul, Nat.reduceLeDiff, Nat.reduceLT, reduceIte, reduceCtorEq, Nat.succ_ne_zero, elemsC, Int.reduceToNat, Nat.reducePow, i9, i1, i10, i4, iO, i5, i11, iP, rvC]))
  · obtain ⟨rest, hat⟩ := rvsC_at (l := l) (i := i) (by omega)
    rw [hcs] at hat
    have hm := hz _ (getD_mem (l := l) (i := i) (by omega))
    have m1 := rat_Mul (RatA_rv hm) (RatA_rv hm) hL hL (by omega)
    have hS := sumR_take (l.map fun x => x * x) (i := i) (by rw [List.length_map]; omega)
    rw [getD_map l _ (by omega)] at hS
    have a := rat_Add (RatA_rv (sz_take12 (by omega) hz2 (by rw [List.length_map]; omega) i)) (RatA_rv (szR_mul hm hm hL)) (by omega) (by omega) (by omega)
    rw [← hS] at a
    generalize l.getD i 0 = x at *
    clear hz hz2 hm hS
    (try (simp only [go_sem, Nat.reduceEqDiff, Nat.reduceAdd, Nat.reduceSub, Nat.reduceMul, Nat.reduceLeDiff, Nat.reduceLT, reduceIte, reduceCtorEq, Nat.succ_ne_zero, elemsC, Int.reduceToNat, Nat.reducePow, i9, i1, i10, i4, iO, i5, i11, iP, rvC, hat, hlen, List.cons_append, List.nil_append])); repeat ((first | (simp (disch := (first | omega | (simp only [AL, List.length_map]; omega))) only [AR, AL, ifT, ifF, take_all, List.length_cons, List.length_nil, Int.reduceToNat, Int.reducePow, Nat.reducePow, i9, i1, i10, i4, iO, i5, i11, iP, rvC, hat, hlen, List.cons_append, List.nil_append]) | (refine wk_intro (by kernel_rfl) ?_) | (refine vp_draw (id := 5) (l := []) (by kernel_rfl) ?_)); try (simp only [go_sem, Nat.reduceEqDiff, Nat.reduceAdd, Nat.reduceSub, Nat.reduceMul, Nat.reduceLeDiff, Nat.reduceLT, reduceIte, reduceCtorEq, Nat.succ_ne_zero, elemsC, Int.reduceToNat, Nat.reducePow, i9, i1, i10, i4, iO, i5, i11, iP, rvC, hat, hlen, List.cons_append, List.nil_append]))
    refine vf_of (m1) ?_; (try (simp only [go_sem, Nat.reduceEqDiff, Nat.reduceAdd, Nat.reduceSub, Nat.reduceMul, Nat.reduceLeDiff, Nat.reduceLT, reduceIte, reduceCtorEq, Nat.succ_ne_zero, elemsC, Int.reduceToNat, Nat.reducePow, i9, i1, i10, i4, iO, i5, i11, iP, hat, hlen, rvC])); repeat ((first | (simp (disch := (first | omega | (simp only [AL, List.length_map]; omega))) only [AR, AL, ifT, ifF, take_all, List.length_cons, List.length_nil, Int.reduceToNat, Int.reducePow, Nat.reducePow, i9, i1, i10, i4, iO, i5, i11, iP, hat, hlen, rvC]) | (refine wk_intro (by kernel_rfl) ?_) | (refine vp_draw (id := 5) (l := []) (by kernel_rfl) ?_)); try (simp only [go_sem, Nat.reduceEqDiff, Nat.reduceAdd, Nat.reduceSub, Nat.reduceMul, Nat.reduceLeDiff, Nat.reduceLT, reduceIte, reduceCtorEq, Nat.succ_ne_zero, elemsC, Int.reduceToNat, Nat.reducePow, i9, i1, i10, i4, iO, i5, i11, iP, hat, hlen, rvC]))
    refine vf_of (a) ?_; (try (simp only [go_sem, Nat.reduceEqDiff, Nat.reduceAdd, Nat.reduceSub, Nat.reduceMul, Nat.reduceLeDiff, Nat.reduceLT, reduceIte, reduceCtorEq, Nat.succ_ne_zero, elemsC, Int.reduceToNat, Nat.reducePow, i9, i1, i10, i4, iO, i5, i11, iP, hat, hlen, rvC])); repeat ((first | (simp (disch := (first | omega | (simp only [AL, List.length_map]; omega))) only [AR, AL, ifT, ifF, take_all, List.length_cons, List.length_nil, Int.reduceToNat, Int.reducePow, Nat.reducePow, i9, i1, i10, i4, iO, i5, i11, iP, hat, hlen, rvC]) | (refine wk_intro (by kernel_rfl) ?_) | (refine vp_draw (id := 5) (l := []) (by kernel_rfl) ?_)); try (simp only [go_sem, Nat.reduceEqDiff, Nat.reduceAdd, Nat.reduceSub, Nat.reduceMul, Nat.reduceLeDiff, Nat.reduceLT, reduceIte, reduceCtorEq, Nat.succ_ne_zero, elemsC, Int.reduceToNat, Nat.reducePow, i9, i1, i10, i4, iO, i5, i11, iP, hat, hlen, rvC]))
    exact ⟨⟨i + 1, rfl, by omega, rfl⟩, by omega⟩
theorem stat_Covariance {cs : List SV} {l : List Rat} {L : Nat} (h : RowC cs l L) (hL : 1 ≤ L) (hL2 : L ≤ 10000) (hl : l.length ≤ 12) :
    Go.Ev.Fn CX 101 [.sl l.length cs, .sl l.length cs] (if l.length < 2 then numE 0 5 else numE (varR l) 0) := by
  have r0 := rat_Int 0 (by omega)
  by_cases h0 : l.length < 2
  · rw [if_pos h0]
    refine Go.Ev.Fn.intro (fn := Try.f101) (body := (Try.f101).body.get!) (by kernel_rfl) (by kernel_rfl) (by kernel_rfl) (fun _ => rfl) (Nat.le_of_ble_eq_true (by kernel_rfl)) ?_; unfold Try.f101; simp only [Option.get!_some]
    (try (simp only [go_sem, Nat.reduceEqDiff, Nat.reduceAdd, Nat.reduceSub, Nat.reduceMul, Nat.reduceLeDiff, Nat.reduceLT, reduceIte, reduceCtorEq, Nat.succ_ne_zero, elemsC, Int.reduceToNat, Nat.reducePow])); repeat ((first | (simp (disch := (first | omega | (simp only [AL, List.length_map]; omega))) only [AR, AL, ifT, ifF, take_all, List.length_cons, List.length_nil, Int.reduceToNat, Int.reducePow, Nat.reducePow]) | (refine wk_intro (by kernel_rfl) ?_)); try (simp only [go_sem, Nat.reduceEqDiff, Nat.reduceAdd, Nat.reduceSub, Nat.reduceMul, Nat.reduceLeDiff, Nat.reduceLT, reduceIte, reduceCtorEq, Nat.succ_ne_zero, elemsC, Int.reduceToNat, Nat.reducePow]))
    refine vf_of (r0) ?_; (try (simp only [go_sem, Nat.reduceEqDiff, Nat.reduceAdd, Nat.reduceSub, Nat.reduceMul, Nat.reduceLeDiff, Nat.reduceLT, reduceIte, reduceCtorEq, Nat.succ_ne_zero, elemsC, Int.reduceToNat, Nat.reducePow])); repeat ((first | (simp (disch := (first | omega | (simp only [AL, List.length_map]; omega))) only [AR, AL, ifT, ifF, take_all, List.length_cons, List.length_nil, Int.reduceToNat, Int.reducePow, Nat.reducePow]) | (refine wk_intro (by kernel_rfl) ?_)); try (simp only [go_sem, Nat.reduceEqDiff, Nat.reduceAdd, Nat.reduceSub, Nat.reduceMul, Nat.reduceLeDiff, Nat.reduceLT, reduceIte, reduceCtorEq, Nat.succ_ne_zero, elemsC, Int.reduceToNat, Nat.reducePow]))
    rfl
  · rw [if_neg h0]
    have s1 := stat_off h hL (by omega) hl (by omega)
    have hz := row_sz hL h
    have zo := sz_off hL hz hl
    have p1 := stat_products zo (by omega) (by omega) (by unfold offR; rw [List.length_map]; exact hl)
    rw [show (offR l).length = l.length by unfold offR; rw [List.length_map], show sumR ((offR l).map fun x => x * x) = sqR l from rfl] at p1
    have b1 := stat_by (n := (l.length : Int) - 1) (RatA_rv (sz_sq hL hz hl)) (by omega) (by omega) (by omega)
    rw [show sqR l / (((l.length : Int) - 1 : Int) : Rat) = varR l from rfl, show (l.length : Int) - 1 = ((l.length - 1 : Nat) : Int) by omega] at b1
    clear h zo hz
    refine Go.Ev.Fn.intro (fn := Try.f101) (body := (Try.f101).body.get!) (by kernel_rfl) (by kernel_rfl) (by kernel_rfl) (fun _ => rfl) (Nat.le_of_ble_eq_true (by kernel_rfl)) ?_; unfold Try.f101; simp only [Option.get!_some]
    (try (simp only [go_sem, Nat.reduceEqDiff, Nat.reduceAdd, Nat.reduceSub, Nat.reduceMul, Nat.reduceLeDiff, Nat.reduceLT, reduceIte, reduceCtorEq, Nat.succ_ne_zero, elemsC, Int.reduceToNat, Nat.reducePow])); repeat ((first | (simp (disch := (first | omega | (simp only [AL, List.length_map]; omega))) only [AR, AL, ifT, ifF, take_all, List.length_cons, List.length_nil, Int.reduceToNat, Int.reducePow, Nat.reducePow]) | (refine wk_intro (by kernel_rfl) ?_)); try (simp only [go_sem, Nat.reduceEqDiff, Nat.reduceAdd, Nat.reduceSub, Nat.reduceMul, Nat.reduceLeDiff, Nat.reduceLT, reduceIte, reduceCtorEq, Nat.succ_ne_zero, elemsC, Int.reduceToNat, Nat.reducePow]))
    refine vf_of (s1) ?_; (try (simp only [go_sem, Nat.reduceEqDiff, Nat.reduceAdd, Nat.reduceSub, Nat.reduceMul, Nat.reduceLeDiff, Nat.reduceLT, reduceIte, reduceCtorEq, Nat.succ_ne_zero, elemsC, Int.reduceToNat, Nat.reducePow])); repeat ((first | (simp (disch := (first | omega | (simp only [AL, List.length_map]; omega))) only [AR, AL, ifT, ifF, take_all, List.length_cons, List.length_nil, Int.reduceToNat, Int.reducePow, Nat.reducePow]) | (refine wk_intro (by kernel_rfl) ?_)); try (simp only [go_sem, Nat.reduceEqDiff, Nat.reduceAdd, Nat.reduceSub, Nat.reduceMul, Nat.reduceLeDiff, Nat.reduceLT, reduceIte, reduceCtorEq, Nat.succ_ne_zero, elemsC, Int.reduceToNat, Nat.reducePow]))
    refine vf_of (s1) ?_; (try (simp only [go_sem, Nat.reduceEqDiff, Nat.reduceAdd, Nat.reduceSub, Nat.reduceMul, Nat.reduceLeDiff, Nat.reduceLT, reduceIte, reduceCtorEq, Nat.succ_ne_zero, elemsC, Int.reduceToNat, Nat.reducePow])); repeat ((first | (simp (disch := (first | omega | (simp only [AL, List.length_map]; omega))) only [AR, AL, ifT, ifF, take_all, List.length_cons, List.length_nil, Int.reduceToNat, Int.reducePow, Nat.reducePow]) | (refine wk_intro (by kernel_rfl) ?_)); try (simp only [go_sem, Nat.reduceEqDiff, Nat.reduceAdd, Nat.reduceSub, Nat.reduceMul, Nat.reduceLeDiff, Nat.reduceLT, reduceIte, reduceCtorEq, Nat.succ_ne_zero, elemsC, Int.reduceToNat, Nat.reducePow]))
    refine vf_of (p1) ?_; (try (simp only [go_sem, Nat.reduceEqDiff, Nat.reduceAdd, Nat.reduceSub, Nat.reduceMul, Nat.reduceLeDiff, Nat.reduceLT, reduceIte, reduceCtorEq, Nat.succ_ne_zero, elemsC, Int.reduceToNat, Nat.reducePow])); repeat ((first | (simp (disch := (first | omega | (simp only [AL, List.length_map]; omega))) only [AR, AL, ifT, ifF, take_all, List.length_cons, List.length_nil, Int.reduceToNat, Int.reducePow, Nat.reducePow]) | (refine wk_intro (by kernel_rfl) ?_)); try (simp only [go_sem, Nat.reduceEqDiff, Nat.reduceAdd, Nat.reduceSub, Nat.reduceMul, Nat.reduceLeDiff, Nat.reduceLT, reduceIte, reduceCtorEq, Nat.succ_ne_zero, elemsC, Int.reduceToNat, Nat.reducePow]))
    refine vf_of (b1) ?_; (try (simp only [go_sem, Nat.reduceEqDiff, Nat.reduceAdd, Nat.reduceSub, Nat.reduceMul, Nat.reduceLeDiff, Nat.reduceLT, reduceIte, reduceCtorEq, Nat.succ_ne_zero, elemsC, Int.reduceToNat, Nat.reducePow])); repeat ((first | (simp (disch := (first | omega | (simp only [AL, List.length_map]; omega))) only [AR, AL, ifT, ifF, take_all, List.length_cons, List.length_nil, Int.reduceToNat, Int.reducePow, Nat.reducePow]) | (refine wk_intro (by kernel_rfl) ?_)); try (simp only [go_sem, Nat.reduceEqDiff, Nat.reduceAdd, Nat.reduceSub, Nat.reduceMul, Nat.reduceLeDiff, Nat.reduceLT, reduceIte, reduceCtorEq, Nat.succ_ne_zero, elemsC, Int.reduceToNat, Nat.reducePow]))
theorem stat_Variance {cs : List SV} {l : List Rat} {L : Nat} (h : RowC cs l L) (hL : 1 ≤ L) (hL2 : L ≤ 10000) (hl : l.length ≤ 12) :
    Go.Ev.Fn CX 85 [.sl l.length cs] (if l.length < 2 then numE 0 5 else numE (varR l) 0) := by
  have c1 := stat_Covariance h hL hL2 hl
  by_cases h0 : l.length < 2
  · rw [if_pos h0] at c1 ⊢
    refine Go.Ev.Fn.intro (fn := Try.f85) (body := (Try.f85).body.get!) (by kernel_rfl) (by kernel_rfl) (by kernel_rfl) (fun _ => rfl) (Nat.le_of_ble_eq_true (by kernel_rfl)) ?_; unfold Try.f85; simp only [Option.get!_some]
    (try (simp only [go_sem, Nat.reduceEqDiff, Nat.reduceAdd, Nat.reduceSub, Nat.reduceMul, Nat.reduceLeDiff, Nat.reduceLT, reduceIte, reduceCtorEq, Nat.succ_ne_zero, elemsC, Int.reduceToNat, Nat.reducePow])); repeat ((first | (simp (disch := (first | omega | (simp only [AL, List.length_map]; omega))) only [AR, AL, ifT, ifF, take_all, List.length_cons, List.length_nil, Int.reduceToNat, Int.reducePow, Nat.reducePow]) | (refine wk_intro (by kernel_rfl) ?_)); try (simp only [go_sem, Nat.reduceEqDiff, Nat.reduceAdd, Nat.reduceSub, Nat.reduceMul, Nat.reduceLeDiff, Nat.reduceLT, reduceIte, reduceCtorEq, Nat.succ_ne_zero, elemsC, Int.reduceToNat, Nat.reducePow]))
    refine vf_of (c1) ?_; (try (simp only [go_sem, Nat.reduceEqDiff, Nat.reduceAdd, Nat.reduceSub, Nat.reduceMul, Nat.reduceLeDiff, Nat.reduceLT, reduceIte, reduceCtorEq, Nat.succ_ne_zero, elemsC, Int.reduceToNat, Nat.reducePow])); repeat ((first | (simp (disch := (first | omega | (simp only [AL, List.length_map]; omega))) only [AR, AL, ifT, ifF, take_all, List.length_cons, List.length_nil, Int.reduceToNat, Int.reducePow, Nat.reducePow]) | (refine wk_intro (by kernel_rfl) ?_)); try (simp only [go_sem, Nat.reduceEqDiff, Nat.reduceAdd, Nat.reduceSub, Nat.reduceMul, Nat.reduceLeDiff, Nat.reduceLT, reduceIte, reduceCtorEq, Nat.succ_ne_zero, elemsC, Int.reduceToNat, Nat.reducePow]))
  · rw [if_neg h0] at c1 ⊢
    refine Go.Ev.Fn.intro (fn := Try.f85) (body := (Try.f85).body.get!) (by kernel_rfl) (by kernel_rfl) (by kernel_rfl) (fun _ => rfl) (Nat.le_of_ble_eq_true (by kernel_rfl)) ?_; unfold Try.f85; simp only [Option.get!_some]
    (try (simp only [go_sem, Nat.reduceEqDiff, Nat.reduceAdd, Nat.reduceSub, Nat.reduceMul, Nat.reduceLeDiff, Nat.reduceLT, reduceIte, reduceCtorEq, Nat.succ_ne_zero, elemsC, Int.reduceToNat, Nat.reducePow])); repeat ((first | (simp (disch := (first | omega | (simp only [AL, List.length_map]; omega))) only [AR, AL, ifT, ifF, take_all, List.length_cons, List.length_nil, Int.reduceToNat, Int.reducePow, Nat.reducePow]) | (refine wk_intro (by kernel_rfl) ?_)); try (simp only [go_sem, Nat.reduceEqDiff, Nat.reduceAdd, Nat.reduceSub, Nat.reduceMul, Nat.reduceLeDiff, Nat.reduceLT, reduceIte, reduceCtorEq, Nat.succ_ne_zero, elemsC, Int.reduceToNat, Nat.reducePow]))
    refine vf_of (c1) ?_; (try (simp only [go_sem, Nat.reduceEqDiff, Nat.reduceAdd, Nat.reduceSub, Nat.reduceMul, Nat.reduceLeDiff, Nat.reduceLT, reduceIte, reduceCtorEq, Nat.succ_ne_zero, elemsC, Int.reduceToNat, Nat.reducePow])); repeat ((first | (simp (disch := (first | omega | (simp only [AL, List.length_map]; omega))) only [AR, AL, ifT, ifF, take_all, List.length_cons, List.length_nil, Int.reduceToNat, Int.reducePow, Nat.reducePow]) | (refine wk_intro (by kernel_rfl) ?_)); try (simp only [go_sem, Nat.reduceEqDiff, Nat.reduceAdd, Nat.reduceSub, Nat.reduceMul, Nat.reduceLeDiff, Nat.reduceLT, reduceIte, reduceCtorEq, Nat.succ_ne_zero, elemsC, Int.reduceToNat, Nat.reducePow]))
theorem stat_Central {cs : List SV} {l : List Rat} {L : Nat} (h : RowC cs l L) (hL : 1 ≤ L) (hL2 : L ≤ 10000) (hl : l.length ≤ 12) (h0 : 1 ≤ l.length) :
    Go.Ev.Fn CX 102 [.int .i64 2, .sl l.length cs] (numE (sqR l / ((l.length : Int) : Rat)) 0) := by
  have r0 := rat_Int 0 (by omega)
  have r1 := rat_Int 1 (by omega)
  have s1 := stat_off h hL (by omega) hl (by omega)
  have hz := row_sz hL h
  have zo := sz_off hL hz hl
  have hol : (offR l).length = l.length := by unfold offR; rw [List.length_map]
  have b1 := stat_by (n := (l.length : Int)) (RatA_rv (sz_sq hL hz hl)) (by omega) (by omega) (by omega)
  have zs := fun i => sz_take12 (by omega) (sz_map (f := fun x => x * x) zo (fun x hx => szR_mul hx hx (by omega))) (by rw [List.length_map]; omega) i
  have hst := fun {i : Nat} (hi : i < l.length) => sumR_take ((offR l).map fun x => x * x) (i := i) (by rw [List.length_map]; omega)
  have hgd := fun {i : Nat} (hi : i < l.length) => getD_map (offR l) (fun x => x * x) (i := i) (by omega)
  have hall : sumR (((offR l).map fun x => x * x).take l.length) = sqR l := by rw [List.take_of_length_le (by rw [List.length_map]; omega)]; rfl
  have hat := fun {i : Nat} (hi : i < l.length) => rvsC_at (l := offR l) (i := i) (by omega)
  have hlen := rvsC_len (offR l)
  have hzm := fun {i : Nat} (hi : i < l.length) => zo _ (getD_mem (l := offR l) (i := i) (by omega))
  have hsum0 : sumR (((offR l).map fun x => x * x).take 0) = 0 := rfl
  rw [hol] at hlen
  generalize hS : (fun i => sumR (((offR l).map fun x => x * x).take i)) = S at *
  have hSi : ∀ i, sumR (((offR l).map fun x => x * x).take i) = S i := fun i => by rw [← hS]
  simp only [hSi] at zs hst hall hsum0
  generalize sqR l = q at *
  generalize hcs : rvsC (offR l) = ds at *
  clear h hz zo
  refine Go.Ev.Fn.intro (fn := Try.f102) (body := (Try.f102).body.get!) (by kernel_rfl) (by kernel_rfl) (by kernel_rfl) (fun _ => rfl) (Nat.le_of_ble_eq_true (by kernel_rfl)) ?_; unfold Try.f102; simp only [Option.get!_some]
  (try (simp only [go_sem, Nat.reduceEqDiff, Nat.reduceAdd, Nat.reduceSub, Nat.reduceMul, Nat.reduceLeDiff, Nat.reduceLT, reduceIte, reduceCtorEq, Nat.succ_ne_zero, elemsC, Int.reduceToNat, Nat.reducePow])); repeat ((first | (simp (disch := (first | omega | (simp only [AL, List.length_map]; omega))) only [AR, AL, ifT, ifF, take_all, List.length_cons, List.length_nil, Int.reduceToNat, Int.reducePow, Nat.reducePow]) | (refine wk_intro (by kernel_rfl) ?_)); try (simp only [go_sem, Nat.reduceEqDiff, Nat.reduceAdd, Nat.reduceSub, Nat.reduceMul, Nat.reduceLeDiff, Nat.reduceLT, reduceIte, reduceCtorEq, Nat.succ_ne_zero, elemsC, Int.reduceToNat, Nat.reducePow]))
  refine vf_of (r0) ?_; (try (simp only [go_sem, Nat.reduceEqDiff, Nat.reduceAdd, Nat.reduceSub, Nat.reduceMul, Nat.reduceLeDiff, Nat.reduceLT, reduceIte, reduceCtorEq, Nat.succ_ne_zero, elemsC, Int.reduceToNat, Nat.reducePow])); repeat ((first | (simp (disch := (first | omega | (simp only [AL, List.length_map]; omega))) only [AR, AL, ifT, ifF, take_all, List.length_cons, List.length_nil, Int.reduceToNat, Int.reducePow, Nat.reducePow]) | (refine wk_intro (by kernel_rfl) ?_)); try (simp only [go_sem, Nat.reduceEqDiff, Nat.reduceAdd, Nat.reduceSub, Nat.reduceMul, Nat.reduceLeDiff, Nat.reduceLT, reduceIte, reduceCtorEq, Nat.succ_ne_zero, elemsC, Int.reduceToNat, Nat.reducePow]))
  refine vf_of (s1) ?_; (try (simp only [go_sem, Nat.reduceEqDiff, Nat.reduceAdd, Nat.reduceSub, Nat.reduceMul, Nat.reduceLeDiff, Nat.reduceLT, reduceIte, reduceCtorEq, Nat.succ_ne_zero, elemsC, Int.reduceToNat, Nat.reducePow])); repeat ((first | (simp (disch := (first | omega | (simp only [AL, List.length_map]; omega))) only [AR, AL, ifT, ifF, take_all, List.length_cons, List.length_nil, Int.reduceToNat, Int.reducePow, Nat.reducePow]) | (refine wk_intro (by kernel_rfl) ?_)); try (simp only [go_sem, Nat.reduceEqDiff, Nat.reduceAdd, Nat.reduceSub, Nat.reduceMul, Nat.reduceLeDiff, Nat.reduceLT, reduceIte, reduceCtorEq, Nat.succ_ne_zero, elemsC, Int.reduceToNat, Nat.reducePow]))
  refine vp_loop_inv (fun s => s.tmp 0 = .sv (.int .i64 2) ∧ s.tmp 1 = .sv (.sl l.length cs) ∧ s.tmp 4 = .ptr 4 0 0 ∧ s.obj 4 0 = some [.bool false, .sl 0 [], .sl 0 []] ∧ s.tmp 6 = .ptr 6 0 0 ∧ s.tmp 25 = .sv (.sl l.length ds) ∧ s.tmp 26 = .sv (.int .i64 (l.length : Int)) ∧
      ∃ i : Nat, s.tmp 27 = .sv (.int .i64 (i : Int)) ∧ i ≤ l.length ∧ s.obj 6 0 = some (rvC (S i)))
    (fun s => match s.tmp 27 with | .sv (.int _ i) => l.length - i.toNat | _ => 0) ⟨rfl, rfl, rfl, rfl, rfl, rfl, rfl, 0, rfl, by omega, by rw [hsum0]; rfl⟩ ?_
  rintro s2 ⟨i0, i1, i4, iO, i6, i25, i26, i, i27, hi, iP⟩
  by_cases hend : i = l.length
  · subst hend
    rw [hall] at iP
    (try (simp only [go_sem, Nat.reduceEqDiff, Nat.reduceAdd, Nat.reduceSub, Nat.reduceMul, Nat.reduceLeDiff, Nat.reduceLT, reduceIte, reduceCtorEq, Nat.succ_ne_zero, elemsC, Int.reduceToNat, Nat.reducePow, i0, i1, i4, iO, i6, i25, i26, i27, iP, rvC])); repeat ((first | (simp (disch := (first | omega | (simp only [AL, List.length_map]; omega))) only [AR, AL, ifT, ifF, take_all, List.length_cons, List.length_nil, Int.reduceToNat, Int.reducePow, Nat.reducePow, i0, i1, i4, iO, i6, i25, i26, i27, iP, rvC]) | (refine wk_intro (by kernel_rfl) ?_)); try (simp only [go_sem, Nat.reduceEqDiff, Nat.reduceAdd, Nat.reduceSub, Nat.reduceMul, Nat.reduceLeDiff, Nat.reduceLT, reduceIte, reduceCtorEq, Nat.succ_ne_zero, elemsC, Int.reduceToNat, Nat.reducePow, i0, i1, i4, iO, i6, i25, i26, i27, iP, rvC]))
    refine vf_of (b1) ?_; (try (simp only [go_sem, Nat.reduceEqDiff, Nat.reduceAdd, Nat.reduceSub, Nat.reduceMul, Nat.reduceLeDiff, Nat.reduceLT, reduceIte, reduceCtorEq, Nat.succ_ne_zero, elemsC, Int.reduceToNat, Nat.reducePow, i0, i1, i4, iO, i6, i25, i26, i27, iP, rvC])); repeat ((first | (simp (disch := (first | omega | (simp only [AL, List.length_map]; omega))) only [AR, AL, ifT, ifF, take_all, List.length_cons, List.length_nil, Int.reduceToNat, Int.reducePow, Nat.reducePow, i0, i1, i4, iO, i6, i25, i26, i27, iP, rvC]) | (refine wk_intro (by kernel_rfl) ?_)); try (simp only [go_sem, Nat.reduceEqDiff, Nat.reduceAdd, Nat.reduceSub, Nat.reduceMul, Nat.reduceLeDiff, Nat.reduceLT, reduceIte, reduceCtorEq, Nat.succ_ne_zero, elemsC, Int.reduceToNat, Nat.reducePow, i0, i1, i4, iO, i6, i25, i26, i27, iP, rvC]))
  · obtain ⟨rest, g1⟩ := hat (i := i) (by omega)
    have z1 := hzm (i := i) (by omega)
    have e1 := hst (i := i) (by omega)
    rw [hgd (by omega)] at e1
    have m1 := rat_Mul (RatA_rv (int_szR (n := 1) (by omega))) (RatA_rv z1) (by omega) (by omega) (by omega)
    generalize (offR l).getD i 0 = x at *
    rw [show ((1 : Int) : Rat) * x = x by show (1 : Rat) * x = x; exact Rat.one_mul x] at m1
    have m2 := rat_Mul (RatA_rv z1) (RatA_rv z1) (by omega) (by omega) (by omega)
    have a1 := rat_Add (RatA_rv (zs i)) (RatA_rv (szR_mul z1 z1 (by omega))) (by omega) (by omega) (by omega)
    rw [← e1] at a1
    clear hat hzm hst hgd hall hsum0 e1 z1
    (try (simp only [go_sem, Nat.reduceEqDiff, Nat.reduceAdd, Nat.reduceSub, Nat.reduceMul, Nat.reduceLeDiff, Nat.reduceLT, reduceIte, reduceCtorEq, Nat.succ_ne_zero, elemsC, Int.reduceToNat, Nat.reducePow, i0, i1, i4, iO, i6, i25, i26, i27, iP, g1, hlen, List.cons_append, List.nil_append, rvC])); repeat ((first | (simp (disch := (first | omega | (simp only [AL, List.length_map]; omega))) only [AR, AL, ifT, ifF, take_all, List.length_cons, List.length_nil, Int.reduceToNat, Int.reducePow, Nat.reducePow, i0, i1, i4, iO, i6, i25, i26, i27, iP, g1, hlen, List.cons_append, List.nil_append, rvC]) | (refine wk_intro (by kernel_rfl) ?_)); try (simp only [go_sem, Nat.reduceEqDiff, Nat.reduceAdd, Nat.reduceSub, Nat.reduceMul, Nat.reduceLeDiff, Nat.reduceLT, reduceIte, reduceCtorEq, Nat.succ_ne_zero, elemsC, Int.reduceToNat, Nat.reducePow, i0, i1, i4, iO, i6, i25, i26, i27, iP, g1, hlen, List.cons_append, List.nil_append, rvC]))
    refine vf_of (r1) ?_; (try (simp only [go_sem, Nat.reduceEqDiff, Nat.reduceAdd, Nat.reduceSub, Nat.reduceMul, Nat.reduceLeDiff, Nat.reduceLT, reduceIte, reduceCtorEq, Nat.succ_ne_zero, elemsC, Int.reduceToNat, Nat.reducePow, i0, i1, i4, iO, i6, i25, i26, i27, iP, g1, hlen, rvC])); repeat ((first | (simp (disch := (first | omega | (simp only [AL, List.length_map]; omega))) only [AR, AL, ifT, ifF, take_all, List.length_cons, List.length_nil, Int.reduceToNat, Int.reducePow, Nat.reducePow, i0, i1, i4, iO, i6, i25, i26, i27, iP, g1, hlen, rvC]) | (refine wk_intro (by kernel_rfl) ?_)); try (simp only [go_sem, Nat.reduceEqDiff, Nat.reduceAdd, Nat.reduceSub, Nat.reduceMul, Nat.reduceLeDiff, Nat.reduceLT, reduceIte, reduceCtorEq, Nat.succ_ne_zero, elemsC, Int.reduceToNat, Nat.reducePow, i0, i1, i4, iO, i6, i25, i26, i27, iP, g1, hlen, rvC]))
    refine vp_loop_inv (fun s => s.tmp 0 = .sv (.int .i64 2) ∧ s.tmp 1 = .sv (.sl l.length cs) ∧ s.tmp 4 = .ptr 4 0 0 ∧ s.obj 4 0 = some [.bool false, .sl 0 [], .sl 0 []] ∧ s.tmp 6 = .ptr 6 0 0 ∧ s.tmp 25 = .sv (.sl l.length ds) ∧ s.tmp 26 = .sv (.int .i64 (l.length : Int)) ∧
        s.tmp 27 = .sv (.int .i64 (i : Int)) ∧ s.obj 6 0 = some (rvC (S i)) ∧ s.tmp 32 = .sv (.int .i64 2) ∧
        ∃ g8 g9, s.tmp 8 = .ptr 8 g8 0 ∧ s.tmp 9 = .ptr 9 g9 0 ∧ s.obj 8 g8 = some (rvC x) ∧ ((s.tmp 33 = .sv (.int .i64 0) ∧ s.obj 9 g9 = some (rvC ((1 : Int) : Rat))) ∨ (s.tmp 33 = .sv (.int .i64 1) ∧ s.obj 9 g9 = some (rvC x)) ∨ (s.tmp 33 = .sv (.int .i64 2) ∧ s.obj 9 g9 = some (rvC (x * x)))))
      (fun s => match s.tmp 33 with | .sv (.int _ i) => 2 - i.toNat | _ => 0) ⟨i0, i1, i4, iO, i6, i25, i26, i27, iP, rfl, _, _, rfl, rfl, ?_, .inl ⟨rfl, ?_⟩⟩ ?_
    · simp only [go_sem, Nat.reduceEqDiff, Nat.reduceAdd, Nat.reduceSub, Nat.reduceMul, Nat.reduceLeDiff, Nat.reduceLT, reduceIte, reduceCtorEq, Nat.succ_ne_zero, elemsC, Int.reduceToNat, Nat.reducePow, rvC]
    · simp only [go_sem, Nat.reduceEqDiff, Nat.reduceAdd, Nat.reduceSub, Nat.reduceMul, Nat.reduceLeDiff, Nat.reduceLT, reduceIte, reduceCtorEq, Nat.succ_ne_zero, elemsC, Int.reduceToNat, Nat.reducePow, rvC]
    rintro s3 ⟨k0, k1, k4, kO, k6, k25, k26, k27, kP, k32, g8, g9, k8, k9, o8, h33⟩
    rcases h33 with ⟨k33, o9⟩ | ⟨k33, o9⟩ | ⟨k33, o9⟩
    · (try (simp only [go_sem, Nat.reduceEqDiff, Nat.reduceAdd, Nat.reduceSub, Nat.reduceMul, Nat.reduceLeDiff, Nat.reduceLT, reduceIte, reduceCtorEq, Nat.succ_ne_zero, elemsC, Int.reduceToNat, Nat.reducePow, k0, k1, k4, kO, k6, k25, k26, k27, kP, k32, k8, k9, o8, k33, o9, rvC])); repeat ((first | (simp (disch := (first | omega | (simp only [AL, List.length_map]; omega))) only [AR, AL, ifT, ifF, take_all, List.length_cons, List.length_nil, Int.reduceToNat, Int.reducePow, Nat.reducePow, k0, k1, k4, kO, k6, k25, k26, k27, kP, k32, k8, k9, o8, k33, o9, rvC]) | (refine wk_intro (by kernel_rfl) ?_)); try (simp only [go_sem, Nat.reduceEqDiff, Nat.reduceAdd, Nat.reduceSub, Nat.reduceMul, Nat.reduceLeDiff, Nat.reduceLT, reduceIte, reduceCtorEq, Nat.succ_ne_zero, elemsC, Int.reduceToNat, Nat.reducePow, k0, k1, k4, kO, k6, k25, k26, k27, kP, k32, k8, k9, o8, k33, o9, rvC]))
      refine vf_of (m1) ?_; (try (simp only [go_sem, Nat.reduceEqDiff, Nat.reduceAdd, Nat.reduceSub, Nat.reduceMul, Nat.reduceLeDiff, Nat.reduceLT, reduceIte, reduceCtorEq, Nat.succ_ne_zero, elemsC, Int.reduceToNat, Nat.reducePow, k0, k1, k4, kO, k6, k25, k26, k27, kP, k32, k8, k9, o8, k33, o9, rvC])); repeat ((first | (simp (disch := (first | omega | (simp only [AL, List.length_map]; omega))) only [AR, AL, ifT, ifF, take_all, List.length_cons, List.length_nil, Int.reduceToNat, Int.reducePow, Nat.reducePow, k0, k1, k4, kO, k6, k25, k26, k27, kP, k32, k8, k9, o8, k33, o9, rvC]) | (refine wk_intro (by kernel_rfl) ?_)); try (simp only [go_sem, Nat.reduceEqDiff, Nat.reduceAdd, Nat.reduceSub, Nat.reduceMul, Nat.reduceLeDiff, Nat.reduceLT, reduceIte, reduceCtorEq, Nat.succ_ne_zero, elemsC, Int.reduceToNat, Nat.reducePow, k0, k1, k4, kO, k6, k25, k26, k27, kP, k32, k8, k9, o8, k33, o9, rvC]))
      exact ⟨⟨_, _, rfl, rfl, o8, .inr (.inl ⟨rfl, if_pos rfl⟩)⟩, by omega⟩
    · (try (simp only [go_sem, Nat.reduceEqDiff, Nat.reduceAdd, Nat.reduceSub, Nat.reduceMul, Nat.reduceLeDiff, Nat.reduceLT, reduceIte, reduceCtorEq, Nat.succ_ne_zero, elemsC, Int.reduceToNat, Nat.reducePow, k0, k1, k4, kO, k6, k25, k26, k27, kP, k32, k8, k9, o8, k33, o9, rvC])); repeat ((first | (simp (disch := (first | omega | (simp only [AL, List.length_map]; omega))) only [AR, AL, ifT, ifF, take_all, List.length_cons, List.length_nil, Int.reduceToNat, Int.reducePow, Nat.reducePow, k0, k1, k4, kO, k6, k25, k26, k27, kP, k32, k8, k9, o8, k33, o9, rvC]) | (refine wk_intro (by kernel_rfl) ?_)); try (simp only [go_sem, Nat.reduceEqDiff, Nat.reduceAdd, Nat.reduceSub, Nat.reduceMul, Nat.reduceLeDiff, Nat.reduceLT, reduceIte, reduceCtorEq, Nat.succ_ne_zero, elemsC, Int.reduceToNat, Nat.reducePow, k0, k1, k4, kO, k6, k25, k26, k27, kP, k32, k8, k9, o8, k33, o9, rvC]))
      refine vf_of (m2) ?_; (try (simp only [go_sem, Nat.reduceEqDiff, Nat.reduceAdd, Nat.reduceSub, Nat.reduceMul, Nat.reduceLeDiff, Nat.reduceLT, reduceIte, reduceCtorEq, Nat.succ_ne_zero, elemsC, Int.reduceToNat, Nat.reducePow, k0, k1, k4, kO, k6, k25, k26, k27, kP, k32, k8, k9, o8, k33, o9, rvC])); repeat ((first | (simp (disch := (first | omega | (simp only [AL, List.length_map]; omega))) only [AR, AL, ifT, ifF, take_all, List.length_cons, List.length_nil, Int.reduceToNat, Int.reducePow, Nat.reducePow, k0, k1, k4, kO, k6, k25, k26, k27, kP, k32, k8, k9, o8, k33, o9, rvC]) | (refine wk_intro (by kernel_rfl) ?_)); try (simp only [go_sem, Nat.reduceEqDiff, Nat.reduceAdd, Nat.reduceSub, Nat.reduceMul, Nat.reduceLeDiff, Nat.reduceLT, reduceIte, reduceCtorEq, Nat.succ_ne_zero, elemsC, Int.reduceToNat, Nat.reducePow, k0, k1, k4, kO, k6, k25, k26, k27, kP, k32, k8, k9, o8, k33, o9, rvC]))
      exact ⟨⟨_, _, rfl, rfl, o8, .inr (.inr ⟨rfl, if_pos rfl⟩)⟩, by omega⟩
    · (try (simp only [go_sem, Nat.reduceEqDiff, Nat.reduceAdd, Nat.reduceSub, Nat.reduceMul, Nat.reduceLeDiff, Nat.reduceLT, reduceIte, reduceCtorEq, Nat.succ_ne_zero, elemsC, Int.reduceToNat, Nat.reducePow, k0, k1, k4, kO, k6, k25, k26, k27, kP, k32, k8, k9, o8, k33, o9, rvC])); repeat ((first | (simp (disch := (first | omega | (simp only [AL, List.length_map]; omega))) only [AR, AL, ifT, ifF, take_all, List.length_cons, List.length_nil, Int.reduceToNat, Int.reducePow, Nat.reducePow, k0, k1, k4, kO, k6, k25, k26, k27, kP, k32, k8, k9, o8, k33, o9, rvC]) | (refine wk_intro (by kernel_rfl) ?_)); try (simp only [go_sem, Nat.reduceEqDiff, Nat.reduceAdd, Nat.reduceSub, Nat.reduceMul, Nat.reduceLeDiff, Nat.reduceLT, reduceIte, reduceCtorEq, Nat.succ_ne_zero, elemsC, Int.reduceToNat, Nat.reducePow, k0, k1, k4, kO, k6, k25, k26, k27, kP, k32, k8, k9, o8, k33, o9, rvC]))
      refine vf_of (a1) ?_; (try (simp only [go_sem, Nat.reduceEqDiff, Nat.reduceAdd, Nat.reduceSub, Nat.reduceMul, Nat.reduceLeDiff, Nat.reduceLT, reduceIte, reduceCtorEq, Nat.succ_ne_zero, elemsC, Int.reduceToNat, Nat.reducePow, k0, k1, k4, kO, k6, k25, k26, k27, kP, k32, k8, k9, o8, k33, o9, rvC])); repeat ((first | (simp (disch := (first | omega | (simp only [AL, List.length_map]; omega))) only [AR, AL, ifT, ifF, take_all, List.length_cons, List.length_nil, Int.reduceToNat, Int.reducePow, Nat.reducePow, k0, k1, k4, kO, k6, k25, k26, k27, kP, k32, k8, k9, o8, k33, o9, rvC]) | (refine wk_intro (by kernel_rfl) ?_)); try (simp only [go_sem, Nat.reduceEqDiff, Nat.reduceAdd, Nat.reduceSub, Nat.reduceMul, Nat.reduceLeDiff, Nat.reduceLT, reduceIte, reduceCtorEq, Nat.succ_ne_zero, elemsC, Int.reduceToNat, Nat.reducePow, k0, k1, k4, kO, k6, k25, k26, k27, kP, k32, k8, k9, o8, k33, o9, rvC]))
      exact ⟨⟨i + 1, rfl, by omega, rfl⟩, by omega⟩
end Go.Proofs.Ytdnmhnjblgkjaaa

/- A statistic's laws: plain mathematics, no program. -/
namespace Go.Proofs.Ytdnmhnjblgkjaaa
open Go.Ev
abbrev lenR (l : List Rat) : Rat := ((l.length : Int) : Rat)
theorem lenR_cons (x : Rat) (l : List Rat) : lenR (x :: l) = lenR l + 1 := by
  show (((l.length + 1 : Nat) : Int) : Rat) = _
  rw [Int.natCast_add, Rat.intCast_add]; rfl
theorem lenR_ne {l : List Rat} (h : l ≠ []) : lenR l ≠ 0 := by
  intro h2
  have : (l.length : Int) = 0 := Rat.intCast_inj.1 h2
  exact h (List.length_eq_zero_iff.1 (by omega))
theorem sumR_lin (a b : Rat) (l : List Rat) : sumR (l.map fun x => x * a + b) = sumR l * a + lenR l * b := by
  induction l with
  | nil => rw [List.map_nil, sumR_nil, show lenR [] = 0 from rfl]; grind
  | cons x l ih => rw [List.map_cons, sumR_cons, sumR_cons, lenR_cons, ih]; grind
theorem sumR_scale (c : Rat) (l : List Rat) : sumR (l.map fun x => c * x) = c * sumR l := by
  induction l with
  | nil => rw [List.map_nil, sumR_nil]; grind
  | cons x l ih => rw [List.map_cons, sumR_cons, sumR_cons, ih]; grind
theorem div_cancel' {x n : Rat} (h : n ≠ 0) : x / n * n = x := Rat.div_mul_cancel h
theorem div_uniq {x y n : Rat} (h : n ≠ 0) (e : y * n = x) : x / n = y := by
  rw [← e]; exact Rat.mul_div_cancel h
theorem meanR_lin (a b : Rat) {l : List Rat} (h : l ≠ []) : meanR (l.map fun x => x * a + b) = meanR l * a + b := by
  unfold meanR
  rw [sumR_lin, List.length_map]
  have hn := lenR_ne h
  refine div_uniq hn ?_
  have e := div_cancel' (x := sumR l) hn
  show (sumR l / lenR l * a + b) * lenR l = _
  generalize sumR l / lenR l = m at *
  rw [← e]; grind
theorem offR_lin (a b : Rat) {l : List Rat} (h : l ≠ []) : offR (l.map fun x => x * a + b) = (offR l).map fun x => x * a := by
  unfold offR
  rw [meanR_lin a b h, List.map_map, List.map_map]
  refine List.map_congr_left fun x _ => ?_
  show x * a + b - (meanR l * a + b) = (x - meanR l) * a
  grind
theorem sqR_lin (a b : Rat) {l : List Rat} (h : l ≠ []) : sqR (l.map fun x => x * a + b) = (a * a) * sqR l := by
  unfold sqR
  rw [offR_lin a b h, List.map_map, ← sumR_scale, List.map_map]
  congr 1
  refine List.map_congr_left fun x _ => ?_
  show x * a * (x * a) = a * a * (x * x)
  grind
theorem varR_lin (a b : Rat) {l : List Rat} (h : l ≠ []) : varR (l.map fun x => x * a + b) = (a * a) * varR l := by
  unfold varR
  rw [sqR_lin a b h, List.length_map, Rat.div_def, Rat.div_def, Rat.mul_assoc]
/-- A statistic, its degrees, the error. -/
abbrev Res := Rat × List Int × Int
/-- A row's test. -/
def stuR (l : List Rat) (mu : Rat) : Res :=
  if l.length < 2 then (0, [], 5) else if varR l = 0 then (0, [], 5) else (lenR l * ((meanR l - mu) * (meanR l - mu)) / varR l, [(l.length : Int) - 1], 0)
theorem stuR_moves {a b mu : Rat} {l : List Rat} (ha : a ≠ 0) : stuR (l.map fun x => x * a + b) (mu * a + b) = stuR l mu := by
  unfold stuR lenR
  rw [List.length_map]
  by_cases h : l.length < 2
  · rw [if_pos h, if_pos h]
  · have hl : l ≠ [] := by rintro rfl; simp at h
    rw [if_neg h, if_neg h, varR_lin a b hl, meanR_lin a b hl]
    have haa : a * a ≠ 0 := fun e => by rcases Rat.mul_eq_zero.1 e with h | h <;> exact ha h
    by_cases hv : varR l = 0
    · rw [if_pos hv, if_pos (by rw [hv]; grind)]
    · have hv2 : a * a * varR l ≠ 0 := fun e => (Rat.mul_eq_zero.1 e).elim haa hv
      rw [if_neg hv, if_neg hv2]
      refine Prod.ext ?_ rfl
      refine div_uniq hv2 ?_
      show lenR l * ((meanR l - mu) * (meanR l - mu)) / varR l * (a * a * varR l) = _
      have e := div_cancel' (x := lenR l * ((meanR l - mu) * (meanR l - mu))) hv
      show _ = lenR l * _
      generalize lenR l * ((meanR l - mu) * (meanR l - mu)) / varR l = q at *
      grind
/-- Two rows pooled. -/
def poolR (a b : List Rat) : Res :=
  if a.length = 0 ∨ b.length = 0 ∨ a.length + b.length < 3 then (0, [], 5) else
  if (sqR a + sqR b) / (((a.length : Int) + (b.length : Int) - 2 : Int) : Rat) = 0 then (0, [], 5) else
  ((meanR a - meanR b) * (meanR a - meanR b) / ((sqR a + sqR b) / (((a.length : Int) + (b.length : Int) - 2 : Int) : Rat) * ((((a.length : Int) + (b.length : Int) : Int) : Rat) / (((a.length : Int) * (b.length : Int) : Int) : Rat))), [(a.length : Int) + (b.length : Int) - 2], 0)
theorem poolR_turn (a b : List Rat) : poolR a b = poolR b a := by
  unfold poolR
  rw [show (a.length : Int) + (b.length : Int) = (b.length : Int) + (a.length : Int) by omega, show (a.length : Int) * (b.length : Int) = (b.length : Int) * (a.length : Int) from Int.mul_comm _ _,
    show sqR a + sqR b = sqR b + sqR a by grind, show (meanR a - meanR b) * (meanR a - meanR b) = (meanR b - meanR a) * (meanR b - meanR a) by grind]
  by_cases h : a.length = 0 ∨ b.length = 0 ∨ a.length + b.length < 3
  · rw [if_pos h, if_pos (by omega)]
  · rw [if_neg h, if_neg (show ¬ (b.length = 0 ∨ a.length = 0 ∨ b.length + a.length < 3) by omega)]
/-- Two variances. -/
def fisR (a b : List Rat) : Res :=
  if a.length < 2 ∨ b.length < 2 then (0, [], 5) else if varR a = 0 ∨ varR b = 0 then (0, [], 5) else (varR a / varR b, [(a.length : Int) - 1, (b.length : Int) - 1], 0)
theorem fisR_turn (a b : List Rat) : ((fisR a b).2.2 = 5 ∧ (fisR b a).2.2 = 5) ∨ ((fisR a b).2 = ([(a.length : Int) - 1, (b.length : Int) - 1], 0) ∧ (fisR b a).2 = ([(b.length : Int) - 1, (a.length : Int) - 1], 0) ∧ (fisR a b).1 * (fisR b a).1 = 1) := by
  unfold fisR
  by_cases h : a.length < 2 ∨ b.length < 2
  · rw [if_pos h, if_pos (show b.length < 2 ∨ a.length < 2 by omega)]; exact .inl ⟨rfl, rfl⟩
  · rw [if_neg h, if_neg (show ¬ (b.length < 2 ∨ a.length < 2) by omega)]
    by_cases hv : varR a = 0 ∨ varR b = 0
    · rw [if_pos hv, if_pos (Or.symm hv)]; exact .inl ⟨rfl, rfl⟩
    · rw [if_neg hv, if_neg (fun h => hv (Or.symm h))]
      refine .inr ⟨rfl, rfl, ?_⟩
      show varR a / varR b * (varR b / varR a) = 1
      have ha : varR a ≠ 0 := fun h => hv (.inl h)
      have hb : varR b ≠ 0 := fun h => hv (.inr h)
      have e1 := div_cancel' (x := varR a) hb
      have e2 := div_cancel' (x := varR b) ha
      generalize varR a / varR b = p at *
      generalize varR b / varR a = q at *
      generalize varR a = x at *
      generalize varR b = y at *
      have : (p * q - 1) * x = 0 := by grind
      rcases Rat.mul_eq_zero.1 this with h | h
      · grind
      · exact absurd h ha
end Go.Proofs.Ytdnmhnjblgkjaaa
