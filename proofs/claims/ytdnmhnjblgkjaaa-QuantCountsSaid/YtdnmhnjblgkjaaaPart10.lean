/- Part 10 of the proof: the evaluator, contracts of functions and their plain laws (joined by program). No condition. -/
import Derived.Test.YtdnmhnjblgkjaaaPart9
/- vernierref9.Choose, in the evaluator. -/
namespace Go.Proofs.Ytdnmhnjblgkjaaa
set_option linter.unusedSimpArgs false
set_option linter.unusedVariables false
set_option maxRecDepth 8000
open Go.Ev
/-- A number of limbs: a reading, or the row [1] that was written out. -/
def RowL (s : St) (t d v : Nat) : Prop := s.tmp t = .sv (natV (lim v)) ∨ (v = 1 ∧ s.tmp t = .ref d 0 1 0 1 ∧ s.obj d 0 = some [.int .u32 1])
theorem cc_len {m k : Nat} (h : m + k ≤ 1048576) : (lim (cc m k)).length ≤ k + 1 :=
  Nat.le_trans (lim_len_mono cc_le) (prodN_len fun i hi => by omega)
theorem cc_quot (m k : Nat) : cc m k * (m + (k + 1)) / (k + 1) = cc m (k + 1) := by
  rw [← cc_step, Nat.mul_div_cancel _ (by omega)]
theorem ref9_Choose (n k : Int) (hn : -9223372036854775808 ≤ n ∧ n < 9223372036854775808) (hk : -9223372036854775808 ≤ k ∧ k < 9223372036854775808) : Go.Ev.Fn CX 53 [.int .i64 n, .int .i64 k] (rv (chR n k : Rat)) := by
  have h0 := ref2_Int 0 (by omega)
  refine Go.Ev.Fn.intro (fn := Try.f53) (body := (Try.f53).body.get!) (by kernel_rfl) (by kernel_rfl) (by kernel_rfl) (fun _ => rfl) (Nat.le_of_ble_eq_true (by kernel_rfl)) ?_; unfold Try.f53; simp only [Option.get!_some]
  by_cases hc : 0 ≤ n ∧ n ≤ 512 ∧ 0 ≤ k ∧ k ≤ n
  · obtain ⟨c1, c2, c3, c4⟩ := hc
    obtain ⟨K, rfl⟩ : ∃ K : Nat, k = (K : Int) := ⟨k.toNat, by omega⟩
    obtain ⟨M, hM⟩ : ∃ M : Nat, n - K = (M : Int) := ⟨(n - K).toNat, by omega⟩
    have hn' : n = ((M + K : Nat) : Int) := by omega
    subst hn'
    have e : chR ((M + K : Nat) : Int) (K : Int) = cc M K := by
      unfold chR
      rw [if_pos ⟨by omega, by omega, by omega, by omega⟩, show (((M + K : Nat) : Int) - (K : Int)).toNat = M by omega, Int.toNat_natCast]
    rw [e]
    have lc := cc_len (m := M) (k := K) (by omega)
    have hOf := ref2_OfL (s := false) (n := cc M K) (d := 1) (by omega) (by have := lim_len1; omega)
    rw [show mkRat (sgn false (cc M K)) 1 = (cc M K : Rat) from Rat.mkRat_one _, lim_one] at hOf
    have e1 : ((M + K : Nat) : Int) - (K : Int) = (M : Int) := by omega
    (try (simp only [go_sem, Nat.reduceEqDiff, Nat.reduceAdd, Nat.reduceSub, Nat.reduceMul, Nat.reduceLeDiff, Nat.reduceLT, reduceIte, reduceCtorEq, Nat.succ_ne_zero, elemsC, Int.reduceToNat, Nat.reducePow])); repeat ((first | (simp (disch := (first | omega | (simp only [AL, List.length_map]; omega))) only [AR, AL, ifT, ifF, take_all, List.length_cons, List.length_nil, Int.reduceToNat, Int.reducePow, Nat.reducePow]) | (refine wk_intro (by kernel_rfl) ?_)); try (simp only [go_sem, Nat.reduceEqDiff, Nat.reduceAdd, Nat.reduceSub, Nat.reduceMul, Nat.reduceLeDiff, Nat.reduceLT, reduceIte, reduceCtorEq, Nat.succ_ne_zero, elemsC, Int.reduceToNat, Nat.reducePow]))
    refine vp_loop_inv (fun s => s.tmp 4 = .ptr 4 0 0 ∧ s.obj 4 0 = some [.bool false, .sl 0 [], .sl 0 []] ∧ s.tmp 0 = .sv (.int .i64 ((M + K : Nat) : Int)) ∧ s.tmp 1 = .sv (.int .i64 (K : Int)) ∧ ∃ i : Nat, s.tmp 6 = .sv (.int .i64 ((i + 1 : Nat) : Int)) ∧ RowL s 5 23 (cc M i) ∧ i ≤ K)
      (fun s => match s.tmp 6 with | .sv (.int _ n) => ((K : Int) + 1 - n).toNat | _ => 0) ⟨rfl, rfl, rfl, rfl, 0, rfl, .inr ⟨cc_zero _, rfl, rfl⟩, by omega⟩ ?_
    rintro s ⟨i4, iP, i0, i1, i, i6, hR, hi⟩
    by_cases hend : i = K
    · subst hend
      rcases hR with i5 | ⟨hv, i5, iO⟩
      · (try (simp only [go_sem, Nat.reduceEqDiff, Nat.reduceAdd, Nat.reduceSub, Nat.reduceMul, Nat.reduceLeDiff, Nat.reduceLT, reduceIte, reduceCtorEq, Nat.succ_ne_zero, elemsC, Int.reduceToNat, Nat.reducePow, i4, iP, i0, i1, i6, i5])); repeat ((first | (simp (disch := (first | omega | (simp only [AL, List.length_map]; omega))) only [AR, AL, ifT, ifF, take_all, List.length_cons, List.length_nil, Int.reduceToNat, Int.reducePow, Nat.reducePow, i4, iP, i0, i1, i6, i5]) | (refine wk_intro (by kernel_rfl) ?_)); try (simp only [go_sem, Nat.reduceEqDiff, Nat.reduceAdd, Nat.reduceSub, Nat.reduceMul, Nat.reduceLeDiff, Nat.reduceLT, reduceIte, reduceCtorEq, Nat.succ_ne_zero, elemsC, Int.reduceToNat, Nat.reducePow, i4, iP, i0, i1, i6, i5]))
        refine vf_of (hOf) ?_; (try (simp only [go_sem, Nat.reduceEqDiff, Nat.reduceAdd, Nat.reduceSub, Nat.reduceMul, Nat.reduceLeDiff, Nat.reduceLT, reduceIte, reduceCtorEq, Nat.succ_ne_zero, elemsC, Int.reduceToNat, Nat.reducePow, i4, iP, i0, i1, i6, i5])); repeat ((first | (simp (disch := (first | omega | (simp only [AL, List.length_map]; omega))) only [AR, AL, ifT, ifF, take_all, List.length_cons, List.length_nil, Int.reduceToNat, Int.reducePow, Nat.reducePow, i4, iP, i0, i1, i6, i5]) | (refine wk_intro (by kernel_rfl) ?_)); try (simp only [go_sem, Nat.reduceEqDiff, Nat.reduceAdd, Nat.reduceSub, Nat.reduceMul, Nat.reduceLeDiff, Nat.reduceLT, reduceIte, reduceCtorEq, Nat.succ_ne_zero, elemsC, Int.reduceToNat, Nat.reducePow, i4, iP, i0, i1, i6, i5]))
      · rw [hv, lim_one] at hOf
        rw [hv]
        (try (simp only [go_sem, Nat.reduceEqDiff, Nat.reduceAdd, Nat.reduceSub, Nat.reduceMul, Nat.reduceLeDiff, Nat.reduceLT, reduceIte, reduceCtorEq, Nat.succ_ne_zero, elemsC, Int.reduceToNat, Nat.reducePow, i4, iP, i0, i1, i6, i5, iO])); repeat ((first | (simp (disch := (first | omega | (simp only [AL, List.length_map]; omega))) only [AR, AL, ifT, ifF, take_all, List.length_cons, List.length_nil, Int.reduceToNat, Int.reducePow, Nat.reducePow, i4, iP, i0, i1, i6, i5, iO]) | (refine wk_intro (by kernel_rfl) ?_)); try (simp only [go_sem, Nat.reduceEqDiff, Nat.reduceAdd, Nat.reduceSub, Nat.reduceMul, Nat.reduceLeDiff, Nat.reduceLT, reduceIte, reduceCtorEq, Nat.succ_ne_zero, elemsC, Int.reduceToNat, Nat.reducePow, i4, iP, i0, i1, i6, i5, iO]))
        refine vf_of (hOf) ?_; (try (simp only [go_sem, Nat.reduceEqDiff, Nat.reduceAdd, Nat.reduceSub, Nat.reduceMul, Nat.reduceLeDiff, Nat.reduceLT, reduceIte, reduceCtorEq, Nat.succ_ne_zero, elemsC, Int.reduceToNat, Nat.reducePow, i4, iP, i0, i1, i6, i5])); repeat ((first | (simp (disch := (first | omega | (simp only [AL, List.length_map]; omega))) only [AR, AL, ifT, ifF, take_all, List.length_cons, List.length_nil, Int.reduceToNat, Int.reducePow, Nat.reducePow, i4, iP, i0, i1, i6, i5]) | (refine wk_intro (by kernel_rfl) ?_)); try (simp only [go_sem, Nat.reduceEqDiff, Nat.reduceAdd, Nat.reduceSub, Nat.reduceMul, Nat.reduceLeDiff, Nat.reduceLT, reduceIte, reduceCtorEq, Nat.succ_ne_zero, elemsC, Int.reduceToNat, Nat.reducePow, i4, iP, i0, i1, i6, i5]))
    · have l1 := cc_len (m := M) (k := i) (by omega)
      have oN := ref1_Of (M + (i + 1)) (by omega)
      have oI := ref1_Of (i + 1) (by omega)
      have l2 := lim_len_one (a := M + (i + 1)) (by omega)
      have l3 := lim_len_one (a := i + 1) (by omega)
      have hM2 := ref1_MulL (N := cc M i) (D := M + (i + 1)) (by omega) (by omega)
      have l4 := lim_len_mul (a := cc M i) (b := M + (i + 1))
      have hD := ref1_DivL (N := cc M i * (M + (i + 1))) (D := i + 1) (by omega) (by omega) (by omega)
      rw [cc_quot] at hD
      rcases hR with i5 | ⟨hv, i5, iO⟩
      · (try (simp only [go_sem, Nat.reduceEqDiff, Nat.reduceAdd, Nat.reduceSub, Nat.reduceMul, Nat.reduceLeDiff, Nat.reduceLT, reduceIte, reduceCtorEq, Nat.succ_ne_zero, elemsC, Int.reduceToNat, Nat.reducePow, i4, iP, i0, i1, i6, i5, e1])); repeat ((first | (simp (disch := (first | omega | (simp only [AL, List.length_map]; omega))) only [AR, AL, ifT, ifF, take_all, List.length_cons, List.length_nil, Int.reduceToNat, Int.reducePow, Nat.reducePow, i4, iP, i0, i1, i6, i5, e1]) | (refine wk_intro (by kernel_rfl) ?_)); try (simp only [go_sem, Nat.reduceEqDiff, Nat.reduceAdd, Nat.reduceSub, Nat.reduceMul, Nat.reduceLeDiff, Nat.reduceLT, reduceIte, reduceCtorEq, Nat.succ_ne_zero, elemsC, Int.reduceToNat, Nat.reducePow, i4, iP, i0, i1, i6, i5, e1]))
        refine vf_of (oN) ?_; (try (simp only [go_sem, Nat.reduceEqDiff, Nat.reduceAdd, Nat.reduceSub, Nat.reduceMul, Nat.reduceLeDiff, Nat.reduceLT, reduceIte, reduceCtorEq, Nat.succ_ne_zero, elemsC, Int.reduceToNat, Nat.reducePow, i4, iP, i0, i1, i6, i5, e1])); repeat ((first | (simp (disch := (first | omega | (simp only [AL, List.length_map]; omega))) only [AR, AL, ifT, ifF, take_all, List.length_cons, List.length_nil, Int.reduceToNat, Int.reducePow, Nat.reducePow, i4, iP, i0, i1, i6, i5, e1]) | (refine wk_intro (by kernel_rfl) ?_)); try (simp only [go_sem, Nat.reduceEqDiff, Nat.reduceAdd, Nat.reduceSub, Nat.reduceMul, Nat.reduceLeDiff, Nat.reduceLT, reduceIte, reduceCtorEq, Nat.succ_ne_zero, elemsC, Int.reduceToNat, Nat.reducePow, i4, iP, i0, i1, i6, i5, e1]))
        refine vf_of (hM2) ?_; (try (simp only [go_sem, Nat.reduceEqDiff, Nat.reduceAdd, Nat.reduceSub, Nat.reduceMul, Nat.reduceLeDiff, Nat.reduceLT, reduceIte, reduceCtorEq, Nat.succ_ne_zero, elemsC, Int.reduceToNat, Nat.reducePow, i4, iP, i0, i1, i6, i5, e1])); repeat ((first | (simp (disch := (first | omega | (simp only [AL, List.length_map]; omega))) only [AR, AL, ifT, ifF, take_all, List.length_cons, List.length_nil, Int.reduceToNat, Int.reducePow, Nat.reducePow, i4, iP, i0, i1, i6, i5, e1]) | (refine wk_intro (by kernel_rfl) ?_)); try (simp only [go_sem, Nat.reduceEqDiff, Nat.reduceAdd, Nat.reduceSub, Nat.reduceMul, Nat.reduceLeDiff, Nat.reduceLT, reduceIte, reduceCtorEq, Nat.succ_ne_zero, elemsC, Int.reduceToNat, Nat.reducePow, i4, iP, i0, i1, i6, i5, e1]))
        refine vf_of (oI) ?_; (try (simp only [go_sem, Nat.reduceEqDiff, Nat.reduceAdd, Nat.reduceSub, Nat.reduceMul, Nat.reduceLeDiff, Nat.reduceLT, reduceIte, reduceCtorEq, Nat.succ_ne_zero, elemsC, Int.reduceToNat, Nat.reducePow, i4, iP, i0, i1, i6, i5, e1])); repeat ((first | (simp (disch := (first | omega | (simp only [AL, List.length_map]; omega))) only [AR, AL, ifT, ifF, take_all, List.length_cons, List.length_nil, Int.reduceToNat, Int.reducePow, Nat.reducePow, i4, iP, i0, i1, i6, i5, e1]) | (refine wk_intro (by kernel_rfl) ?_)); try (simp only [go_sem, Nat.reduceEqDiff, Nat.reduceAdd, Nat.reduceSub, Nat.reduceMul, Nat.reduceLeDiff, Nat.reduceLT, reduceIte, reduceCtorEq, Nat.succ_ne_zero, elemsC, Int.reduceToNat, Nat.reducePow, i4, iP, i0, i1, i6, i5, e1]))
        refine vf_of (hD) ?_; (try (simp only [go_sem, Nat.reduceEqDiff, Nat.reduceAdd, Nat.reduceSub, Nat.reduceMul, Nat.reduceLeDiff, Nat.reduceLT, reduceIte, reduceCtorEq, Nat.succ_ne_zero, elemsC, Int.reduceToNat, Nat.reducePow, i4, iP, i0, i1, i6, i5, e1])); repeat ((first | (simp (disch := (first | omega | (simp only [AL, List.length_map]; omega))) only [AR, AL, ifT, ifF, take_all, List.length_cons, List.length_nil, Int.reduceToNat, Int.reducePow, Nat.reducePow, i4, iP, i0, i1, i6, i5, e1]) | (refine wk_intro (by kernel_rfl) ?_)); try (simp only [go_sem, Nat.reduceEqDiff, Nat.reduceAdd, Nat.reduceSub, Nat.reduceMul, Nat.reduceLeDiff, Nat.reduceLT, reduceIte, reduceCtorEq, Nat.succ_ne_zero, elemsC, Int.reduceToNat, Nat.reducePow, i4, iP, i0, i1, i6, i5, e1]))
        refine ⟨⟨i + 1, rfl, .inl rfl, by omega⟩, by omega⟩
      · rw [hv, lim_one] at hM2
        rw [hv] at hD
        (try (simp only [go_sem, Nat.reduceEqDiff, Nat.reduceAdd, Nat.reduceSub, Nat.reduceMul, Nat.reduceLeDiff, Nat.reduceLT, reduceIte, reduceCtorEq, Nat.succ_ne_zero, elemsC, Int.reduceToNat, Nat.reducePow, i4, iP, i0, i1, i6, i5, iO, e1])); repeat ((first | (simp (disch := (first | omega | (simp only [AL, List.length_map]; omega))) only [AR, AL, ifT, ifF, take_all, List.length_cons, List.length_nil, Int.reduceToNat, Int.reducePow, Nat.reducePow, i4, iP, i0, i1, i6, i5, iO, e1]) | (refine wk_intro (by kernel_rfl) ?_)); try (simp only [go_sem, Nat.reduceEqDiff, Nat.reduceAdd, Nat.reduceSub, Nat.reduceMul, Nat.reduceLeDiff, Nat.reduceLT, reduceIte, reduceCtorEq, Nat.succ_ne_zero, elemsC, Int.reduceToNat, Nat.reducePow, i4, iP, i0, i1, i6, i5, iO, e1]))
        refine vf_of (oN) ?_; (try (simp only [go_sem, Nat.reduceEqDiff, Nat.reduceAdd, Nat.reduceSub, Nat.reduceMul, Nat.reduceLeDiff, Nat.reduceLT, reduceIte, reduceCtorEq, Nat.succ_ne_zero, elemsC, Int.reduceToNat, Nat.reducePow, i4, iP, i0, i1, i6, i5, iO, e1, N0])); repeat ((first | (simp (disch := (first | omega | (simp only [AL, List.length_map]; omega))) only [AR, AL, ifT, ifF, take_all, List.length_cons, List.length_nil, Int.reduceToNat, Int.reducePow, Nat.reducePow, i4, iP, i0, i1, i6, i5, iO, e1, N0]) | (refine wk_intro (by kernel_rfl) ?_)); try (simp only [go_sem, Nat.reduceEqDiff, Nat.reduceAdd, Nat.reduceSub, Nat.reduceMul, Nat.reduceLeDiff, Nat.reduceLT, reduceIte, reduceCtorEq, Nat.succ_ne_zero, elemsC, Int.reduceToNat, Nat.reducePow, i4, iP, i0, i1, i6, i5, iO, e1, N0]))
        refine vf_of (hM2) ?_; (try (simp only [go_sem, Nat.reduceEqDiff, Nat.reduceAdd, Nat.reduceSub, Nat.reduceMul, Nat.reduceLeDiff, Nat.reduceLT, reduceIte, reduceCtorEq, Nat.succ_ne_zero, elemsC, Int.reduceToNat, Nat.reducePow, i4, iP, i0, i1, i6, i5, iO, e1])); repeat ((first | (simp (disch := (first | omega | (simp only [AL, List.length_map]; omega))) only [AR, AL, ifT, ifF, take_all, List.length_cons, List.length_nil, Int.reduceToNat, Int.reducePow, Nat.reducePow, i4, iP, i0, i1, i6, i5, iO, e1]) | (refine wk_intro (by kernel_rfl) ?_)); try (simp only [go_sem, Nat.reduceEqDiff, Nat.reduceAdd, Nat.reduceSub, Nat.reduceMul, Nat.reduceLeDiff, Nat.reduceLT, reduceIte, reduceCtorEq, Nat.succ_ne_zero, elemsC, Int.reduceToNat, Nat.reducePow, i4, iP, i0, i1, i6, i5, iO, e1]))
        refine vf_of (oI) ?_; (try (simp only [go_sem, Nat.reduceEqDiff, Nat.reduceAdd, Nat.reduceSub, Nat.reduceMul, Nat.reduceLeDiff, Nat.reduceLT, reduceIte, reduceCtorEq, Nat.succ_ne_zero, elemsC, Int.reduceToNat, Nat.reducePow, i4, iP, i0, i1, i6, i5, iO, e1])); repeat ((first | (simp (disch := (first | omega | (simp only [AL, List.length_map]; omega))) only [AR, AL, ifT, ifF, take_all, List.length_cons, List.length_nil, Int.reduceToNat, Int.reducePow, Nat.reducePow, i4, iP, i0, i1, i6, i5, iO, e1]) | (refine wk_intro (by kernel_rfl) ?_)); try (simp only [go_sem, Nat.reduceEqDiff, Nat.reduceAdd, Nat.reduceSub, Nat.reduceMul, Nat.reduceLeDiff, Nat.reduceLT, reduceIte, reduceCtorEq, Nat.succ_ne_zero, elemsC, Int.reduceToNat, Nat.reducePow, i4, iP, i0, i1, i6, i5, iO, e1]))
        refine vf_of (hD) ?_; (try (simp only [go_sem, Nat.reduceEqDiff, Nat.reduceAdd, Nat.reduceSub, Nat.reduceMul, Nat.reduceLeDiff, Nat.reduceLT, reduceIte, reduceCtorEq, Nat.succ_ne_zero, elemsC, Int.reduceToNat, Nat.reducePow, i4, iP, i0, i1, i6, i5, iO, e1])); repeat ((first | (simp (disch := (first | omega | (simp only [AL, List.length_map]; omega))) only [AR, AL, ifT, ifF, take_all, List.length_cons, List.length_nil, Int.reduceToNat, Int.reducePow, Nat.reducePow, i4, iP, i0, i1, i6, i5, iO, e1]) | (refine wk_intro (by kernel_rfl) ?_)); try (simp only [go_sem, Nat.reduceEqDiff, Nat.reduceAdd, Nat.reduceSub, Nat.reduceMul, Nat.reduceLeDiff, Nat.reduceLT, reduceIte, reduceCtorEq, Nat.succ_ne_zero, elemsC, Int.reduceToNat, Nat.reducePow, i4, iP, i0, i1, i6, i5, iO, e1]))
        refine ⟨⟨i + 1, rfl, .inl rfl, by omega⟩, by omega⟩
  · have e : chR n k = 0 := if_neg hc
    rw [e]
    by_cases c1 : n < 0
    · (try (simp only [go_sem, Nat.reduceEqDiff, Nat.reduceAdd, Nat.reduceSub, Nat.reduceMul, Nat.reduceLeDiff, Nat.reduceLT, reduceIte, reduceCtorEq, Nat.succ_ne_zero, elemsC, Int.reduceToNat, Nat.reducePow])); repeat ((first | (simp (disch := (first | omega | (simp only [AL, List.length_map]; omega))) only [AR, AL, ifT, ifF, take_all, List.length_cons, List.length_nil, Int.reduceToNat, Int.reducePow, Nat.reducePow]) | (refine wk_intro (by kernel_rfl) ?_)); try (simp only [go_sem, Nat.reduceEqDiff, Nat.reduceAdd, Nat.reduceSub, Nat.reduceMul, Nat.reduceLeDiff, Nat.reduceLT, reduceIte, reduceCtorEq, Nat.succ_ne_zero, elemsC, Int.reduceToNat, Nat.reducePow]))
      refine vf_of (h0) ?_; (try (simp only [go_sem, Nat.reduceEqDiff, Nat.reduceAdd, Nat.reduceSub, Nat.reduceMul, Nat.reduceLeDiff, Nat.reduceLT, reduceIte, reduceCtorEq, Nat.succ_ne_zero, elemsC, Int.reduceToNat, Nat.reducePow])); repeat ((first | (simp (disch := (first | omega | (simp only [AL, List.length_map]; omega))) only [AR, AL, ifT, ifF, take_all, List.length_cons, List.length_nil, Int.reduceToNat, Int.reducePow, Nat.reducePow]) | (refine wk_intro (by kernel_rfl) ?_)); try (simp only [go_sem, Nat.reduceEqDiff, Nat.reduceAdd, Nat.reduceSub, Nat.reduceMul, Nat.reduceLeDiff, Nat.reduceLT, reduceIte, reduceCtorEq, Nat.succ_ne_zero, elemsC, Int.reduceToNat, Nat.reducePow]))
      rfl
    · by_cases c2 : 512 < n
      · (try (simp only [go_sem, Nat.reduceEqDiff, Nat.reduceAdd, Nat.reduceSub, Nat.reduceMul, Nat.reduceLeDiff, Nat.reduceLT, reduceIte, reduceCtorEq, Nat.succ_ne_zero, elemsC, Int.reduceToNat, Nat.reducePow])); repeat ((first | (simp (disch := (first | omega | (simp only [AL, List.length_map]; omega))) only [AR, AL, ifT, ifF, take_all, List.length_cons, List.length_nil, Int.reduceToNat, Int.reducePow, Nat.reducePow]) | (refine wk_intro (by kernel_rfl) ?_)); try (simp only [go_sem, Nat.reduceEqDiff, Nat.reduceAdd, Nat.reduceSub, Nat.reduceMul, Nat.reduceLeDiff, Nat.reduceLT, reduceIte, reduceCtorEq, Nat.succ_ne_zero, elemsC, Int.reduceToNat, Nat.reducePow]))
        refine vf_of (h0) ?_; (try (simp only [go_sem, Nat.reduceEqDiff, Nat.reduceAdd, Nat.reduceSub, Nat.reduceMul, Nat.reduceLeDiff, Nat.reduceLT, reduceIte, reduceCtorEq, Nat.succ_ne_zero, elemsC, Int.reduceToNat, Nat.reducePow])); repeat ((first | (simp (disch := (first | omega | (simp only [AL, List.length_map]; omega))) only [AR, AL, ifT, ifF, take_all, List.length_cons, List.length_nil, Int.reduceToNat, Int.reducePow, Nat.reducePow]) | (refine wk_intro (by kernel_rfl) ?_)); try (simp only [go_sem, Nat.reduceEqDiff, Nat.reduceAdd, Nat.reduceSub, Nat.reduceMul, Nat.reduceLeDiff, Nat.reduceLT, reduceIte, reduceCtorEq, Nat.succ_ne_zero, elemsC, Int.reduceToNat, Nat.reducePow]))
        rfl
      · by_cases c3 : k < 0
        · (try (simp only [go_sem, Nat.reduceEqDiff, Nat.reduceAdd, Nat.reduceSub, Nat.reduceMul, Nat.reduceLeDiff, Nat.reduceLT, reduceIte, reduceCtorEq, Nat.succ_ne_zero, elemsC, Int.reduceToNat, Nat.reducePow])); repeat ((first | (simp (disch := (first | omega | (simp only [AL, List.length_map]; omega))) only [AR, AL, ifT, ifF, take_all, List.length_cons, List.length_nil, Int.reduceToNat, Int.reducePow, Nat.reducePow]) | (refine wk_intro (by kernel_rfl) ?_)); try (simp only [go_sem, Nat.reduceEqDiff, Nat.reduceAdd, Nat.reduceSub, Nat.reduceMul, Nat.reduceLeDiff, Nat.reduceLT, reduceIte, reduceCtorEq, Nat.succ_ne_zero, elemsC, Int.reduceToNat, Nat.reducePow]))
          refine vf_of (h0) ?_; (try (simp only [go_sem, Nat.reduceEqDiff, Nat.reduceAdd, Nat.reduceSub, Nat.reduceMul, Nat.reduceLeDiff, Nat.reduceLT, reduceIte, reduceCtorEq, Nat.succ_ne_zero, elemsC, Int.reduceToNat, Nat.reducePow])); repeat ((first | (simp (disch := (first | omega | (simp only [AL, List.length_map]; omega))) only [AR, AL, ifT, ifF, take_all, List.length_cons, List.length_nil, Int.reduceToNat, Int.reducePow, Nat.reducePow]) | (refine wk_intro (by kernel_rfl) ?_)); try (simp only [go_sem, Nat.reduceEqDiff, Nat.reduceAdd, Nat.reduceSub, Nat.reduceMul, Nat.reduceLeDiff, Nat.reduceLT, reduceIte, reduceCtorEq, Nat.succ_ne_zero, elemsC, Int.reduceToNat, Nat.reducePow]))
          rfl
        · have c4 : n < k := by omega
          (try (simp only [go_sem, Nat.reduceEqDiff, Nat.reduceAdd, Nat.reduceSub, Nat.reduceMul, Nat.reduceLeDiff, Nat.reduceLT, reduceIte, reduceCtorEq, Nat.succ_ne_zero, elemsC, Int.reduceToNat, Nat.reducePow])); repeat ((first | (simp (disch := (first | omega | (simp only [AL, List.length_map]; omega))) only [AR, AL, ifT, ifF, take_all, List.length_cons, List.length_nil, Int.reduceToNat, Int.reducePow, Nat.reducePow]) | (refine wk_intro (by kernel_rfl) ?_)); try (simp only [go_sem, Nat.reduceEqDiff, Nat.reduceAdd, Nat.reduceSub, Nat.reduceMul, Nat.reduceLeDiff, Nat.reduceLT, reduceIte, reduceCtorEq, Nat.succ_ne_zero, elemsC, Int.reduceToNat, Nat.reducePow]))
          refine vf_of (h0) ?_; (try (simp only [go_sem, Nat.reduceEqDiff, Nat.reduceAdd, Nat.reduceSub, Nat.reduceMul, Nat.reduceLeDiff, Nat.reduceLT, reduceIte, reduceCtorEq, Nat.succ_ne_zero, elemsC, Int.reduceToNat, Nat.reducePow])); repeat ((first | (simp (disch := (first | omega | (simp only [AL, List.length_map]; omega))) only [AR, AL, ifT, ifF, take_all, List.length_cons, List.length_nil, Int.reduceToNat, Int.reducePow, Nat.reducePow]) | (refine wk_intro (by kernel_rfl) ?_)); try (simp only [go_sem, Nat.reduceEqDiff, Nat.reduceAdd, Nat.reduceSub, Nat.reduceMul, Nat.reduceLeDiff, Nat.reduceLT, reduceIte, reduceCtorEq, Nat.succ_ne_zero, elemsC, Int.reduceToNat, Nat.reducePow]))
          rfl
end Go.Proofs.Ytdnmhnjblgkjaaa

/- vernierref13.bad, powers, parts, Least, BinomCdf; vernierref15.Least, in the evaluator. -/
namespace Go.Proofs.Ytdnmhnjblgkjaaa
set_option linter.unusedSimpArgs false
set_option linter.unusedVariables false
set_option maxRecDepth 8000
open Go.Ev
theorem ref13_bad {v : SV} {x : Rat} {L : Nat} {n : Int} (hv : RatA v x L) (hL : 1 ≤ L) (h : L ≤ 524288) : Go.Ev.Fn CX 31 [.int .i64 n, v] (.bool (!tryD n x)) := by
  have r0 := ref2_Int 0 (by omega)
  have r1 := ref2_Int 1 (by omega)
  have c0 := ref2_Cmp hv (RatA_rv (int_szR (n := 0) (by omega))) hL (by omega) (by omega)
  have c1 := ref2_Cmp hv (RatA_rv (int_szR (n := 1) (by omega))) hL (by omega) (by omega)
  have e0 : decide (cmpR x ((0 : Int) : Rat) < 0) = decide (x < ((0 : Int) : Rat)) := cmpR_lt
  have e1 : decide (cmpR x ((1 : Int) : Rat) > 0) = decide (((1 : Int) : Rat) < x) := cmpR_gt
  have d0 : decide (0 ≤ x) = !decide (x < ((0 : Int) : Rat)) := not_lt_dec.symm
  have d1 : decide (x ≤ 1) = !decide (((1 : Int) : Rat) < x) := not_lt_dec.symm
  unfold tryD
  rw [d0, d1]
  obtain ⟨s, y, d, rfl, -⟩ := hv
  generalize decide (x < ((0 : Int) : Rat)) = b at *
  generalize decide (((1 : Int) : Rat) < x) = c at *
  clear d0 d1
  by_cases h1 : 0 ≤ n
  · rw [decide_eq_true h1, Bool.true_and]
    by_cases h2 : n ≤ 256
    · rw [decide_eq_true h2, Bool.true_and]
      cases b
      · cases c
        all_goals
          refine Go.Ev.Fn.intro (fn := Try.f31) (body := (Try.f31).body.get!) (by kernel_rfl) (by kernel_rfl) (by kernel_rfl) (fun _ => rfl) (Nat.le_of_ble_eq_true (by kernel_rfl)) ?_; unfold Try.f31; simp only [Option.get!_some]
          (try (simp only [go_sem, Nat.reduceEqDiff, Nat.reduceAdd, Nat.reduceSub, Nat.reduceMul, Nat.reduceLeDiff, Nat.reduceLT, reduceIte, reduceCtorEq, Nat.succ_ne_zero, elemsC, Int.reduceToNat, Nat.reducePow])); repeat ((first | (simp (disch := (first | omega | (simp only [AL, List.length_map]; omega))) only [AR, AL, ifT, ifF, take_all, List.length_cons, List.length_nil, Int.reduceToNat, Int.reducePow, Nat.reducePow]) | (refine wk_intro (by kernel_rfl) ?_) | (refine vp_draw (id := 1) (l := []) (by kernel_rfl) ?_)); try (simp only [go_sem, Nat.reduceEqDiff, Nat.reduceAdd, Nat.reduceSub, Nat.reduceMul, Nat.reduceLeDiff, Nat.reduceLT, reduceIte, reduceCtorEq, Nat.succ_ne_zero, elemsC, Int.reduceToNat, Nat.reducePow]))
          refine vf_of (r0) ?_; (try (simp only [go_sem, Nat.reduceEqDiff, Nat.reduceAdd, Nat.reduceSub, Nat.reduceMul, Nat.reduceLeDiff, Nat.reduceLT, reduceIte, reduceCtorEq, Nat.succ_ne_zero, elemsC, Int.reduceToNat, Nat.reducePow])); repeat ((first | (simp (disch := (first | omega | (simp only [AL, List.length_map]; omega))) only [AR, AL, ifT, ifF, take_all, List.length_cons, List.length_nil, Int.reduceToNat, Int.reducePow, Nat.reducePow]) | (refine wk_intro (by kernel_rfl) ?_) | (refine vp_draw (id := 1) (l := []) (by kernel_rfl) ?_)); try (simp only [go_sem, Nat.reduceEqDiff, Nat.reduceAdd, Nat.reduceSub, Nat.reduceMul, Nat.reduceLeDiff, Nat.reduceLT, reduceIte, reduceCtorEq, Nat.succ_ne_zero, elemsC, Int.reduceToNat, Nat.reducePow]))
          refine vf_of (c0) ?_; (try (simp only [go_sem, Nat.reduceEqDiff, Nat.reduceAdd, Nat.reduceSub, Nat.reduceMul, Nat.reduceLeDiff, Nat.reduceLT, reduceIte, reduceCtorEq, Nat.succ_ne_zero, elemsC, Int.reduceToNat, Nat.reducePow, e0])); repeat ((first | (simp (disch := (first | omega | (simp only [AL, List.length_map]; omega))) only [AR, AL, ifT, ifF, take_all, List.length_cons, List.length_nil, Int.reduceToNat, Int.reducePow, Nat.reducePow, e0]) | (refine wk_intro (by kernel_rfl) ?_) | (refine vp_draw (id := 1) (l := []) (by kernel_rfl) ?_)); try (simp only [go_sem, Nat.reduceEqDiff, Nat.reduceAdd, Nat.reduceSub, Nat.reduceMul, Nat.reduceLeDiff, Nat.reduceLT, reduceIte, reduceCtorEq, Nat.succ_ne_zero, elemsC, Int.reduceToNat, Nat.reducePow, e0]))
          refine vf_of (r1) ?_; (try (simp only [go_sem, Nat.reduceEqDiff, Nat.reduceAdd, Nat.reduceSub, Nat.reduceMul, Nat.reduceLeDiff, Nat.reduceLT, reduceIte, reduceCtorEq, Nat.succ_ne_zero, elemsC, Int.reduceToNat, Nat.reducePow])); repeat ((first | (simp (disch := (first | omega | (simp only [AL, List.length_map]; omega))) only [AR, AL, ifT, ifF, take_all, List.length_cons, List.length_nil, Int.reduceToNat, Int.reducePow, Nat.reducePow]) | (refine wk_intro (by kernel_rfl) ?_) | (refine vp_draw (id := 1) (l := []) (by kernel_rfl) ?_)); try (simp only [go_sem, Nat.reduceEqDiff, Nat.reduceAdd, Nat.reduceSub, Nat.reduceMul, Nat.reduceLeDiff, Nat.reduceLT, reduceIte, reduceCtorEq, Nat.succ_ne_zero, elemsC, Int.reduceToNat, Nat.reducePow]))
          refine vf_of (c1) ?_; (try (simp only [go_sem, Nat.reduceEqDiff, Nat.reduceAdd, Nat.reduceSub, Nat.reduceMul, Nat.reduceLeDiff, Nat.reduceLT, reduceIte, reduceCtorEq, Nat.succ_ne_zero, elemsC, Int.reduceToNat, Nat.reducePow, e1])); repeat ((first | (simp (disch := (first | omega | (simp only [AL, List.length_map]; omega))) only [AR, AL, ifT, ifF, take_all, List.length_cons, List.length_nil, Int.reduceToNat, Int.reducePow, Nat.reducePow, e1]) | (refine wk_intro (by kernel_rfl) ?_) | (refine vp_draw (id := 1) (l := []) (by kernel_rfl) ?_)); try (simp only [go_sem, Nat.reduceEqDiff, Nat.reduceAdd, Nat.reduceSub, Nat.reduceMul, Nat.reduceLeDiff, Nat.reduceLT, reduceIte, reduceCtorEq, Nat.succ_ne_zero, elemsC, Int.reduceToNat, Nat.reducePow, e1]))
          rfl
      · rw [show (!(!true && !c)) = true from rfl]
        refine Go.Ev.Fn.intro (fn := Try.f31) (body := (Try.f31).body.get!) (by kernel_rfl) (by kernel_rfl) (by kernel_rfl) (fun _ => rfl) (Nat.le_of_ble_eq_true (by kernel_rfl)) ?_; unfold Try.f31; simp only [Option.get!_some]
        (try (simp only [go_sem, Nat.reduceEqDiff, Nat.reduceAdd, Nat.reduceSub, Nat.reduceMul, Nat.reduceLeDiff, Nat.reduceLT, reduceIte, reduceCtorEq, Nat.succ_ne_zero, elemsC, Int.reduceToNat, Nat.reducePow])); repeat ((first | (simp (disch := (first | omega | (simp only [AL, List.length_map]; omega))) only [AR, AL, ifT, ifF, take_all, List.length_cons, List.length_nil, Int.reduceToNat, Int.reducePow, Nat.reducePow]) | (refine wk_intro (by kernel_rfl) ?_) | (refine vp_draw (id := 1) (l := []) (by kernel_rfl) ?_)); try (simp only [go_sem, Nat.reduceEqDiff, Nat.reduceAdd, Nat.reduceSub, Nat.reduceMul, Nat.reduceLeDiff, Nat.reduceLT, reduceIte, reduceCtorEq, Nat.succ_ne_zero, elemsC, Int.reduceToNat, Nat.reducePow]))
        refine vf_of (r0) ?_; (try (simp only [go_sem, Nat.reduceEqDiff, Nat.reduceAdd, Nat.reduceSub, Nat.reduceMul, Nat.reduceLeDiff, Nat.reduceLT, reduceIte, reduceCtorEq, Nat.succ_ne_zero, elemsC, Int.reduceToNat, Nat.reducePow])); repeat ((first | (simp (disch := (first | omega | (simp only [AL, List.length_map]; omega))) only [AR, AL, ifT, ifF, take_all, List.length_cons, List.length_nil, Int.reduceToNat, Int.reducePow, Nat.reducePow]) | (refine wk_intro (by kernel_rfl) ?_) | (refine vp_draw (id := 1) (l := []) (by kernel_rfl) ?_)); try (simp only [go_sem, Nat.reduceEqDiff, Nat.reduceAdd, Nat.reduceSub, Nat.reduceMul, Nat.reduceLeDiff, Nat.reduceLT, reduceIte, reduceCtorEq, Nat.succ_ne_zero, elemsC, Int.reduceToNat, Nat.reducePow]))
        refine vf_of (c0) ?_; (try (simp only [go_sem, Nat.reduceEqDiff, Nat.reduceAdd, Nat.reduceSub, Nat.reduceMul, Nat.reduceLeDiff, Nat.reduceLT, reduceIte, reduceCtorEq, Nat.succ_ne_zero, elemsC, Int.reduceToNat, Nat.reducePow, e0])); repeat ((first | (simp (disch := (first | omega | (simp only [AL, List.length_map]; omega))) only [AR, AL, ifT, ifF, take_all, List.length_cons, List.length_nil, Int.reduceToNat, Int.reducePow, Nat.reducePow, e0]) | (refine wk_intro (by kernel_rfl) ?_) | (refine vp_draw (id := 1) (l := []) (by kernel_rfl) ?_)); try (simp only [go_sem, Nat.reduceEqDiff, Nat.reduceAdd, Nat.reduceSub, Nat.reduceMul, Nat.reduceLeDiff, Nat.reduceLT, reduceIte, reduceCtorEq, Nat.succ_ne_zero, elemsC, Int.reduceToNat, Nat.reducePow, e0]))
    · rw [decide_eq_false h2, Bool.false_and]
      refine Go.Ev.Fn.intro (fn := Try.f31) (body := (Try.f31).body.get!) (by kernel_rfl) (by kernel_rfl) (by kernel_rfl) (fun _ => rfl) (Nat.le_of_ble_eq_true (by kernel_rfl)) ?_; unfold Try.f31; simp only [Option.get!_some]
      (try (simp only [go_sem, Nat.reduceEqDiff, Nat.reduceAdd, Nat.reduceSub, Nat.reduceMul, Nat.reduceLeDiff, Nat.reduceLT, reduceIte, reduceCtorEq, Nat.succ_ne_zero, elemsC, Int.reduceToNat, Nat.reducePow])); repeat ((first | (simp (disch := (first | omega | (simp only [AL, List.length_map]; omega))) only [AR, AL, ifT, ifF, take_all, List.length_cons, List.length_nil, Int.reduceToNat, Int.reducePow, Nat.reducePow]) | (refine wk_intro (by kernel_rfl) ?_) | (refine vp_draw (id := 1) (l := []) (by kernel_rfl) ?_)); try (simp only [go_sem, Nat.reduceEqDiff, Nat.reduceAdd, Nat.reduceSub, Nat.reduceMul, Nat.reduceLeDiff, Nat.reduceLT, reduceIte, reduceCtorEq, Nat.succ_ne_zero, elemsC, Int.reduceToNat, Nat.reducePow]))
      rfl
  · rw [decide_eq_false h1, Bool.false_and]
    refine Go.Ev.Fn.intro (fn := Try.f31) (body := (Try.f31).body.get!) (by kernel_rfl) (by kernel_rfl) (by kernel_rfl) (fun _ => rfl) (Nat.le_of_ble_eq_true (by kernel_rfl)) ?_; unfold Try.f31; simp only [Option.get!_some]
    (try (simp only [go_sem, Nat.reduceEqDiff, Nat.reduceAdd, Nat.reduceSub, Nat.reduceMul, Nat.reduceLeDiff, Nat.reduceLT, reduceIte, reduceCtorEq, Nat.succ_ne_zero, elemsC, Int.reduceToNat, Nat.reducePow])); repeat ((first | (simp (disch := (first | omega | (simp only [AL, List.length_map]; omega))) only [AR, AL, ifT, ifF, take_all, List.length_cons, List.length_nil, Int.reduceToNat, Int.reducePow, Nat.reducePow]) | (refine wk_intro (by kernel_rfl) ?_) | (refine vp_draw (id := 1) (l := []) (by kernel_rfl) ?_)); try (simp only [go_sem, Nat.reduceEqDiff, Nat.reduceAdd, Nat.reduceSub, Nat.reduceMul, Nat.reduceLeDiff, Nat.reduceLT, reduceIte, reduceCtorEq, Nat.succ_ne_zero, elemsC, Int.reduceToNat, Nat.reducePow]))
    rfl
theorem rows_first (g : Nat → Nat) (h : g 0 = 1) : [natV [1]] = rowsC g 1 := by
  show [natV [1]] = [natV (lim (g 0))]
  rw [h, lim_one]
theorem ref13_powers {X n : Nat} (hn : n ≤ 256) (hX : (lim X).length ≤ 100) : Go.Ev.Fn CX 52 [natV (lim X), .int .i64 (n : Int)] (.sl (n + 1) (rowsC (fun j => X ^ j) (n + 1))) := by
  have h1 := rows_first (fun j => X ^ j) (Nat.pow_zero X)
  have lp : ∀ i, i ≤ n → (lim (X ^ i)).length ≤ 25601 := by
    intro i hi
    have h1 := pow_lim_len X i
    have h2 : (lim X).length * i ≤ 100 * 256 := Nat.mul_le_mul (by omega) (by omega)
    omega
  refine Go.Ev.Fn.intro (fn := Try.f52) (body := (Try.f52).body.get!) (by kernel_rfl) (by kernel_rfl) (by kernel_rfl) (fun _ => rfl) (Nat.le_of_ble_eq_true (by kernel_rfl)) ?_; unfold Try.f52; simp only [Option.get!_some]
  (try (simp only [go_sem, Nat.reduceEqDiff, Nat.reduceAdd, Nat.reduceSub, Nat.reduceMul, Nat.reduceLeDiff, Nat.reduceLT, reduceIte, reduceCtorEq, Nat.succ_ne_zero, elemsC, Int.reduceToNat, Nat.reducePow])); repeat ((first | (simp (disch := (first | omega | (simp only [AL, List.length_map]; omega))) only [AR, AL, ifT, ifF, take_all, List.length_cons, List.length_nil, Int.reduceToNat, Int.reducePow, Nat.reducePow]) | (refine wk_intro (by kernel_rfl) ?_)); try (simp only [go_sem, Nat.reduceEqDiff, Nat.reduceAdd, Nat.reduceSub, Nat.reduceMul, Nat.reduceLeDiff, Nat.reduceLT, reduceIte, reduceCtorEq, Nat.succ_ne_zero, elemsC, Int.reduceToNat, Nat.reducePow]))
  refine vp_loop_inv (fun s => s.tmp 0 = .sv (natV (lim X)) ∧ s.tmp 1 = .sv (.int .i64 (n : Int)) ∧
      ∃ i : Nat, i ≤ n ∧ s.tmp 6 = .sv (.int .i64 (i : Int)) ∧ s.tmp 5 = .ref 8 0 1 0 (i + 1) ∧ s.obj 8 0 = some (rowsC (fun j => X ^ j) (i + 1)))
    (fun s => match s.tmp 6 with | .sv (.int _ i) => n - i.toNat | _ => 0) ⟨rfl, rfl, 0, by omega, rfl, rfl, by first | exact congrArg some h1 | skip⟩ ?_
  rintro s ⟨i0, i1, i, hi, i6, i5, iO⟩
  have hlen := rows_len (fun j => X ^ j) (i + 1)
  by_cases hend : i = n
  · subst hend
    (try (simp only [go_sem, Nat.reduceEqDiff, Nat.reduceAdd, Nat.reduceSub, Nat.reduceMul, Nat.reduceLeDiff, Nat.reduceLT, reduceIte, reduceCtorEq, Nat.succ_ne_zero, elemsC, Int.reduceToNat, Nat.reducePow, i0, i1, i6, i5, iO])); repeat ((first | (simp (disch := (first | omega | (simp only [AL, List.length_map]; omega))) only [AR, AL, ifT, ifF, take_all, List.length_cons, List.length_nil, Int.reduceToNat, Int.reducePow, Nat.reducePow, i0, i1, i6, i5, iO]) | (refine wk_intro (by kernel_rfl) ?_)); try (simp only [go_sem, Nat.reduceEqDiff, Nat.reduceAdd, Nat.reduceSub, Nat.reduceMul, Nat.reduceLeDiff, Nat.reduceLT, reduceIte, reduceCtorEq, Nat.succ_ne_zero, elemsC, Int.reduceToNat, Nat.reducePow, i0, i1, i6, i5, iO]))
    refine ro_ref (cs := rowsC (fun j => X ^ j) (i + 1)) (by decide) ?_ ?_
    · simp only [go_sem, Nat.reduceEqDiff, Nat.reduceAdd, Nat.reduceSub, Nat.reduceMul, Nat.reduceLeDiff, Nat.reduceLT, reduceIte, reduceCtorEq, Nat.succ_ne_zero, elemsC, Int.reduceToNat, Nat.reducePow, i5, iO]
    · rw [List.drop_zero, Nat.mul_one, List.take_of_length_le (Nat.le_of_eq (rows_len _ _))]
  · have hat := rows_at (fun j => X ^ j) (i := i + 1) (j := i) (by omega)
    have hsn := rows_snoc (fun j => X ^ j) (i + 1)
    have hl1 := lp i (by omega)
    have hM := ref1_MulL (N := X ^ i) (D := X) (by omega) (by omega)
    rw [← Nat.pow_succ] at hM
    (try (simp only [go_sem, Nat.reduceEqDiff, Nat.reduceAdd, Nat.reduceSub, Nat.reduceMul, Nat.reduceLeDiff, Nat.reduceLT, reduceIte, reduceCtorEq, Nat.succ_ne_zero, elemsC, Int.reduceToNat, Nat.reducePow, i0, i1, i6, i5, iO, N0, hat])); repeat ((first | (simp (disch := (first | omega | (simp only [AL, List.length_map]; omega))) only [AR, AL, ifT, ifF, take_all, List.length_cons, List.length_nil, Int.reduceToNat, Int.reducePow, Nat.reducePow, i0, i1, i6, i5, iO, N0, hat]) | (refine wk_intro (by kernel_rfl) ?_)); try (simp only [go_sem, Nat.reduceEqDiff, Nat.reduceAdd, Nat.reduceSub, Nat.reduceMul, Nat.reduceLeDiff, Nat.reduceLT, reduceIte, reduceCtorEq, Nat.succ_ne_zero, elemsC, Int.reduceToNat, Nat.reducePow, i0, i1, i6, i5, iO, N0, hat]))
    refine vf_of (hM) ?_; (try (simp only [go_sem, Nat.reduceEqDiff, Nat.reduceAdd, Nat.reduceSub, Nat.reduceMul, Nat.reduceLeDiff, Nat.reduceLT, reduceIte, reduceCtorEq, Nat.succ_ne_zero, elemsC, Int.reduceToNat, Nat.reducePow, i0, i1, i6, i5, iO, N0, hat, hsn, hlen])); repeat ((first | (simp (disch := (first | omega | (simp only [AL, List.length_map]; omega))) only [AR, AL, ifT, ifF, take_all, List.length_cons, List.length_nil, Int.reduceToNat, Int.reducePow, Nat.reducePow, i0, i1, i6, i5, iO, N0, hat, hsn, hlen]) | (refine wk_intro (by kernel_rfl) ?_)); try (simp only [go_sem, Nat.reduceEqDiff, Nat.reduceAdd, Nat.reduceSub, Nat.reduceMul, Nat.reduceLeDiff, Nat.reduceLT, reduceIte, reduceCtorEq, Nat.succ_ne_zero, elemsC, Int.reduceToNat, Nat.reducePow, i0, i1, i6, i5, iO, N0, hat, hsn, hlen]))
    exact ⟨⟨i + 1, by omega, rfl, rfl, rfl⟩, by omega⟩
end Go.Proofs.Ytdnmhnjblgkjaaa

/- vernierref13.parts, Least, BinomCdf, in the evaluator. -/
namespace Go.Proofs.Ytdnmhnjblgkjaaa
set_option linter.unusedSimpArgs false
set_option linter.unusedVariables false
set_option maxRecDepth 8000
open Go.Ev
theorem rv_nat (c : Nat) : rv ((c : Nat) : Rat) = ratV false (lim c) (lim 1) := by
  show ratV (decide (((c : Nat) : Rat).num < 0)) (lim ((c : Nat) : Rat).num.natAbs) (lim ((c : Nat) : Rat).den) = _
  rw [Rat.num_natCast, Rat.den_natCast, Int.natAbs_natCast, decide_eq_false (by omega)]
theorem chR_in {n j : Nat} (h : j ≤ n) (hn : n ≤ 512) : chR (n : Int) (j : Int) = cc (n - j) j := by
  unfold chR
  rw [if_pos ⟨by omega, by omega, by omega, by omega⟩, show ((n : Int) - (j : Int)).toNat = n - j by omega, Int.toNat_natCast]
theorem ref13_parts {v : SV} {x : Rat} {L : Nat} {n : Nat} (hv : RatA v x L) (hL : 1 ≤ L) (hL2 : L ≤ 100) (hn : n ≤ 256) :
    Go.Ev.Fn CX 32 [.int .i64 (n : Int), v] (.tup [.sl (n + 1) (rowsC (termN x.num.natAbs (x.den - x.num.natAbs) n) (n + 1)), natV (lim (x.den ^ n))]) := by
  have hN := ref2_Norm hv (by omega)
  obtain ⟨z1, z2⟩ := szR_of hv hL
  obtain ⟨s, y, d, rfl, -⟩ := hv
  generalize hp : x.num.natAbs = p at *
  generalize hd : x.den = D at *
  have hS := ref1_SubL (N := D) (D := p) (by omega) (by omega)
  have hf := lim_len_mono (Nat.sub_le D p)
  generalize hff : D - p = f at *
  have p1 := ref13_powers (X := p) (n := n) hn (by omega)
  have p2 := ref13_powers (X := f) (n := n) hn (by omega)
  have p3 := ref13_powers (X := D) (n := n) hn (by omega)
  have tlast := rows_at (fun j => D ^ j) (i := n + 1) (j := n) (by omega)
  have l1 := rows_len (fun j => p ^ j) (n + 1)
  have l2 := rows_len (fun j => f ^ j) (n + 1)
  have l3 := rows_len (fun j => D ^ j) (n + 1)
  have pl : ∀ (X : Nat) (i : Nat), (lim X).length ≤ 100 → i ≤ n → (lim (X ^ i)).length ≤ 25601 := by
    intro X i hX hi
    have h1 := pow_lim_len X i
    have h2 : (lim X).length * i ≤ 100 * 256 := Nat.mul_le_mul hX (by omega)
    omega
  refine Go.Ev.Fn.intro (fn := Try.f32) (body := (Try.f32).body.get!) (by kernel_rfl) (by kernel_rfl) (by kernel_rfl) (fun _ => rfl) (Nat.le_of_ble_eq_true (by kernel_rfl)) ?_; unfold Try.f32; simp only [Option.get!_some]
  (try (simp only [go_sem, Nat.reduceEqDiff, Nat.reduceAdd, Nat.reduceSub, Nat.reduceMul, Nat.reduceLeDiff, Nat.reduceLT, reduceIte, reduceCtorEq, Nat.succ_ne_zero, elemsC, Int.reduceToNat, Nat.reducePow])); repeat ((first | (simp (disch := (first | omega | (simp only [AL, List.length_map]; omega))) only [AR, AL, ifT, ifF, take_all, List.length_cons, List.length_nil, Int.reduceToNat, Int.reducePow, Nat.reducePow]) | (refine wk_intro (by kernel_rfl) ?_) | (refine vp_draw (id := 3) (l := [25, 7, 32]) (by kernel_rfl) ?_) | (refine vp_draw (id := 8) (l := [48, 54, 44, 55]) (by kernel_rfl) ?_) | (refine vp_draw (id := 9) (l := []) (by kernel_rfl) ?_)); try (simp only [go_sem, Nat.reduceEqDiff, Nat.reduceAdd, Nat.reduceSub, Nat.reduceMul, Nat.reduceLeDiff, Nat.reduceLT, reduceIte, reduceCtorEq, Nat.succ_ne_zero, elemsC, Int.reduceToNat, Nat.reducePow]))
  refine vf_of (hN) ?_; (try (simp only [go_sem, Nat.reduceEqDiff, Nat.reduceAdd, Nat.reduceSub, Nat.reduceMul, Nat.reduceLeDiff, Nat.reduceLT, reduceIte, reduceCtorEq, Nat.succ_ne_zero, elemsC, Int.reduceToNat, Nat.reducePow, hp, hd])); repeat ((first | (simp (disch := (first | omega | (simp only [AL, List.length_map]; omega))) only [AR, AL, ifT, ifF, take_all, List.length_cons, List.length_nil, Int.reduceToNat, Int.reducePow, Nat.reducePow, hp, hd]) | (refine wk_intro (by kernel_rfl) ?_) | (refine vp_draw (id := 3) (l := [25, 7, 32]) (by kernel_rfl) ?_) | (refine vp_draw (id := 8) (l := [48, 54, 44, 55]) (by kernel_rfl) ?_) | (refine vp_draw (id := 9) (l := []) (by kernel_rfl) ?_)); try (simp only [go_sem, Nat.reduceEqDiff, Nat.reduceAdd, Nat.reduceSub, Nat.reduceMul, Nat.reduceLeDiff, Nat.reduceLT, reduceIte, reduceCtorEq, Nat.succ_ne_zero, elemsC, Int.reduceToNat, Nat.reducePow, hp, hd]))
  refine vf_of (hS) ?_; (try (simp only [go_sem, Nat.reduceEqDiff, Nat.reduceAdd, Nat.reduceSub, Nat.reduceMul, Nat.reduceLeDiff, Nat.reduceLT, reduceIte, reduceCtorEq, Nat.succ_ne_zero, elemsC, Int.reduceToNat, Nat.reducePow])); repeat ((first | (simp (disch := (first | omega | (simp only [AL, List.length_map]; omega))) only [AR, AL, ifT, ifF, take_all, List.length_cons, List.length_nil, Int.reduceToNat, Int.reducePow, Nat.reducePow]) | (refine wk_intro (by kernel_rfl) ?_) | (refine vp_draw (id := 3) (l := [25, 7, 32]) (by kernel_rfl) ?_) | (refine vp_draw (id := 8) (l := [48, 54, 44, 55]) (by kernel_rfl) ?_) | (refine vp_draw (id := 9) (l := []) (by kernel_rfl) ?_)); try (simp only [go_sem, Nat.reduceEqDiff, Nat.reduceAdd, Nat.reduceSub, Nat.reduceMul, Nat.reduceLeDiff, Nat.reduceLT, reduceIte, reduceCtorEq, Nat.succ_ne_zero, elemsC, Int.reduceToNat, Nat.reducePow]))
  refine vf_of (p1) ?_; (try (simp only [go_sem, Nat.reduceEqDiff, Nat.reduceAdd, Nat.reduceSub, Nat.reduceMul, Nat.reduceLeDiff, Nat.reduceLT, reduceIte, reduceCtorEq, Nat.succ_ne_zero, elemsC, Int.reduceToNat, Nat.reducePow])); repeat ((first | (simp (disch := (first | omega | (simp only [AL, List.length_map]; omega))) only [AR, AL, ifT, ifF, take_all, List.length_cons, List.length_nil, Int.reduceToNat, Int.reducePow, Nat.reducePow]) | (refine wk_intro (by kernel_rfl) ?_) | (refine vp_draw (id := 3) (l := [25, 7, 32]) (by kernel_rfl) ?_) | (refine vp_draw (id := 8) (l := [48, 54, 44, 55]) (by kernel_rfl) ?_) | (refine vp_draw (id := 9) (l := []) (by kernel_rfl) ?_)); try (simp only [go_sem, Nat.reduceEqDiff, Nat.reduceAdd, Nat.reduceSub, Nat.reduceMul, Nat.reduceLeDiff, Nat.reduceLT, reduceIte, reduceCtorEq, Nat.succ_ne_zero, elemsC, Int.reduceToNat, Nat.reducePow]))
  refine vf_of (p2) ?_; (try (simp only [go_sem, Nat.reduceEqDiff, Nat.reduceAdd, Nat.reduceSub, Nat.reduceMul, Nat.reduceLeDiff, Nat.reduceLT, reduceIte, reduceCtorEq, Nat.succ_ne_zero, elemsC, Int.reduceToNat, Nat.reducePow])); repeat ((first | (simp (disch := (first | omega | (simp only [AL, List.length_map]; omega))) only [AR, AL, ifT, ifF, take_all, List.length_cons, List.length_nil, Int.reduceToNat, Int.reducePow, Nat.reducePow]) | (refine wk_intro (by kernel_rfl) ?_) | (refine vp_draw (id := 3) (l := [25, 7, 32]) (by kernel_rfl) ?_) | (refine vp_draw (id := 8) (l := [48, 54, 44, 55]) (by kernel_rfl) ?_) | (refine vp_draw (id := 9) (l := []) (by kernel_rfl) ?_)); try (simp only [go_sem, Nat.reduceEqDiff, Nat.reduceAdd, Nat.reduceSub, Nat.reduceMul, Nat.reduceLeDiff, Nat.reduceLT, reduceIte, reduceCtorEq, Nat.succ_ne_zero, elemsC, Int.reduceToNat, Nat.reducePow]))
  refine vf_of (p3) ?_; (try (simp only [go_sem, Nat.reduceEqDiff, Nat.reduceAdd, Nat.reduceSub, Nat.reduceMul, Nat.reduceLeDiff, Nat.reduceLT, reduceIte, reduceCtorEq, Nat.succ_ne_zero, elemsC, Int.reduceToNat, Nat.reducePow])); repeat ((first | (simp (disch := (first | omega | (simp only [AL, List.length_map]; omega))) only [AR, AL, ifT, ifF, take_all, List.length_cons, List.length_nil, Int.reduceToNat, Int.reducePow, Nat.reducePow]) | (refine wk_intro (by kernel_rfl) ?_) | (refine vp_draw (id := 3) (l := [25, 7, 32]) (by kernel_rfl) ?_) | (refine vp_draw (id := 8) (l := [48, 54, 44, 55]) (by kernel_rfl) ?_) | (refine vp_draw (id := 9) (l := []) (by kernel_rfl) ?_)); try (simp only [go_sem, Nat.reduceEqDiff, Nat.reduceAdd, Nat.reduceSub, Nat.reduceMul, Nat.reduceLeDiff, Nat.reduceLT, reduceIte, reduceCtorEq, Nat.succ_ne_zero, elemsC, Int.reduceToNat, Nat.reducePow]))
  refine vp_loop_inv (fun s => s.tmp 0 = .sv (.int .i64 (n : Int)) ∧ s.tmp 9 = .sv (.sl (n + 1) (rowsC (fun j => p ^ j) (n + 1))) ∧ s.tmp 10 = .sv (.sl (n + 1) (rowsC (fun j => f ^ j) (n + 1))) ∧ s.tmp 11 = .sv (.sl (n + 1) (rowsC (fun j => D ^ j) (n + 1))) ∧
      ∃ j : Nat, s.tmp 13 = .sv (.int .i64 (j : Int)) ∧ j ≤ n + 1 ∧ ((j = 0 ∧ s.tmp 12 = .nil ∧ s.gen 58 = 0 ∧ s.tmp 44 = .undef ∧ s.tmp 48 = .undef ∧ s.tmp 54 = .undef ∧ s.tmp 55 = .undef) ∨
        (0 < j ∧ s.tmp 12 = .ref 58 0 1 0 j ∧ s.obj 58 0 = some (rowsC (termN p f n) j) ∧ ∃ w x y z, s.tmp 44 = .sv w ∧ s.tmp 48 = .sv x ∧ s.tmp 54 = .sv y ∧ s.tmp 55 = .sv z)))
    (fun s => match s.tmp 13 with | .sv (.int _ i) => n + 1 - i.toNat | _ => 0) ⟨rfl, rfl, rfl, rfl, 0, rfl, by omega, .inl ⟨rfl, rfl, rfl, rfl, rfl, rfl, rfl⟩⟩ ?_
  rintro s2 ⟨i0, i9, i10, i11, j, i13, hj, hl⟩
  by_cases hend : j = n + 1
  · subst hend
    rcases hl with ⟨h0, _⟩ | ⟨_, j12, jL, -⟩
    · omega
    · (try (simp only [go_sem, Nat.reduceEqDiff, Nat.reduceAdd, Nat.reduceSub, Nat.reduceMul, Nat.reduceLeDiff, Nat.reduceLT, reduceIte, reduceCtorEq, Nat.succ_ne_zero, elemsC, Int.reduceToNat, Nat.reducePow, i0, i9, i10, i11, i13, j12, jL, tlast, l3])); repeat ((first | (simp (disch := (first | omega | (simp only [AL, List.length_map]; omega))) only [AR, AL, ifT, ifF, take_all, List.length_cons, List.length_nil, Int.reduceToNat, Int.reducePow, Nat.reducePow, i0, i9, i10, i11, i13, j12, jL, tlast, l3]) | (refine wk_intro (by kernel_rfl) ?_) | (refine vp_draw (id := 3) (l := [25, 7, 32]) (by kernel_rfl) ?_) | (refine vp_draw (id := 8) (l := [48, 54, 44, 55]) (by kernel_rfl) ?_) | (refine vp_draw (id := 9) (l := []) (by kernel_rfl) ?_)); try (simp only [go_sem, Nat.reduceEqDiff, Nat.reduceAdd, Nat.reduceSub, Nat.reduceMul, Nat.reduceLeDiff, Nat.reduceLT, reduceIte, reduceCtorEq, Nat.succ_ne_zero, elemsC, Int.reduceToNat, Nat.reducePow, i0, i9, i10, i11, i13, j12, jL, tlast, l3]))
      refine ro_ref (cs := rowsC (termN p f n) (n + 1)) (by decide) ?_ ?_
      · simp only [go_sem, Nat.reduceEqDiff, Nat.reduceAdd, Nat.reduceSub, Nat.reduceMul, Nat.reduceLeDiff, Nat.reduceLT, reduceIte, reduceCtorEq, Nat.succ_ne_zero, elemsC, Int.reduceToNat, Nat.reducePow, j12, jL]
      · rw [List.drop_zero, Nat.mul_one, List.take_of_length_le (Nat.le_of_eq (rows_len _ _))]
  · have hjn : j ≤ n := by omega
    have a1 := rows_at (fun j => p ^ j) (i := n + 1) (j := j) (by omega)
    have a2 := rows_at (fun j => f ^ j) (i := n + 1) (j := n - j) (by omega)
    have hsn := rows_snoc (termN p f n) j
    have hrl := rows_len (termN p f n) j
    have lp := pl p j (by omega) hjn
    have lf := pl f (n - j) (by omega) (by omega)
    have hCh := ref9_Choose (n : Int) (j : Int) (by omega) (by omega)
    rw [chR_in hjn (by omega), rv_nat] at hCh
    have lc := cc_lim (m := n - j) (k := j) (by omega)
    have m1 := ref1_MulL (N := p ^ j) (D := f ^ (n - j)) (by omega) (by omega)
    have lm := lim_len_mul (a := p ^ j) (b := f ^ (n - j))
    have m2 := ref1_MulL (N := cc (n - j) j) (D := p ^ j * f ^ (n - j)) (by omega) (by omega)
    rw [← Nat.mul_assoc, show cc (n - j) j * p ^ j * f ^ (n - j) = termN p f n j from rfl] at m2
    clear lc lm lp lf pl
    rcases hl with ⟨h0, j12, jg, k1, k2, k3, k4⟩ | ⟨hj0, j12, jL, w, x', y', z, k1, k2, k3, k4⟩
    · subst h0
      rw [List.drop_zero] at a1
      simp only [Nat.sub_zero] at a2 m1 m2 hCh
      (try (simp only [go_sem, Nat.reduceEqDiff, Nat.reduceAdd, Nat.reduceSub, Nat.reduceMul, Nat.reduceLeDiff, Nat.reduceLT, reduceIte, reduceCtorEq, Nat.succ_ne_zero, elemsC, Int.reduceToNat, Nat.reducePow, i0, i9, i10, i11, i13, j12, jg, N0, a1, a2, l1, l2, k1, k2, k3, k4])); repeat ((first | (simp (disch := (first | omega | (simp only [AL, List.length_map]; omega))) only [AR, AL, ifT, ifF, take_all, List.length_cons, List.length_nil, Int.reduceToNat, Int.reducePow, Nat.reducePow, i0, i9, i10, i11, i13, j12, jg, N0, a1, a2, l1, l2, k1, k2, k3, k4]) | (refine wk_intro (by kernel_rfl) ?_) | (refine vp_draw (id := 3) (l := [25, 7, 32]) (by kernel_rfl) ?_) | (refine vp_draw (id := 8) (l := [48, 54, 44, 55]) (by kernel_rfl) ?_) | (refine vp_draw (id := 9) (l := []) (by kernel_rfl) ?_)); try (simp only [go_sem, Nat.reduceEqDiff, Nat.reduceAdd, Nat.reduceSub, Nat.reduceMul, Nat.reduceLeDiff, Nat.reduceLT, reduceIte, reduceCtorEq, Nat.succ_ne_zero, elemsC, Int.reduceToNat, Nat.reducePow, i0, i9, i10, i11, i13, j12, jg, N0, a1, a2, l1, l2, k1, k2, k3, k4]))
      refine vf_of (hCh) ?_; (try (simp only [go_sem, Nat.reduceEqDiff, Nat.reduceAdd, Nat.reduceSub, Nat.reduceMul, Nat.reduceLeDiff, Nat.reduceLT, reduceIte, reduceCtorEq, Nat.succ_ne_zero, elemsC, Int.reduceToNat, Nat.reducePow, i0, i9, i10, i11, i13, j12, jg, N0, a1, a2, l1, l2])); repeat ((first | (simp (disch := (first | omega | (simp only [AL, List.length_map]; omega))) only [AR, AL, ifT, ifF, take_all, List.length_cons, List.length_nil, Int.reduceToNat, Int.reducePow, Nat.reducePow, i0, i9, i10, i11, i13, j12, jg, N0, a1, a2, l1, l2]) | (refine wk_intro (by kernel_rfl) ?_) | (refine vp_draw (id := 3) (l := [25, 7, 32]) (by kernel_rfl) ?_) | (refine vp_draw (id := 8) (l := [48, 54, 44, 55]) (by kernel_rfl) ?_) | (refine vp_draw (id := 9) (l := []) (by kernel_rfl) ?_)); try (simp only [go_sem, Nat.reduceEqDiff, Nat.reduceAdd, Nat.reduceSub, Nat.reduceMul, Nat.reduceLeDiff, Nat.reduceLT, reduceIte, reduceCtorEq, Nat.succ_ne_zero, elemsC, Int.reduceToNat, Nat.reducePow, i0, i9, i10, i11, i13, j12, jg, N0, a1, a2, l1, l2]))
      refine vf_of (m1) ?_; (try (simp only [go_sem, Nat.reduceEqDiff, Nat.reduceAdd, Nat.reduceSub, Nat.reduceMul, Nat.reduceLeDiff, Nat.reduceLT, reduceIte, reduceCtorEq, Nat.succ_ne_zero, elemsC, Int.reduceToNat, Nat.reducePow, i0, i9, i10, i11, i13, j12, jg])); repeat ((first | (simp (disch := (first | omega | (simp only [AL, List.length_map]; omega))) only [AR, AL, ifT, ifF, take_all, List.length_cons, List.length_nil, Int.reduceToNat, Int.reducePow, Nat.reducePow, i0, i9, i10, i11, i13, j12, jg]) | (refine wk_intro (by kernel_rfl) ?_) | (refine vp_draw (id := 3) (l := [25, 7, 32]) (by kernel_rfl) ?_) | (refine vp_draw (id := 8) (l := [48, 54, 44, 55]) (by kernel_rfl) ?_) | (refine vp_draw (id := 9) (l := []) (by kernel_rfl) ?_)); try (simp only [go_sem, Nat.reduceEqDiff, Nat.reduceAdd, Nat.reduceSub, Nat.reduceMul, Nat.reduceLeDiff, Nat.reduceLT, reduceIte, reduceCtorEq, Nat.succ_ne_zero, elemsC, Int.reduceToNat, Nat.reducePow, i0, i9, i10, i11, i13, j12, jg]))
      refine vf_of (m2) ?_; (try (simp only [go_sem, Nat.reduceEqDiff, Nat.reduceAdd, Nat.reduceSub, Nat.reduceMul, Nat.reduceLeDiff, Nat.reduceLT, reduceIte, reduceCtorEq, Nat.succ_ne_zero, elemsC, Int.reduceToNat, Nat.reducePow, i0, i9, i10, i11, i13, j12, jg, hsn, hrl, N0])); repeat ((first | (simp (disch := (first | omega | (simp only [AL, List.length_map]; omega))) only [AR, AL, ifT, ifF, take_all, List.length_cons, List.length_nil, Int.reduceToNat, Int.reducePow, Nat.reducePow, i0, i9, i10, i11, i13, j12, jg, hsn, hrl, N0]) | (refine wk_intro (by kernel_rfl) ?_) | (refine vp_draw (id := 3) (l := [25, 7, 32]) (by kernel_rfl) ?_) | (refine vp_draw (id := 8) (l := [48, 54, 44, 55]) (by kernel_rfl) ?_) | (refine vp_draw (id := 9) (l := []) (by kernel_rfl) ?_)); try (simp only [go_sem, Nat.reduceEqDiff, Nat.reduceAdd, Nat.reduceSub, Nat.reduceMul, Nat.reduceLeDiff, Nat.reduceLT, reduceIte, reduceCtorEq, Nat.succ_ne_zero, elemsC, Int.reduceToNat, Nat.reducePow, i0, i9, i10, i11, i13, j12, jg, hsn, hrl, N0]))
      exact ⟨⟨1, rfl, by omega, .inr ⟨by omega, rfl, rfl, _, _, _, _, rfl, rfl, rfl, rfl⟩⟩, by omega⟩
    · (try (simp only [go_sem, Nat.reduceEqDiff, Nat.reduceAdd, Nat.reduceSub, Nat.reduceMul, Nat.reduceLeDiff, Nat.reduceLT, reduceIte, reduceCtorEq, Nat.succ_ne_zero, elemsC, Int.reduceToNat, Nat.reducePow, i0, i9, i10, i11, i13, j12, jL, N0, a1, a2, l1, l2, k1, k2, k3, k4])); repeat ((first | (simp (disch := (first | omega | (simp only [AL, List.length_map]; omega))) only [AR, AL, ifT, ifF, take_all, List.length_cons, List.length_nil, Int.reduceToNat, Int.reducePow, Nat.reducePow, i0, i9, i10, i11, i13, j12, jL, N0, a1, a2, l1, l2, k1, k2, k3, k4]) | (refine wk_intro (by kernel_rfl) ?_) | (refine vp_draw (id := 3) (l := [25, 7, 32]) (by kernel_rfl) ?_) | (refine vp_draw (id := 8) (l := [48, 54, 44, 55]) (by kernel_rfl) ?_) | (refine vp_draw (id := 9) (l := []) (by kernel_rfl) ?_)); try (simp only [go_sem, Nat.reduceEqDiff, Nat.reduceAdd, Nat.reduceSub, Nat.reduceMul, Nat.reduceLeDiff, Nat.reduceLT, reduceIte, reduceCtorEq, Nat.succ_ne_zero, elemsC, Int.reduceToNat, Nat.reducePow, i0, i9, i10, i11, i13, j12, jL, N0, a1, a2, l1, l2, k1, k2, k3, k4]))
      refine vf_of (hCh) ?_; (try (simp only [go_sem, Nat.reduceEqDiff, Nat.reduceAdd, Nat.reduceSub, Nat.reduceMul, Nat.reduceLeDiff, Nat.reduceLT, reduceIte, reduceCtorEq, Nat.succ_ne_zero, elemsC, Int.reduceToNat, Nat.reducePow, i0, i9, i10, i11, i13, j12, jL, N0, a1, a2, l1, l2])); repeat ((first | (simp (disch := (first | omega | (simp only [AL, List.length_map]; omega))) only [AR, AL, ifT, ifF, take_all, List.length_cons, List.length_nil, Int.reduceToNat, Int.reducePow, Nat.reducePow, i0, i9, i10, i11, i13, j12, jL, N0, a1, a2, l1, l2]) | (refine wk_intro (by kernel_rfl) ?_) | (refine vp_draw (id := 3) (l := [25, 7, 32]) (by kernel_rfl) ?_) | (refine vp_draw (id := 8) (l := [48, 54, 44, 55]) (by kernel_rfl) ?_) | (refine vp_draw (id := 9) (l := []) (by kernel_rfl) ?_)); try (simp only [go_sem, Nat.reduceEqDiff, Nat.reduceAdd, Nat.reduceSub, Nat.reduceMul, Nat.reduceLeDiff, Nat.reduceLT, reduceIte, reduceCtorEq, Nat.succ_ne_zero, elemsC, Int.reduceToNat, Nat.reducePow, i0, i9, i10, i11, i13, j12, jL, N0, a1, a2, l1, l2]))
      refine vf_of (m1) ?_; (try (simp only [go_sem, Nat.reduceEqDiff, Nat.reduceAdd, Nat.reduceSub, Nat.reduceMul, Nat.reduceLeDiff, Nat.reduceLT, reduceIte, reduceCtorEq, Nat.succ_ne_zero, elemsC, Int.reduceToNat, Nat.reducePow, i0, i9, i10, i11, i13, j12, jL])); repeat ((first | (simp (disch := (first | omega | (simp only [AL, List.length_map]; omega))) only [AR, AL, ifT, ifF, take_all, List.length_cons, List.length_nil, Int.reduceToNat, Int.reducePow, Nat.reducePow, i0, i9, i10, i11, i13, j12, jL]) | (refine wk_intro (by kernel_rfl) ?_) | (refine vp_draw (id := 3) (l := [25, 7, 32]) (by kernel_rfl) ?_) | (refine vp_draw (id := 8) (l := [48, 54, 44, 55]) (by kernel_rfl) ?_) | (refine vp_draw (id := 9) (l := []) (by kernel_rfl) ?_)); try (simp only [go_sem, Nat.reduceEqDiff, Nat.reduceAdd, Nat.reduceSub, Nat.reduceMul, Nat.reduceLeDiff, Nat.reduceLT, reduceIte, reduceCtorEq, Nat.succ_ne_zero, elemsC, Int.reduceToNat, Nat.reducePow, i0, i9, i10, i11, i13, j12, jL]))
      refine vf_of (m2) ?_; (try (simp only [go_sem, Nat.reduceEqDiff, Nat.reduceAdd, Nat.reduceSub, Nat.reduceMul, Nat.reduceLeDiff, Nat.reduceLT, reduceIte, reduceCtorEq, Nat.succ_ne_zero, elemsC, Int.reduceToNat, Nat.reducePow, i0, i9, i10, i11, i13, j12, jL, hsn, hrl, N0])); repeat ((first | (simp (disch := (first | omega | (simp only [AL, List.length_map]; omega))) only [AR, AL, ifT, ifF, take_all, List.length_cons, List.length_nil, Int.reduceToNat, Int.reducePow, Nat.reducePow, i0, i9, i10, i11, i13, j12, jL, hsn, hrl, N0]) | (refine wk_intro (by kernel_rfl) ?_) | (refine vp_draw (id := 3) (l := [25, 7, 32]) (by kernel_rfl) ?_) | (refine vp_draw (id := 8) (l := [48, 54, 44, 55]) (by kernel_rfl) ?_) | (refine vp_draw (id := 9) (l := []) (by kernel_rfl) ?_)); try (simp only [go_sem, Nat.reduceEqDiff, Nat.reduceAdd, Nat.reduceSub, Nat.reduceMul, Nat.reduceLeDiff, Nat.reduceLT, reduceIte, reduceCtorEq, Nat.succ_ne_zero, elemsC, Int.reduceToNat, Nat.reducePow, i0, i9, i10, i11, i13, j12, jL, hsn, hrl, N0]))
      exact ⟨⟨j + 1, rfl, by omega, .inr ⟨by omega, rfl, rfl, _, _, _, _, rfl, rfl, rfl, rfl⟩⟩, by omega⟩
theorem sum_lens {p f n : Nat} (hn : n ≤ 256) (hp : (lim p).length ≤ 100) (hf : (lim f).length ≤ 100) : ∀ j, j ≤ n + 1 → (lim (sumN p f n j)).length ≤ 90000 + j := by
  intro j
  induction j with
  | zero => intro _; rw [show sumN p f n 0 = 0 from rfl, lim_zero]; simp
  | succ j ih =>
    intro hj
    exact lim_len_add2 (L := 90000 + j) (ih (by omega)) (Nat.le_trans (term_len hn hp hf j (by omega)) (Nat.le_add_right _ _))
theorem cmpN_ge' {a b : Nat} : decide (cmpN a b ≥ 0) = decide (b ≤ a) := by
  unfold cmpN
  by_cases h : a < b
  · rw [if_pos h, decide_eq_false (show ¬ b ≤ a by omega)]; rfl
  · rw [if_neg h, decide_eq_true (show b ≤ a by omega)]; split <;> rfl
theorem ref13_Least {v w : SV} {x q : Rat} {L : Nat} {n K : Nat} (hv : RatA v x L) (hw : RatA w q L) (hL : 1 ≤ L) (hL2 : L ≤ 100) (hn : n ≤ 256) (hx0 : 0 ≤ x) (hx1 : x ≤ 1) (hq : 0 ≤ q) (hK : isLeast n x q K) :
    Go.Ev.Fn CX 29 [.int .i64 (n : Int), w, v] (.int .i64 (K : Int)) := by
  have hP := ref13_parts hv hL hL2 hn
  have hN := ref2_Norm hw (by omega)
  have hge := fun {k : Nat} (hk : k < n) => cdfB_ge (q := q) (x := x) hk
  obtain ⟨z1, z2⟩ := szR_of hv hL
  obtain ⟨y1, y2⟩ := szR_of hw hL
  have hqn : (q.num.natAbs : Int) = q.num := by have := Rat.num_nonneg.2 hq; omega
  have hf := lim_len_mono (Nat.sub_le x.den x.num.natAbs)
  have sl := sum_lens (p := x.num.natAbs) (f := x.den - x.num.natAbs) (n := n) hn (by omega) (by omega)
  have tl := fun j (hj : j ≤ n) => term_len (p := x.num.natAbs) (f := x.den - x.num.natAbs) (n := n) hn (by omega) (by omega) j hj
  have dl := pow_lim_len x.den n
  have dl2 : (lim x.den).length * n ≤ 100 * 256 := Nat.mul_le_mul (by omega) hn
  have hM := ref1_MulL (N := q.num.natAbs) (D := x.den ^ n) (by omega) (by omega)
  have ml := lim_len_mul (a := q.num.natAbs) (b := x.den ^ n)
  have hge2 : ∀ k : Nat, k < n → (q ≤ cdfB n k x ↔ q.num.natAbs * x.den ^ n ≤ sumN x.num.natAbs (x.den - x.num.natAbs) n (k + 1) * q.den) := by
    intro k hk
    rw [hge hk, ← hqn]
    exact_mod_cast Iff.rfl
  clear hge hqn
  obtain ⟨s, y, d, rfl, -⟩ := hv
  obtain ⟨s', y', d', rfl, -⟩ := hw
  have hlen := rows_len (termN x.num.natAbs (x.den - x.num.natAbs) n) (n + 1)
  have hall := fun j (hj : j < n) => rows_at (termN x.num.natAbs (x.den - x.num.natAbs) n) (i := n + 1) (j := j) (by omega)
  have hstep := fun j => (show sumN x.num.natAbs (x.den - x.num.natAbs) n (j + 1) = sumN x.num.natAbs (x.den - x.num.natAbs) n j + termN x.num.natAbs (x.den - x.num.natAbs) n j from rfl)
  have hzero : sumN x.num.natAbs (x.den - x.num.natAbs) n 0 = 0 := rfl
  generalize hT : termN x.num.natAbs (x.den - x.num.natAbs) n = T at *
  generalize hS : sumN x.num.natAbs (x.den - x.num.natAbs) n = S at *
  generalize hDn : x.den ^ n = E at *
  generalize hqd : q.den = qd at *
  generalize hqp : q.num.natAbs = qp at *
  refine Go.Ev.Fn.intro (fn := Try.f29) (body := (Try.f29).body.get!) (by kernel_rfl) (by kernel_rfl) (by kernel_rfl) (fun _ => rfl) (Nat.le_of_ble_eq_true (by kernel_rfl)) ?_; unfold Try.f29; simp only [Option.get!_some]
  (try (simp only [go_sem, Nat.reduceEqDiff, Nat.reduceAdd, Nat.reduceSub, Nat.reduceMul, Nat.reduceLeDiff, Nat.reduceLT, reduceIte, reduceCtorEq, Nat.succ_ne_zero, elemsC, Int.reduceToNat, Nat.reducePow])); repeat ((first | (simp (disch := (first | omega | (simp only [AL, List.length_map]; omega))) only [AR, AL, ifT, ifF, take_all, List.length_cons, List.length_nil, Int.reduceToNat, Int.reducePow, Nat.reducePow]) | (refine wk_intro (by kernel_rfl) ?_)); try (simp only [go_sem, Nat.reduceEqDiff, Nat.reduceAdd, Nat.reduceSub, Nat.reduceMul, Nat.reduceLeDiff, Nat.reduceLT, reduceIte, reduceCtorEq, Nat.succ_ne_zero, elemsC, Int.reduceToNat, Nat.reducePow]))
  refine vf_of (hP) ?_; (try (simp only [go_sem, Nat.reduceEqDiff, Nat.reduceAdd, Nat.reduceSub, Nat.reduceMul, Nat.reduceLeDiff, Nat.reduceLT, reduceIte, reduceCtorEq, Nat.succ_ne_zero, elemsC, Int.reduceToNat, Nat.reducePow])); repeat ((first | (simp (disch := (first | omega | (simp only [AL, List.length_map]; omega))) only [AR, AL, ifT, ifF, take_all, List.length_cons, List.length_nil, Int.reduceToNat, Int.reducePow, Nat.reducePow]) | (refine wk_intro (by kernel_rfl) ?_)); try (simp only [go_sem, Nat.reduceEqDiff, Nat.reduceAdd, Nat.reduceSub, Nat.reduceMul, Nat.reduceLeDiff, Nat.reduceLT, reduceIte, reduceCtorEq, Nat.succ_ne_zero, elemsC, Int.reduceToNat, Nat.reducePow]))
  refine vf_of (hN) ?_; (try (simp only [go_sem, Nat.reduceEqDiff, Nat.reduceAdd, Nat.reduceSub, Nat.reduceMul, Nat.reduceLeDiff, Nat.reduceLT, reduceIte, reduceCtorEq, Nat.succ_ne_zero, elemsC, Int.reduceToNat, Nat.reducePow, hqd, hqp])); repeat ((first | (simp (disch := (first | omega | (simp only [AL, List.length_map]; omega))) only [AR, AL, ifT, ifF, take_all, List.length_cons, List.length_nil, Int.reduceToNat, Int.reducePow, Nat.reducePow, hqd, hqp]) | (refine wk_intro (by kernel_rfl) ?_)); try (simp only [go_sem, Nat.reduceEqDiff, Nat.reduceAdd, Nat.reduceSub, Nat.reduceMul, Nat.reduceLeDiff, Nat.reduceLT, reduceIte, reduceCtorEq, Nat.succ_ne_zero, elemsC, Int.reduceToNat, Nat.reducePow, hqd, hqp]))
  refine vf_of (hM) ?_; (try (simp only [go_sem, Nat.reduceEqDiff, Nat.reduceAdd, Nat.reduceSub, Nat.reduceMul, Nat.reduceLeDiff, Nat.reduceLT, reduceIte, reduceCtorEq, Nat.succ_ne_zero, elemsC, Int.reduceToNat, Nat.reducePow, hqd, hqp])); repeat ((first | (simp (disch := (first | omega | (simp only [AL, List.length_map]; omega))) only [AR, AL, ifT, ifF, take_all, List.length_cons, List.length_nil, Int.reduceToNat, Int.reducePow, Nat.reducePow, hqd, hqp]) | (refine wk_intro (by kernel_rfl) ?_)); try (simp only [go_sem, Nat.reduceEqDiff, Nat.reduceAdd, Nat.reduceSub, Nat.reduceMul, Nat.reduceLeDiff, Nat.reduceLT, reduceIte, reduceCtorEq, Nat.succ_ne_zero, elemsC, Int.reduceToNat, Nat.reducePow, hqd, hqp]))
  refine vp_loop_inv (fun s => s.tmp 0 = .sv (.int .i64 (n : Int)) ∧ s.tmp 7 = .sv (.sl (n + 1) (rowsC T (n + 1))) ∧ s.tmp 9 = .ptr 9 0 0 ∧ s.obj 9 0 = some [.bool (decide (q.num < 0)), natV (lim qp), natV (lim qd)] ∧ s.tmp 10 = .sv (natV (lim (qp * E))) ∧
      ∃ i : Nat, s.tmp 12 = .sv (.int .i64 (i : Int)) ∧ i ≤ n ∧ (∀ j : Nat, j < i → cdfB n j x < q) ∧ ((i = 0 ∧ s.tmp 11 = .nil) ∨ s.tmp 11 = .sv (natV (lim (S i)))))
    (fun s => match s.tmp 12 with | .sv (.int _ i) => n - i.toNat | _ => 0) ⟨rfl, rfl, rfl, rfl, rfl, 0, rfl, by omega, fun j hj => absurd hj (by omega), .inl ⟨rfl, rfl⟩⟩ ?_
  rintro s2 ⟨i0, i7, i9, iO, i10, i, i12, hi, hlo, h11⟩
  by_cases hend : i = n
  · have hKK : i = K := isLeast_unique ⟨hi, hlo, .inl hend⟩ hK
    subst hend
    subst hKK
    (try (simp only [go_sem, Nat.reduceEqDiff, Nat.reduceAdd, Nat.reduceSub, Nat.reduceMul, Nat.reduceLeDiff, Nat.reduceLT, reduceIte, reduceCtorEq, Nat.succ_ne_zero, elemsC, Int.reduceToNat, Nat.reducePow, i0, i7, i9, iO, i10, i12])); repeat ((first | (simp (disch := (first | omega | (simp only [AL, List.length_map]; omega))) only [AR, AL, ifT, ifF, take_all, List.length_cons, List.length_nil, Int.reduceToNat, Int.reducePow, Nat.reducePow, i0, i7, i9, iO, i10, i12]) | (refine wk_intro (by kernel_rfl) ?_)); try (simp only [go_sem, Nat.reduceEqDiff, Nat.reduceAdd, Nat.reduceSub, Nat.reduceMul, Nat.reduceLeDiff, Nat.reduceLT, reduceIte, reduceCtorEq, Nat.succ_ne_zero, elemsC, Int.reduceToNat, Nat.reducePow, i0, i7, i9, iO, i10, i12]))
  · have hin : i < n := by omega
    have hat := hall i hin
    have lS := sl i (by omega)
    have lS1 := sl (i + 1) (by omega)
    have lT := tl i (by omega)
    have hA := ref1_AddL (N := S i) (D := T i) (by omega) (by omega)
    rw [← hstep] at hA
    have hM2 := ref1_MulL (N := S (i + 1)) (D := qd) (by omega) (by omega)
    have lM2 := lim_len_mul (a := S (i + 1)) (b := qd)
    have hC := ref1_CmpL (N := S (i + 1) * qd) (D := qp * E) (by omega) (by omega)
    have ec : decide (cmpN (S (i + 1) * qd) (qp * E) ≥ 0) = decide (qp * E ≤ S (i + 1) * qd) := cmpN_ge'
    have hg := hge2 i hin
    generalize S (i + 1) * qd = A at *
    generalize qp * E = B at *
    clear sl tl hge2 hall
    by_cases h5 : B ≤ A
    · have hKK : i = K := isLeast_unique ⟨hi, hlo, .inr (hg.2 h5)⟩ hK
      subst hKK
      rw [decide_eq_true h5] at ec
      clear hg hlo hstep
      rcases h11 with ⟨h0, i11⟩ | i11
      · subst h0
        rw [hzero, lim_zero] at hA
        rw [List.drop_zero] at hat
        (try (simp only [go_sem, Nat.reduceEqDiff, Nat.reduceAdd, Nat.reduceSub, Nat.reduceMul, Nat.reduceLeDiff, Nat.reduceLT, reduceIte, reduceCtorEq, Nat.succ_ne_zero, elemsC, Int.reduceToNat, Nat.reducePow, i0, i7, i9, iO, i10, i12, i11, hat, hlen])); repeat ((first | (simp (disch := (first | omega | (simp only [AL, List.length_map]; omega))) only [AR, AL, ifT, ifF, take_all, List.length_cons, List.length_nil, Int.reduceToNat, Int.reducePow, Nat.reducePow, i0, i7, i9, iO, i10, i12, i11, hat, hlen]) | (refine wk_intro (by kernel_rfl) ?_)); try (simp only [go_sem, Nat.reduceEqDiff, Nat.reduceAdd, Nat.reduceSub, Nat.reduceMul, Nat.reduceLeDiff, Nat.reduceLT, reduceIte, reduceCtorEq, Nat.succ_ne_zero, elemsC, Int.reduceToNat, Nat.reducePow, i0, i7, i9, iO, i10, i12, i11, hat, hlen]))
        refine vf_of (hA) ?_; (try (simp only [go_sem, Nat.reduceEqDiff, Nat.reduceAdd, Nat.reduceSub, Nat.reduceMul, Nat.reduceLeDiff, Nat.reduceLT, reduceIte, reduceCtorEq, Nat.succ_ne_zero, elemsC, Int.reduceToNat, Nat.reducePow, i0, i7, i9, iO, i10, i12, i11, hat, hlen])); repeat ((first | (simp (disch := (first | omega | (simp only [AL, List.length_map]; omega))) only [AR, AL, ifT, ifF, take_all, List.length_cons, List.length_nil, Int.reduceToNat, Int.reducePow, Nat.reducePow, i0, i7, i9, iO, i10, i12, i11, hat, hlen]) | (refine wk_intro (by kernel_rfl) ?_)); try (simp only [go_sem, Nat.reduceEqDiff, Nat.reduceAdd, Nat.reduceSub, Nat.reduceMul, Nat.reduceLeDiff, Nat.reduceLT, reduceIte, reduceCtorEq, Nat.succ_ne_zero, elemsC, Int.reduceToNat, Nat.reducePow, i0, i7, i9, iO, i10, i12, i11, hat, hlen]))
        refine vf_of (hM2) ?_; (try (simp only [go_sem, Nat.reduceEqDiff, Nat.reduceAdd, Nat.reduceSub, Nat.reduceMul, Nat.reduceLeDiff, Nat.reduceLT, reduceIte, reduceCtorEq, Nat.succ_ne_zero, elemsC, Int.reduceToNat, Nat.reducePow, i0, i7, i9, iO, i10, i12, i11])); repeat ((first | (simp (disch := (first | omega | (simp only [AL, List.length_map]; omega))) only [AR, AL, ifT, ifF, take_all, List.length_cons, List.length_nil, Int.reduceToNat, Int.reducePow, Nat.reducePow, i0, i7, i9, iO, i10, i12, i11]) | (refine wk_intro (by kernel_rfl) ?_)); try (simp only [go_sem, Nat.reduceEqDiff, Nat.reduceAdd, Nat.reduceSub, Nat.reduceMul, Nat.reduceLeDiff, Nat.reduceLT, reduceIte, reduceCtorEq, Nat.succ_ne_zero, elemsC, Int.reduceToNat, Nat.reducePow, i0, i7, i9, iO, i10, i12, i11]))
        refine vf_of (hC) ?_; (try (simp only [go_sem, Nat.reduceEqDiff, Nat.reduceAdd, Nat.reduceSub, Nat.reduceMul, Nat.reduceLeDiff, Nat.reduceLT, reduceIte, reduceCtorEq, Nat.succ_ne_zero, elemsC, Int.reduceToNat, Nat.reducePow, i0, i7, i9, iO, i10, i12, i11, ec])); repeat ((first | (simp (disch := (first | omega | (simp only [AL, List.length_map]; omega))) only [AR, AL, ifT, ifF, take_all, List.length_cons, List.length_nil, Int.reduceToNat, Int.reducePow, Nat.reducePow, i0, i7, i9, iO, i10, i12, i11, ec]) | (refine wk_intro (by kernel_rfl) ?_)); try (simp only [go_sem, Nat.reduceEqDiff, Nat.reduceAdd, Nat.reduceSub, Nat.reduceMul, Nat.reduceLeDiff, Nat.reduceLT, reduceIte, reduceCtorEq, Nat.succ_ne_zero, elemsC, Int.reduceToNat, Nat.reducePow, i0, i7, i9, iO, i10, i12, i11, ec]))
      · (try (simp only [go_sem, Nat.reduceEqDiff, Nat.reduceAdd, Nat.reduceSub, Nat.reduceMul, Nat.reduceLeDiff, Nat.reduceLT, reduceIte, reduceCtorEq, Nat.succ_ne_zero, elemsC, Int.reduceToNat, Nat.reducePow, i0, i7, i9, iO, i10, i12, i11, hat, hlen])); repeat ((first | (simp (disch := (first | omega | (simp only [AL, List.length_map]; omega))) only [AR, AL, ifT, ifF, take_all, List.length_cons, List.length_nil, Int.reduceToNat, Int.reducePow, Nat.reducePow, i0, i7, i9, iO, i10, i12, i11, hat, hlen]) | (refine wk_intro (by kernel_rfl) ?_)); try (simp only [go_sem, Nat.reduceEqDiff, Nat.reduceAdd, Nat.reduceSub, Nat.reduceMul, Nat.reduceLeDiff, Nat.reduceLT, reduceIte, reduceCtorEq, Nat.succ_ne_zero, elemsC, Int.reduceToNat, Nat.reducePow, i0, i7, i9, iO, i10, i12, i11, hat, hlen]))
        refine vf_of (hA) ?_; (try (simp only [go_sem, Nat.reduceEqDiff, Nat.reduceAdd, Nat.reduceSub, Nat.reduceMul, Nat.reduceLeDiff, Nat.reduceLT, reduceIte, reduceCtorEq, Nat.succ_ne_zero, elemsC, Int.reduceToNat, Nat.reducePow, i0, i7, i9, iO, i10, i12, i11, hat, hlen])); repeat ((first | (simp (disch := (first | omega | (simp only [AL, List.length_map]; omega))) only [AR, AL, ifT, ifF, take_all, List.length_cons, List.length_nil, Int.reduceToNat, Int.reducePow, Nat.reducePow, i0, i7, i9, iO, i10, i12, i11, hat, hlen]) | (refine wk_intro (by kernel_rfl) ?_)); try (simp only [go_sem, Nat.reduceEqDiff, Nat.reduceAdd, Nat.reduceSub, Nat.reduceMul, Nat.reduceLeDiff, Nat.reduceLT, reduceIte, reduceCtorEq, Nat.succ_ne_zero, elemsC, Int.reduceToNat, Nat.reducePow, i0, i7, i9, iO, i10, i12, i11, hat, hlen]))
        refine vf_of (hM2) ?_; (try (simp only [go_sem, Nat.reduceEqDiff, Nat.reduceAdd, Nat.reduceSub, Nat.reduceMul, Nat.reduceLeDiff, Nat.reduceLT, reduceIte, reduceCtorEq, Nat.succ_ne_zero, elemsC, Int.reduceToNat, Nat.reducePow, i0, i7, i9, iO, i10, i12, i11])); repeat ((first | (simp (disch := (first | omega | (simp only [AL, List.length_map]; omega))) only [AR, AL, ifT, ifF, take_all, List.length_cons, List.length_nil, Int.reduceToNat, Int.reducePow, Nat.reducePow, i0, i7, i9, iO, i10, i12, i11]) | (refine wk_intro (by kernel_rfl) ?_)); try (simp only [go_sem, Nat.reduceEqDiff, Nat.reduceAdd, Nat.reduceSub, Nat.reduceMul, Nat.reduceLeDiff, Nat.reduceLT, reduceIte, reduceCtorEq, Nat.succ_ne_zero, elemsC, Int.reduceToNat, Nat.reducePow, i0, i7, i9, iO, i10, i12, i11]))
        refine vf_of (hC) ?_; (try (simp only [go_sem, Nat.reduceEqDiff, Nat.reduceAdd, Nat.reduceSub, Nat.reduceMul, Nat.reduceLeDiff, Nat.reduceLT, reduceIte, reduceCtorEq, Nat.succ_ne_zero, elemsC, Int.reduceToNat, Nat.reducePow, i0, i7, i9, iO, i10, i12, i11, ec])); repeat ((first | (simp (disch := (first | omega | (simp only [AL, List.length_map]; omega))) only [AR, AL, ifT, ifF, take_all, List.length_cons, List.length_nil, Int.reduceToNat, Int.reducePow, Nat.reducePow, i0, i7, i9, iO, i10, i12, i11, ec]) | (refine wk_intro (by kernel_rfl) ?_)); try (simp only [go_sem, Nat.reduceEqDiff, Nat.reduceAdd, Nat.reduceSub, Nat.reduceMul, Nat.reduceLeDiff, Nat.reduceLT, reduceIte, reduceCtorEq, Nat.succ_ne_zero, elemsC, Int.reduceToNat, Nat.reducePow, i0, i7, i9, iO, i10, i12, i11, ec]))
    · rw [decide_eq_false h5] at ec
      have hlo2 : ∀ j : Nat, j < i + 1 → cdfB n j x < q := by
        intro j hj
        by_cases h6 : j = i
        · subst h6
          have := fun h => h5 (hg.1 h)
          grind
        · exact hlo j (by omega)
      clear hg hlo hstep
      rcases h11 with ⟨h0, i11⟩ | i11
      · subst h0
        rw [hzero, lim_zero] at hA
        rw [List.drop_zero] at hat
        (try (simp only [go_sem, Nat.reduceEqDiff, Nat.reduceAdd, Nat.reduceSub, Nat.reduceMul, Nat.reduceLeDiff, Nat.reduceLT, reduceIte, reduceCtorEq, Nat.succ_ne_zero, elemsC, Int.reduceToNat, Nat.reducePow, i0, i7, i9, iO, i10, i12, i11, hat, hlen])); repeat ((first | (simp (disch := (first | omega | (simp only [AL, List.length_map]; omega))) only [AR, AL, ifT, ifF, take_all, List.length_cons, List.length_nil, Int.reduceToNat, Int.reducePow, Nat.reducePow, i0, i7, i9, iO, i10, i12, i11, hat, hlen]) | (refine wk_intro (by kernel_rfl) ?_)); try (simp only [go_sem, Nat.reduceEqDiff, Nat.reduceAdd, Nat.reduceSub, Nat.reduceMul, Nat.reduceLeDiff, Nat.reduceLT, reduceIte, reduceCtorEq, Nat.succ_ne_zero, elemsC, Int.reduceToNat, Nat.reducePow, i0, i7, i9, iO, i10, i12, i11, hat, hlen]))
        refine vf_of (hA) ?_; (try (simp only [go_sem, Nat.reduceEqDiff, Nat.reduceAdd, Nat.reduceSub, Nat.reduceMul, Nat.reduceLeDiff, Nat.reduceLT, reduceIte, reduceCtorEq, Nat.succ_ne_zero, elemsC, Int.reduceToNat, Nat.reducePow, i0, i7, i9, iO, i10, i12, i11, hat, hlen])); repeat ((first | (simp (disch := (first | omega | (simp only [AL, List.length_map]; omega))) only [AR, AL, ifT, ifF, take_all, List.length_cons, List.length_nil, Int.reduceToNat, Int.reducePow, Nat.reducePow, i0, i7, i9, iO, i10, i12, i11, hat, hlen]) | (refine wk_intro (by kernel_rfl) ?_)); try (simp only [go_sem, Nat.reduceEqDiff, Nat.reduceAdd, Nat.reduceSub, Nat.reduceMul, Nat.reduceLeDiff, Nat.reduceLT, reduceIte, reduceCtorEq, Nat.succ_ne_zero, elemsC, Int.reduceToNat, Nat.reducePow, i0, i7, i9, iO, i10, i12, i11, hat, hlen]))
        refine vf_of (hM2) ?_; (try (simp only [go_sem, Nat.reduceEqDiff, Nat.reduceAdd, Nat.reduceSub, Nat.reduceMul, Nat.reduceLeDiff, Nat.reduceLT, reduceIte, reduceCtorEq, Nat.succ_ne_zero, elemsC, Int.reduceToNat, Nat.reducePow, i0, i7, i9, iO, i10, i12, i11])); repeat ((first | (simp (disch := (first | omega | (simp only [AL, List.length_map]; omega))) only [AR, AL, ifT, ifF, take_all, List.length_cons, List.length_nil, Int.reduceToNat, Int.reducePow, Nat.reducePow, i0, i7, i9, iO, i10, i12, i11]) | (refine wk_intro (by kernel_rfl) ?_)); try (simp only [go_sem, Nat.reduceEqDiff, Nat.reduceAdd, Nat.reduceSub, Nat.reduceMul, Nat.reduceLeDiff, Nat.reduceLT, reduceIte, reduceCtorEq, Nat.succ_ne_zero, elemsC, Int.reduceToNat, Nat.reducePow, i0, i7, i9, iO, i10, i12, i11]))
        refine vf_of (hC) ?_; (try (simp only [go_sem, Nat.reduceEqDiff, Nat.reduceAdd, Nat.reduceSub, Nat.reduceMul, Nat.reduceLeDiff, Nat.reduceLT, reduceIte, reduceCtorEq, Nat.succ_ne_zero, elemsC, Int.reduceToNat, Nat.reducePow, i0, i7, i9, iO, i10, i12, i11, ec])); repeat ((first | (simp (disch := (first | omega | (simp only [AL, List.length_map]; omega))) only [AR, AL, ifT, ifF, take_all, List.length_cons, List.length_nil, Int.reduceToNat, Int.reducePow, Nat.reducePow, i0, i7, i9, iO, i10, i12, i11, ec]) | (refine wk_intro (by kernel_rfl) ?_)); try (simp only [go_sem, Nat.reduceEqDiff, Nat.reduceAdd, Nat.reduceSub, Nat.reduceMul, Nat.reduceLeDiff, Nat.reduceLT, reduceIte, reduceCtorEq, Nat.succ_ne_zero, elemsC, Int.reduceToNat, Nat.reducePow, i0, i7, i9, iO, i10, i12, i11, ec]))
        exact ⟨⟨1, rfl, by omega, hlo2, .inr rfl⟩, by omega⟩
      · (try (simp only [go_sem, Nat.reduceEqDiff, Nat.reduceAdd, Nat.reduceSub, Nat.reduceMul, Nat.reduceLeDiff, Nat.reduceLT, reduceIte, reduceCtorEq, Nat.succ_ne_zero, elemsC, Int.reduceToNat, Nat.reducePow, i0, i7, i9, iO, i10, i12, i11, hat, hlen])); repeat ((first | (simp (disch := (first | omega | (simp only [AL, List.length_map]; omega))) only [AR, AL, ifT, ifF, take_all, List.length_cons, List.length_nil, Int.reduceToNat, Int.reducePow, Nat.reducePow, i0, i7, i9, iO, i10, i12, i11, hat, hlen]) | (refine wk_intro (by kernel_rfl) ?_)); try (simp only [go_sem, Nat.reduceEqDiff, Nat.reduceAdd, Nat.reduceSub, Nat.reduceMul, Nat.reduceLeDiff, Nat.reduceLT, reduceIte, reduceCtorEq, Nat.succ_ne_zero, elemsC, Int.reduceToNat, Nat.reducePow, i0, i7, i9, iO, i10, i12, i11, hat, hlen]))
        refine vf_of (hA) ?_; (try (simp only [go_sem, Nat.reduceEqDiff, Nat.reduceAdd, Nat.reduceSub, Nat.reduceMul, Nat.reduceLeDiff, Nat.reduceLT, reduceIte, reduceCtorEq, Nat.succ_ne_zero, elemsC, Int.reduceToNat, Nat.reducePow, i0, i7, i9, iO, i10, i12, i11, hat, hlen])); repeat ((first | (simp (disch := (first | omega | (simp only [AL, List.length_map]; omega))) only [AR, AL, ifT, ifF, take_all, List.length_cons, List.length_nil, Int.reduceToNat, Int.reducePow, Nat.reducePow, i0, i7, i9, iO, i10, i12, i11, hat, hlen]) | (refine wk_intro (by kernel_rfl) ?_)); try (simp only [go_sem, Nat.reduceEqDiff, Nat.reduceAdd, Nat.reduceSub, Nat.reduceMul, Nat.reduceLeDiff, Nat.reduceLT, reduceIte, reduceCtorEq, Nat.succ_ne_zero, elemsC, Int.reduceToNat, Nat.reducePow, i0, i7, i9, iO, i10, i12, i11, hat, hlen]))
        refine vf_of (hM2) ?_; (try (simp only [go_sem, Nat.reduceEqDiff, Nat.reduceAdd, Nat.reduceSub, Nat.reduceMul, Nat.reduceLeDiff, Nat.reduceLT, reduceIte, reduceCtorEq, Nat.succ_ne_zero, elemsC, Int.reduceToNat, Nat.reducePow, i0, i7, i9, iO, i10, i12, i11])); repeat ((first | (simp (disch := (first | omega | (simp only [AL, List.length_map]; omega))) only [AR, AL, ifT, ifF, take_all, List.length_cons, List.length_nil, Int.reduceToNat, Int.reducePow, Nat.reducePow, i0, i7, i9, iO, i10, i12, i11]) | (refine wk_intro (by kernel_rfl) ?_)); try (simp only [go_sem, Nat.reduceEqDiff, Nat.reduceAdd, Nat.reduceSub, Nat.reduceMul, Nat.reduceLeDiff, Nat.reduceLT, reduceIte, reduceCtorEq, Nat.succ_ne_zero, elemsC, Int.reduceToNat, Nat.reducePow, i0, i7, i9, iO, i10, i12, i11]))
        refine vf_of (hC) ?_; (try (simp only [go_sem, Nat.reduceEqDiff, Nat.reduceAdd, Nat.reduceSub, Nat.reduceMul, Nat.reduceLeDiff, Nat.reduceLT, reduceIte, reduceCtorEq, Nat.succ_ne_zero, elemsC, Int.reduceToNat, Nat.reducePow, i0, i7, i9, iO, i10, i12, i11, ec])); repeat ((first | (simp (disch := (first | omega | (simp only [AL, List.length_map]; omega))) only [AR, AL, ifT, ifF, take_all, List.length_cons, List.length_nil, Int.reduceToNat, Int.reducePow, Nat.reducePow, i0, i7, i9, iO, i10, i12, i11, ec]) | (refine wk_intro (by kernel_rfl) ?_)); try (simp only [go_sem, Nat.reduceEqDiff, Nat.reduceAdd, Nat.reduceSub, Nat.reduceMul, Nat.reduceLeDiff, Nat.reduceLT, reduceIte, reduceCtorEq, Nat.succ_ne_zero, elemsC, Int.reduceToNat, Nat.reducePow, i0, i7, i9, iO, i10, i12, i11, ec]))
        exact ⟨⟨i + 1, rfl, by omega, hlo2, .inr rfl⟩, by omega⟩
theorem ref13_BinomCdf {v : SV} {x : Rat} {L : Nat} {n : Nat} {k : Int} (hv : RatA v x L) (hL : 1 ≤ L) (hL2 : L ≤ 100) (hn : n ≤ 256) (hx0 : 0 ≤ x) (hx1 : x ≤ 1) (hk : -9223372036854775808 ≤ k ∧ k < 9223372036854775808) :
    Go.Ev.Fn CX 12 [.int .i64 (n : Int), .int .i64 k, v] (.tup [rv (cdfB n k x), .bool true]) := by
  have hT := ref13_bad (n := (n : Int)) hv hL (by omega)
  have ht : tryD (n : Int) x = true := by
    unfold tryD
    rw [decide_eq_true (show (0 : Int) ≤ (n : Int) by omega), decide_eq_true (show (n : Int) ≤ 256 by omega), decide_eq_true hx0, decide_eq_true hx1]
    rfl
  rw [ht, Bool.not_true] at hT
  have r1 := ref2_Int 1 (by omega)
  have hP := ref13_parts hv hL hL2 hn
  obtain ⟨z1, z2⟩ := szR_of hv hL
  have hf := lim_len_mono (Nat.sub_le x.den x.num.natAbs)
  have sl := sum_lens (p := x.num.natAbs) (f := x.den - x.num.natAbs) (n := n) hn (by omega) (by omega)
  have tl := fun j (hj : j ≤ n) => term_len (p := x.num.natAbs) (f := x.den - x.num.natAbs) (n := n) hn (by omega) (by omega) j hj
  have dl := pow_lim_len x.den n
  have dl2 : (lim x.den).length * n ≤ 100 * 256 := Nat.mul_le_mul (by omega) hn
  have hlen := rows_len (termN x.num.natAbs (x.den - x.num.natAbs) n) (n + 1)
  obtain ⟨s, y, d, rfl, -⟩ := hv
  by_cases h2 : (n : Int) ≤ k
  · rw [show cdfB n k x = ((1 : Int) : Rat) by unfold cdfB; rw [if_neg (show ¬ k < 0 by omega), if_pos h2]; rfl]
    clear sl tl
    refine Go.Ev.Fn.intro (fn := Try.f12) (body := (Try.f12).body.get!) (by kernel_rfl) (by kernel_rfl) (by kernel_rfl) (fun _ => rfl) (Nat.le_of_ble_eq_true (by kernel_rfl)) ?_; unfold Try.f12; simp only [Option.get!_some]
    (try (simp only [go_sem, Nat.reduceEqDiff, Nat.reduceAdd, Nat.reduceSub, Nat.reduceMul, Nat.reduceLeDiff, Nat.reduceLT, reduceIte, reduceCtorEq, Nat.succ_ne_zero, elemsC, Int.reduceToNat, Nat.reducePow])); repeat ((first | (simp (disch := (first | omega | (simp only [AL, List.length_map]; omega))) only [AR, AL, ifT, ifF, take_all, List.length_cons, List.length_nil, Int.reduceToNat, Int.reducePow, Nat.reducePow]) | (refine wk_intro (by kernel_rfl) ?_)); try (simp only [go_sem, Nat.reduceEqDiff, Nat.reduceAdd, Nat.reduceSub, Nat.reduceMul, Nat.reduceLeDiff, Nat.reduceLT, reduceIte, reduceCtorEq, Nat.succ_ne_zero, elemsC, Int.reduceToNat, Nat.reducePow]))
    refine vf_of (hT) ?_; (try (simp only [go_sem, Nat.reduceEqDiff, Nat.reduceAdd, Nat.reduceSub, Nat.reduceMul, Nat.reduceLeDiff, Nat.reduceLT, reduceIte, reduceCtorEq, Nat.succ_ne_zero, elemsC, Int.reduceToNat, Nat.reducePow])); repeat ((first | (simp (disch := (first | omega | (simp only [AL, List.length_map]; omega))) only [AR, AL, ifT, ifF, take_all, List.length_cons, List.length_nil, Int.reduceToNat, Int.reducePow, Nat.reducePow]) | (refine wk_intro (by kernel_rfl) ?_)); try (simp only [go_sem, Nat.reduceEqDiff, Nat.reduceAdd, Nat.reduceSub, Nat.reduceMul, Nat.reduceLeDiff, Nat.reduceLT, reduceIte, reduceCtorEq, Nat.succ_ne_zero, elemsC, Int.reduceToNat, Nat.reducePow]))
    refine vf_of (r1) ?_; (try (simp only [go_sem, Nat.reduceEqDiff, Nat.reduceAdd, Nat.reduceSub, Nat.reduceMul, Nat.reduceLeDiff, Nat.reduceLT, reduceIte, reduceCtorEq, Nat.succ_ne_zero, elemsC, Int.reduceToNat, Nat.reducePow])); repeat ((first | (simp (disch := (first | omega | (simp only [AL, List.length_map]; omega))) only [AR, AL, ifT, ifF, take_all, List.length_cons, List.length_nil, Int.reduceToNat, Int.reducePow, Nat.reducePow]) | (refine wk_intro (by kernel_rfl) ?_)); try (simp only [go_sem, Nat.reduceEqDiff, Nat.reduceAdd, Nat.reduceSub, Nat.reduceMul, Nat.reduceLeDiff, Nat.reduceLT, reduceIte, reduceCtorEq, Nat.succ_ne_zero, elemsC, Int.reduceToNat, Nat.reducePow]))
  · obtain ⟨K, hK0, hK1, hc⟩ : ∃ K : Nat, K ≤ n ∧ (K : Int) = (if k < 0 then 0 else k + 1) ∧ cdfB n k x = mkRat (sumN x.num.natAbs (x.den - x.num.natAbs) n K : Nat) (x.den ^ n) := by
      by_cases h1 : k < 0
      · refine ⟨0, by omega, by rw [if_pos h1]; rfl, ?_⟩
        unfold cdfB
        rw [if_pos h1, show sumN x.num.natAbs (x.den - x.num.natAbs) n 0 = 0 from rfl]
        exact (Rat.zero_mkRat _).symm
      · refine ⟨k.toNat + 1, by omega, by rw [if_neg h1]; omega, ?_⟩
        unfold cdfB
        rw [if_neg h1, if_neg h2]
    rw [hc]
    have lK := sl K (by omega)
    have hOf := ref2_OfL (s := false) (n := sumN x.num.natAbs (x.den - x.num.natAbs) n K) (d := x.den ^ n) (by omega) (by omega)
    rw [show sgn false (sumN x.num.natAbs (x.den - x.num.natAbs) n K) = ((sumN x.num.natAbs (x.den - x.num.natAbs) n K : Nat) : Int) from rfl] at hOf
    have hall := fun j (hj : j < n) => rows_at (termN x.num.natAbs (x.den - x.num.natAbs) n) (i := n + 1) (j := j) (by omega)
    have hstep := fun j => (show sumN x.num.natAbs (x.den - x.num.natAbs) n (j + 1) = sumN x.num.natAbs (x.den - x.num.natAbs) n j + termN x.num.natAbs (x.den - x.num.natAbs) n j from rfl)
    have hzero : sumN x.num.natAbs (x.den - x.num.natAbs) n 0 = 0 := rfl
    generalize hTT : termN x.num.natAbs (x.den - x.num.natAbs) n = T at *
    generalize hS : sumN x.num.natAbs (x.den - x.num.natAbs) n = S at *
    generalize hDn : x.den ^ n = E at *
    have hk2 : (K = 0 ∧ k < 0) ∨ (0 ≤ k ∧ (K : Int) = k + 1) := by
      by_cases h1 : k < 0
      · rw [if_pos h1] at hK1; exact .inl ⟨by omega, h1⟩
      · rw [if_neg h1] at hK1; exact .inr ⟨by omega, hK1⟩
    clear hK1 hc
    refine Go.Ev.Fn.intro (fn := Try.f12) (body := (Try.f12).body.get!) (by kernel_rfl) (by kernel_rfl) (by kernel_rfl) (fun _ => rfl) (Nat.le_of_ble_eq_true (by kernel_rfl)) ?_; unfold Try.f12; simp only [Option.get!_some]
    (try (simp only [go_sem, Nat.reduceEqDiff, Nat.reduceAdd, Nat.reduceSub, Nat.reduceMul, Nat.reduceLeDiff, Nat.reduceLT, reduceIte, reduceCtorEq, Nat.succ_ne_zero, elemsC, Int.reduceToNat, Nat.reducePow])); repeat ((first | (simp (disch := (first | omega | (simp only [AL, List.length_map]; omega))) only [AR, AL, ifT, ifF, take_all, List.length_cons, List.length_nil, Int.reduceToNat, Int.reducePow, Nat.reducePow]) | (refine wk_intro (by kernel_rfl) ?_)); try (simp only [go_sem, Nat.reduceEqDiff, Nat.reduceAdd, Nat.reduceSub, Nat.reduceMul, Nat.reduceLeDiff, Nat.reduceLT, reduceIte, reduceCtorEq, Nat.succ_ne_zero, elemsC, Int.reduceToNat, Nat.reducePow]))
    refine vf_of (hT) ?_; (try (simp only [go_sem, Nat.reduceEqDiff, Nat.reduceAdd, Nat.reduceSub, Nat.reduceMul, Nat.reduceLeDiff, Nat.reduceLT, reduceIte, reduceCtorEq, Nat.succ_ne_zero, elemsC, Int.reduceToNat, Nat.reducePow])); repeat ((first | (simp (disch := (first | omega | (simp only [AL, List.length_map]; omega))) only [AR, AL, ifT, ifF, take_all, List.length_cons, List.length_nil, Int.reduceToNat, Int.reducePow, Nat.reducePow]) | (refine wk_intro (by kernel_rfl) ?_)); try (simp only [go_sem, Nat.reduceEqDiff, Nat.reduceAdd, Nat.reduceSub, Nat.reduceMul, Nat.reduceLeDiff, Nat.reduceLT, reduceIte, reduceCtorEq, Nat.succ_ne_zero, elemsC, Int.reduceToNat, Nat.reducePow]))
    refine vf_of (hP) ?_; (try (simp only [go_sem, Nat.reduceEqDiff, Nat.reduceAdd, Nat.reduceSub, Nat.reduceMul, Nat.reduceLeDiff, Nat.reduceLT, reduceIte, reduceCtorEq, Nat.succ_ne_zero, elemsC, Int.reduceToNat, Nat.reducePow])); repeat ((first | (simp (disch := (first | omega | (simp only [AL, List.length_map]; omega))) only [AR, AL, ifT, ifF, take_all, List.length_cons, List.length_nil, Int.reduceToNat, Int.reducePow, Nat.reducePow]) | (refine wk_intro (by kernel_rfl) ?_)); try (simp only [go_sem, Nat.reduceEqDiff, Nat.reduceAdd, Nat.reduceSub, Nat.reduceMul, Nat.reduceLeDiff, Nat.reduceLT, reduceIte, reduceCtorEq, Nat.succ_ne_zero, elemsC, Int.reduceToNat, Nat.reducePow]))
    refine vp_loop_inv (fun s => s.tmp 0 = .sv (.int .i64 (n : Int)) ∧ s.tmp 1 = .sv (.int .i64 k) ∧ s.tmp 6 = .ptr 6 0 0 ∧ s.obj 6 0 = some [.bool false, .sl 0 [], .sl 0 []] ∧ s.tmp 8 = .sv (.sl (n + 1) (rowsC T (n + 1))) ∧ s.tmp 9 = .sv (natV (lim E)) ∧
        ∃ i : Nat, s.tmp 11 = .sv (.int .i64 (i : Int)) ∧ i ≤ K ∧ ((i = 0 ∧ s.tmp 10 = .nil) ∨ s.tmp 10 = .sv (natV (lim (S i)))))
      (fun s => match s.tmp 11 with | .sv (.int _ i) => K - i.toNat | _ => 0) ⟨rfl, rfl, rfl, rfl, rfl, rfl, 0, rfl, by omega, .inl ⟨rfl, rfl⟩⟩ ?_
    rintro s2 ⟨i0, i1, i6, iR, i8, i9, i, i11, hi, h10⟩
    by_cases hend : i = K
    · subst hend
      clear hall hstep sl tl
      rcases h10 with ⟨h0, i10⟩ | i10
      · rw [h0, hzero, lim_zero] at hOf
        rw [h0, hzero]
        (try (simp only [go_sem, Nat.reduceEqDiff, Nat.reduceAdd, Nat.reduceSub, Nat.reduceMul, Nat.reduceLeDiff, Nat.reduceLT, reduceIte, reduceCtorEq, Nat.succ_ne_zero, elemsC, Int.reduceToNat, Nat.reducePow, i0, i1, i6, iR, i8, i9, i11, i10])); repeat ((first | (simp (disch := (first | omega | (simp only [AL, List.length_map]; omega))) only [AR, AL, ifT, ifF, take_all, List.length_cons, List.length_nil, Int.reduceToNat, Int.reducePow, Nat.reducePow, i0, i1, i6, iR, i8, i9, i11, i10]) | (refine wk_intro (by kernel_rfl) ?_)); try (simp only [go_sem, Nat.reduceEqDiff, Nat.reduceAdd, Nat.reduceSub, Nat.reduceMul, Nat.reduceLeDiff, Nat.reduceLT, reduceIte, reduceCtorEq, Nat.succ_ne_zero, elemsC, Int.reduceToNat, Nat.reducePow, i0, i1, i6, iR, i8, i9, i11, i10]))
        refine vf_of (hOf) ?_; (try (simp only [go_sem, Nat.reduceEqDiff, Nat.reduceAdd, Nat.reduceSub, Nat.reduceMul, Nat.reduceLeDiff, Nat.reduceLT, reduceIte, reduceCtorEq, Nat.succ_ne_zero, elemsC, Int.reduceToNat, Nat.reducePow, i0, i1, i6, iR, i8, i9, i11, i10])); repeat ((first | (simp (disch := (first | omega | (simp only [AL, List.length_map]; omega))) only [AR, AL, ifT, ifF, take_all, List.length_cons, List.length_nil, Int.reduceToNat, Int.reducePow, Nat.reducePow, i0, i1, i6, iR, i8, i9, i11, i10]) | (refine wk_intro (by kernel_rfl) ?_)); try (simp only [go_sem, Nat.reduceEqDiff, Nat.reduceAdd, Nat.reduceSub, Nat.reduceMul, Nat.reduceLeDiff, Nat.reduceLT, reduceIte, reduceCtorEq, Nat.succ_ne_zero, elemsC, Int.reduceToNat, Nat.reducePow, i0, i1, i6, iR, i8, i9, i11, i10]))
      · (try (simp only [go_sem, Nat.reduceEqDiff, Nat.reduceAdd, Nat.reduceSub, Nat.reduceMul, Nat.reduceLeDiff, Nat.reduceLT, reduceIte, reduceCtorEq, Nat.succ_ne_zero, elemsC, Int.reduceToNat, Nat.reducePow, i0, i1, i6, iR, i8, i9, i11, i10])); repeat ((first | (simp (disch := (first | omega | (simp only [AL, List.length_map]; omega))) only [AR, AL, ifT, ifF, take_all, List.length_cons, List.length_nil, Int.reduceToNat, Int.reducePow, Nat.reducePow, i0, i1, i6, iR, i8, i9, i11, i10]) | (refine wk_intro (by kernel_rfl) ?_)); try (simp only [go_sem, Nat.reduceEqDiff, Nat.reduceAdd, Nat.reduceSub, Nat.reduceMul, Nat.reduceLeDiff, Nat.reduceLT, reduceIte, reduceCtorEq, Nat.succ_ne_zero, elemsC, Int.reduceToNat, Nat.reducePow, i0, i1, i6, iR, i8, i9, i11, i10]))
        refine vf_of (hOf) ?_; (try (simp only [go_sem, Nat.reduceEqDiff, Nat.reduceAdd, Nat.reduceSub, Nat.reduceMul, Nat.reduceLeDiff, Nat.reduceLT, reduceIte, reduceCtorEq, Nat.succ_ne_zero, elemsC, Int.reduceToNat, Nat.reducePow, i0, i1, i6, iR, i8, i9, i11, i10])); repeat ((first | (simp (disch := (first | omega | (simp only [AL, List.length_map]; omega))) only [AR, AL, ifT, ifF, take_all, List.length_cons, List.length_nil, Int.reduceToNat, Int.reducePow, Nat.reducePow, i0, i1, i6, iR, i8, i9, i11, i10]) | (refine wk_intro (by kernel_rfl) ?_)); try (simp only [go_sem, Nat.reduceEqDiff, Nat.reduceAdd, Nat.reduceSub, Nat.reduceMul, Nat.reduceLeDiff, Nat.reduceLT, reduceIte, reduceCtorEq, Nat.succ_ne_zero, elemsC, Int.reduceToNat, Nat.reducePow, i0, i1, i6, iR, i8, i9, i11, i10]))
    · have hik : (i : Int) ≤ k := by omega
      have hat := hall i (by omega)
      have lS := sl i (by omega)
      have lT := tl i (by omega)
      have hA := ref1_AddL (N := S i) (D := T i) (by omega) (by omega)
      rw [← hstep] at hA
      clear hall hstep sl tl hOf
      rcases h10 with ⟨h0, i10⟩ | i10
      · subst h0
        rw [hzero, lim_zero] at hA
        rw [List.drop_zero] at hat
        (try (simp only [go_sem, Nat.reduceEqDiff, Nat.reduceAdd, Nat.reduceSub, Nat.reduceMul, Nat.reduceLeDiff, Nat.reduceLT, reduceIte, reduceCtorEq, Nat.succ_ne_zero, elemsC, Int.reduceToNat, Nat.reducePow, i0, i1, i6, iR, i8, i9, i11, i10, hat, hlen])); repeat ((first | (simp (disch := (first | omega | (simp only [AL, List.length_map]; omega))) only [AR, AL, ifT, ifF, take_all, List.length_cons, List.length_nil, Int.reduceToNat, Int.reducePow, Nat.reducePow, i0, i1, i6, iR, i8, i9, i11, i10, hat, hlen]) | (refine wk_intro (by kernel_rfl) ?_)); try (simp only [go_sem, Nat.reduceEqDiff, Nat.reduceAdd, Nat.reduceSub, Nat.reduceMul, Nat.reduceLeDiff, Nat.reduceLT, reduceIte, reduceCtorEq, Nat.succ_ne_zero, elemsC, Int.reduceToNat, Nat.reducePow, i0, i1, i6, iR, i8, i9, i11, i10, hat, hlen]))
        refine vf_of (hA) ?_; (try (simp only [go_sem, Nat.reduceEqDiff, Nat.reduceAdd, Nat.reduceSub, Nat.reduceMul, Nat.reduceLeDiff, Nat.reduceLT, reduceIte, reduceCtorEq, Nat.succ_ne_zero, elemsC, Int.reduceToNat, Nat.reducePow, i0, i1, i6, iR, i8, i9, i11, i10, hat, hlen])); repeat ((first | (simp (disch := (first | omega | (simp only [AL, List.length_map]; omega))) only [AR, AL, ifT, ifF, take_all, List.length_cons, List.length_nil, Int.reduceToNat, Int.reducePow, Nat.reducePow, i0, i1, i6, iR, i8, i9, i11, i10, hat, hlen]) | (refine wk_intro (by kernel_rfl) ?_)); try (simp only [go_sem, Nat.reduceEqDiff, Nat.reduceAdd, Nat.reduceSub, Nat.reduceMul, Nat.reduceLeDiff, Nat.reduceLT, reduceIte, reduceCtorEq, Nat.succ_ne_zero, elemsC, Int.reduceToNat, Nat.reducePow, i0, i1, i6, iR, i8, i9, i11, i10, hat, hlen]))
        exact ⟨⟨1, rfl, by omega, .inr rfl⟩, by omega⟩
      · (try (simp only [go_sem, Nat.reduceEqDiff, Nat.reduceAdd, Nat.reduceSub, Nat.reduceMul, Nat.reduceLeDiff, Nat.reduceLT, reduceIte, reduceCtorEq, Nat.succ_ne_zero, elemsC, Int.reduceToNat, Nat.reducePow, i0, i1, i6, iR, i8, i9, i11, i10, hat, hlen])); repeat ((first | (simp (disch := (first | omega | (simp only [AL, List.length_map]; omega))) only [AR, AL, ifT, ifF, take_all, List.length_cons, List.length_nil, Int.reduceToNat, Int.reducePow, Nat.reducePow, i0, i1, i6, iR, i8, i9, i11, i10, hat, hlen]) | (refine wk_intro (by kernel_rfl) ?_)); try (simp only [go_sem, Nat.reduceEqDiff, Nat.reduceAdd, Nat.reduceSub, Nat.reduceMul, Nat.reduceLeDiff, Nat.reduceLT, reduceIte, reduceCtorEq, Nat.succ_ne_zero, elemsC, Int.reduceToNat, Nat.reducePow, i0, i1, i6, iR, i8, i9, i11, i10, hat, hlen]))
        refine vf_of (hA) ?_; (try (simp only [go_sem, Nat.reduceEqDiff, Nat.reduceAdd, Nat.reduceSub, Nat.reduceMul, Nat.reduceLeDiff, Nat.reduceLT, reduceIte, reduceCtorEq, Nat.succ_ne_zero, elemsC, Int.reduceToNat, Nat.reducePow, i0, i1, i6, iR, i8, i9, i11, i10, hat, hlen])); repeat ((first | (simp (disch := (first | omega | (simp only [AL, List.length_map]; omega))) only [AR, AL, ifT, ifF, take_all, List.length_cons, List.length_nil, Int.reduceToNat, Int.reducePow, Nat.reducePow, i0, i1, i6, iR, i8, i9, i11, i10, hat, hlen]) | (refine wk_intro (by kernel_rfl) ?_)); try (simp only [go_sem, Nat.reduceEqDiff, Nat.reduceAdd, Nat.reduceSub, Nat.reduceMul, Nat.reduceLeDiff, Nat.reduceLT, reduceIte, reduceCtorEq, Nat.succ_ne_zero, elemsC, Int.reduceToNat, Nat.reducePow, i0, i1, i6, iR, i8, i9, i11, i10, hat, hlen]))
        exact ⟨⟨i + 1, rfl, by omega, .inr rfl⟩, by omega⟩
end Go.Proofs.Ytdnmhnjblgkjaaa

/- A distribution's shape. -/
set_option maxRecDepth 8000
namespace Go.Proofs.Ytdnmhnjblgkjaaa
open Go.Ev
theorem ts_dist : fieldTs Try.prog 26 = [3, 3, 3, 24, 24] := by kernel_rfl
theorem shp_dist {l : Nat} {ss : List SV} (h : ShpT Try.prog (l + 4) 26 ss) : ∃ k n m sa na da sb nb db, SV.agg ss = distV k n m sa na da sb nb db ∧ (Lit.int .i64 k).wf = true ∧ (Lit.int .i64 n).wf = true ∧ (Lit.int .i64 m).wf = true ∧ okL na ∧ okL da ∧ okL nb ∧ okL db := by
  obtain ⟨parts, rfl, hl, hp⟩ := shp_struct ts_dist (by simp) h
  obtain ⟨a, b, c, d, e, rfl⟩ := len_five hl
  obtain ⟨k, rfl, w0⟩ := shp_int (hp 0 _ a rfl rfl)
  obtain ⟨n, rfl, w1⟩ := shp_int (hp 1 _ b rfl rfl)
  obtain ⟨m, rfl, w2⟩ := shp_int (hp 2 _ c rfl rfl)
  obtain ⟨sa, na, da, rfl, h1, h2, -, -⟩ := shp_rat (hp 3 _ d rfl rfl)
  obtain ⟨sb, nb, db, rfl, h3, h4, -, -⟩ := shp_rat (hp 4 _ e rfl rfl)
  exact ⟨k, n, m, sa, na, da, sb, nb, db, rfl, w0, w1, w2, h1, h2, h3, h4⟩
theorem wf_int64 {n : Int} (h : (Lit.int .i64 n).wf = true) : -9223372036854775808 ≤ n ∧ n < 9223372036854775808 := by
  have h' : decide (IntKind.i64.min ≤ n ∧ n ≤ IntKind.i64.max) = true := by simpa [Lit.wf] using h
  have := of_decide_eq_true h'
  simp only [show IntKind.i64.min = -9223372036854775808 from rfl, show IntKind.i64.max = 9223372036854775807 from rfl] at this
  omega
end Go.Proofs.Ytdnmhnjblgkjaaa
