/- Part 8 of the proof: the evaluator, contracts of functions and their plain laws (joined by program). No condition. -/
import Derived.Test.YtdnmhnjblgkjaaaPart7
/- disc.isTry, power; fix.Less, Over; disc.tries, sum, in the evaluator. -/
namespace Go.Proofs.Ytdnmhnjblgkjaaa
set_option linter.unusedSimpArgs false
set_option linter.unusedVariables false
set_option maxRecDepth 8000
open Go.Ev
theorem fix_Less {N D : Nat} (hl : (lim N).length ≤ 536870912) (hm : (lim D).length ≤ 536870912) : Go.Ev.Fn CX 75 [natV (lim N), natV (lim D)] (natV (lim (N - D))) := by
  have h := nat_SubL hl hm
  refine Go.Ev.Fn.intro (fn := Try.f75) (body := (Try.f75).body.get!) (by kernel_rfl) (by kernel_rfl) (by kernel_rfl) (fun _ => rfl) (Nat.le_of_ble_eq_true (by kernel_rfl)) ?_; unfold Try.f75; simp only [Option.get!_some]
  (try (simp only [go_sem, Nat.reduceEqDiff, Nat.reduceAdd, Nat.reduceSub, Nat.reduceMul, Nat.reduceLeDiff, Nat.reduceLT, reduceIte, reduceCtorEq, Nat.succ_ne_zero, elemsC, Int.reduceToNat, Nat.reducePow])); repeat ((first | (simp (disch := (first | omega | (simp only [AL, List.length_map]; omega))) only [AR, AL, ifT, ifF, take_all, List.length_cons, List.length_nil, Int.reduceToNat, Int.reducePow, Nat.reducePow]) | (refine wk_intro (by kernel_rfl) ?_)); try (simp only [go_sem, Nat.reduceEqDiff, Nat.reduceAdd, Nat.reduceSub, Nat.reduceMul, Nat.reduceLeDiff, Nat.reduceLT, reduceIte, reduceCtorEq, Nat.succ_ne_zero, elemsC, Int.reduceToNat, Nat.reducePow]))
  refine vf_of (h) ?_; (try (simp only [go_sem, Nat.reduceEqDiff, Nat.reduceAdd, Nat.reduceSub, Nat.reduceMul, Nat.reduceLeDiff, Nat.reduceLT, reduceIte, reduceCtorEq, Nat.succ_ne_zero, elemsC, Int.reduceToNat, Nat.reducePow])); repeat ((first | (simp (disch := (first | omega | (simp only [AL, List.length_map]; omega))) only [AR, AL, ifT, ifF, take_all, List.length_cons, List.length_nil, Int.reduceToNat, Int.reducePow, Nat.reducePow]) | (refine wk_intro (by kernel_rfl) ?_)); try (simp only [go_sem, Nat.reduceEqDiff, Nat.reduceAdd, Nat.reduceSub, Nat.reduceMul, Nat.reduceLeDiff, Nat.reduceLT, reduceIte, reduceCtorEq, Nat.succ_ne_zero, elemsC, Int.reduceToNat, Nat.reducePow]))
theorem fix_Over {N D : Nat} (hD : D ≠ 0) (hl : (lim N).length ≤ 536870912) (hm : (lim D).length ≤ 536870912) : Go.Ev.Fn CX 77 [natV (lim N), natV (lim D)] (natV (lim (N / D))) := by
  have h := nat_DivL hD hl hm
  refine Go.Ev.Fn.intro (fn := Try.f77) (body := (Try.f77).body.get!) (by kernel_rfl) (by kernel_rfl) (by kernel_rfl) (fun _ => rfl) (Nat.le_of_ble_eq_true (by kernel_rfl)) ?_; unfold Try.f77; simp only [Option.get!_some]
  (try (simp only [go_sem, Nat.reduceEqDiff, Nat.reduceAdd, Nat.reduceSub, Nat.reduceMul, Nat.reduceLeDiff, Nat.reduceLT, reduceIte, reduceCtorEq, Nat.succ_ne_zero, elemsC, Int.reduceToNat, Nat.reducePow])); repeat ((first | (simp (disch := (first | omega | (simp only [AL, List.length_map]; omega))) only [AR, AL, ifT, ifF, take_all, List.length_cons, List.length_nil, Int.reduceToNat, Int.reducePow, Nat.reducePow]) | (refine wk_intro (by kernel_rfl) ?_)); try (simp only [go_sem, Nat.reduceEqDiff, Nat.reduceAdd, Nat.reduceSub, Nat.reduceMul, Nat.reduceLeDiff, Nat.reduceLT, reduceIte, reduceCtorEq, Nat.succ_ne_zero, elemsC, Int.reduceToNat, Nat.reducePow]))
  refine vf_of (h) ?_; (try (simp only [go_sem, Nat.reduceEqDiff, Nat.reduceAdd, Nat.reduceSub, Nat.reduceMul, Nat.reduceLeDiff, Nat.reduceLT, reduceIte, reduceCtorEq, Nat.succ_ne_zero, elemsC, Int.reduceToNat, Nat.reducePow])); repeat ((first | (simp (disch := (first | omega | (simp only [AL, List.length_map]; omega))) only [AR, AL, ifT, ifF, take_all, List.length_cons, List.length_nil, Int.reduceToNat, Int.reducePow, Nat.reducePow]) | (refine wk_intro (by kernel_rfl) ?_)); try (simp only [go_sem, Nat.reduceEqDiff, Nat.reduceAdd, Nat.reduceSub, Nat.reduceMul, Nat.reduceLeDiff, Nat.reduceLT, reduceIte, reduceCtorEq, Nat.succ_ne_zero, elemsC, Int.reduceToNat, Nat.reducePow]))
/-- May tries be asked? -/
def tryD (n : Int) (x : Rat) : Bool := decide (0 ≤ n) && (decide (n ≤ 256) && (decide (0 ≤ x) && decide (x ≤ 1)))
theorem disc_isTry {v : SV} {x : Rat} {L : Nat} {n : Int} (hv : RatA v x L) (hL : 1 ≤ L) (h : L ≤ 1048576) : Go.Ev.Fn CX 47 [.int .i64 n, v] (.bool (tryD n x)) := by
  have r0 := rat_Int 0 (by omega)
  have r1 := rat_Int 1 (by omega)
  have c0 := rat_Cmp hv (RatA_rv (int_szR (n := 0) (by omega))) hL (by omega) (by omega)
  have c1 := rat_Cmp hv (RatA_rv (int_szR (n := 1) (by omega))) hL (by omega) (by omega)
  have e0 : decide (cmpR x ((0 : Int) : Rat) ≥ 0) = decide (0 ≤ x) := cmpR_ge
  have e1 : decide (cmpR x ((1 : Int) : Rat) ≤ 0) = decide (x ≤ 1) := cmpR_le
  unfold tryD
  obtain ⟨s, y, d, rfl, -⟩ := hv
  refine Go.Ev.Fn.intro (fn := Try.f47) (body := (Try.f47).body.get!) (by kernel_rfl) (by kernel_rfl) (by kernel_rfl) (fun _ => rfl) (Nat.le_of_ble_eq_true (by kernel_rfl)) ?_; unfold Try.f47; simp only [Option.get!_some]
  by_cases h1 : 0 ≤ n
  · rw [decide_eq_true h1, Bool.true_and]
    by_cases h2 : n ≤ 256
    · rw [decide_eq_true h2, Bool.true_and]
      generalize decide (0 ≤ x) = b at *
      cases b
      · rw [Bool.false_and]
        (try (simp only [go_sem, Nat.reduceEqDiff, Nat.reduceAdd, Nat.reduceSub, Nat.reduceMul, Nat.reduceLeDiff, Nat.reduceLT, reduceIte, reduceCtorEq, Nat.succ_ne_zero, elemsC, Int.reduceToNat, Nat.reducePow])); repeat ((first | (simp (disch := (first | omega | (simp only [AL, List.length_map]; omega))) only [AR, AL, ifT, ifF, take_all, List.length_cons, List.length_nil, Int.reduceToNat, Int.reducePow, Nat.reducePow]) | (refine wk_intro (by kernel_rfl) ?_) | (refine vp_draw (id := 1) (l := []) (by kernel_rfl) ?_)); try (simp only [go_sem, Nat.reduceEqDiff, Nat.reduceAdd, Nat.reduceSub, Nat.reduceMul, Nat.reduceLeDiff, Nat.reduceLT, reduceIte, reduceCtorEq, Nat.succ_ne_zero, elemsC, Int.reduceToNat, Nat.reducePow]))
        refine vf_of (r0) ?_; (try (simp only [go_sem, Nat.reduceEqDiff, Nat.reduceAdd, Nat.reduceSub, Nat.reduceMul, Nat.reduceLeDiff, Nat.reduceLT, reduceIte, reduceCtorEq, Nat.succ_ne_zero, elemsC, Int.reduceToNat, Nat.reducePow])); repeat ((first | (simp (disch := (first | omega | (simp only [AL, List.length_map]; omega))) only [AR, AL, ifT, ifF, take_all, List.length_cons, List.length_nil, Int.reduceToNat, Int.reducePow, Nat.reducePow]) | (refine wk_intro (by kernel_rfl) ?_) | (refine vp_draw (id := 1) (l := []) (by kernel_rfl) ?_)); try (simp only [go_sem, Nat.reduceEqDiff, Nat.reduceAdd, Nat.reduceSub, Nat.reduceMul, Nat.reduceLeDiff, Nat.reduceLT, reduceIte, reduceCtorEq, Nat.succ_ne_zero, elemsC, Int.reduceToNat, Nat.reducePow]))
        refine vf_of (c0) ?_; (try (simp only [go_sem, Nat.reduceEqDiff, Nat.reduceAdd, Nat.reduceSub, Nat.reduceMul, Nat.reduceLeDiff, Nat.reduceLT, reduceIte, reduceCtorEq, Nat.succ_ne_zero, elemsC, Int.reduceToNat, Nat.reducePow, e0])); repeat ((first | (simp (disch := (first | omega | (simp only [AL, List.length_map]; omega))) only [AR, AL, ifT, ifF, take_all, List.length_cons, List.length_nil, Int.reduceToNat, Int.reducePow, Nat.reducePow, e0]) | (refine wk_intro (by kernel_rfl) ?_) | (refine vp_draw (id := 1) (l := []) (by kernel_rfl) ?_)); try (simp only [go_sem, Nat.reduceEqDiff, Nat.reduceAdd, Nat.reduceSub, Nat.reduceMul, Nat.reduceLeDiff, Nat.reduceLT, reduceIte, reduceCtorEq, Nat.succ_ne_zero, elemsC, Int.reduceToNat, Nat.reducePow, e0]))
      · rw [Bool.true_and]
        (try (simp only [go_sem, Nat.reduceEqDiff, Nat.reduceAdd, Nat.reduceSub, Nat.reduceMul, Nat.reduceLeDiff, Nat.reduceLT, reduceIte, reduceCtorEq, Nat.succ_ne_zero, elemsC, Int.reduceToNat, Nat.reducePow])); repeat ((first | (simp (disch := (first | omega | (simp only [AL, List.length_map]; omega))) only [AR, AL, ifT, ifF, take_all, List.length_cons, List.length_nil, Int.reduceToNat, Int.reducePow, Nat.reducePow]) | (refine wk_intro (by kernel_rfl) ?_) | (refine vp_draw (id := 1) (l := []) (by kernel_rfl) ?_)); try (simp only [go_sem, Nat.reduceEqDiff, Nat.reduceAdd, Nat.reduceSub, Nat.reduceMul, Nat.reduceLeDiff, Nat.reduceLT, reduceIte, reduceCtorEq, Nat.succ_ne_zero, elemsC, Int.reduceToNat, Nat.reducePow]))
        refine vf_of (r0) ?_; (try (simp only [go_sem, Nat.reduceEqDiff, Nat.reduceAdd, Nat.reduceSub, Nat.reduceMul, Nat.reduceLeDiff, Nat.reduceLT, reduceIte, reduceCtorEq, Nat.succ_ne_zero, elemsC, Int.reduceToNat, Nat.reducePow])); repeat ((first | (simp (disch := (first | omega | (simp only [AL, List.length_map]; omega))) only [AR, AL, ifT, ifF, take_all, List.length_cons, List.length_nil, Int.reduceToNat, Int.reducePow, Nat.reducePow]) | (refine wk_intro (by kernel_rfl) ?_) | (refine vp_draw (id := 1) (l := []) (by kernel_rfl) ?_)); try (simp only [go_sem, Nat.reduceEqDiff, Nat.reduceAdd, Nat.reduceSub, Nat.reduceMul, Nat.reduceLeDiff, Nat.reduceLT, reduceIte, reduceCtorEq, Nat.succ_ne_zero, elemsC, Int.reduceToNat, Nat.reducePow]))
        refine vf_of (c0) ?_; (try (simp only [go_sem, Nat.reduceEqDiff, Nat.reduceAdd, Nat.reduceSub, Nat.reduceMul, Nat.reduceLeDiff, Nat.reduceLT, reduceIte, reduceCtorEq, Nat.succ_ne_zero, elemsC, Int.reduceToNat, Nat.reducePow, e0])); repeat ((first | (simp (disch := (first | omega | (simp only [AL, List.length_map]; omega))) only [AR, AL, ifT, ifF, take_all, List.length_cons, List.length_nil, Int.reduceToNat, Int.reducePow, Nat.reducePow, e0]) | (refine wk_intro (by kernel_rfl) ?_) | (refine vp_draw (id := 1) (l := []) (by kernel_rfl) ?_)); try (simp only [go_sem, Nat.reduceEqDiff, Nat.reduceAdd, Nat.reduceSub, Nat.reduceMul, Nat.reduceLeDiff, Nat.reduceLT, reduceIte, reduceCtorEq, Nat.succ_ne_zero, elemsC, Int.reduceToNat, Nat.reducePow, e0]))
        refine vf_of (r1) ?_; (try (simp only [go_sem, Nat.reduceEqDiff, Nat.reduceAdd, Nat.reduceSub, Nat.reduceMul, Nat.reduceLeDiff, Nat.reduceLT, reduceIte, reduceCtorEq, Nat.succ_ne_zero, elemsC, Int.reduceToNat, Nat.reducePow])); repeat ((first | (simp (disch := (first | omega | (simp only [AL, List.length_map]; omega))) only [AR, AL, ifT, ifF, take_all, List.length_cons, List.length_nil, Int.reduceToNat, Int.reducePow, Nat.reducePow]) | (refine wk_intro (by kernel_rfl) ?_) | (refine vp_draw (id := 1) (l := []) (by kernel_rfl) ?_)); try (simp only [go_sem, Nat.reduceEqDiff, Nat.reduceAdd, Nat.reduceSub, Nat.reduceMul, Nat.reduceLeDiff, Nat.reduceLT, reduceIte, reduceCtorEq, Nat.succ_ne_zero, elemsC, Int.reduceToNat, Nat.reducePow]))
        refine vf_of (c1) ?_; (try (simp only [go_sem, Nat.reduceEqDiff, Nat.reduceAdd, Nat.reduceSub, Nat.reduceMul, Nat.reduceLeDiff, Nat.reduceLT, reduceIte, reduceCtorEq, Nat.succ_ne_zero, elemsC, Int.reduceToNat, Nat.reducePow, e1])); repeat ((first | (simp (disch := (first | omega | (simp only [AL, List.length_map]; omega))) only [AR, AL, ifT, ifF, take_all, List.length_cons, List.length_nil, Int.reduceToNat, Int.reducePow, Nat.reducePow, e1]) | (refine wk_intro (by kernel_rfl) ?_) | (refine vp_draw (id := 1) (l := []) (by kernel_rfl) ?_)); try (simp only [go_sem, Nat.reduceEqDiff, Nat.reduceAdd, Nat.reduceSub, Nat.reduceMul, Nat.reduceLeDiff, Nat.reduceLT, reduceIte, reduceCtorEq, Nat.succ_ne_zero, elemsC, Int.reduceToNat, Nat.reducePow, e1]))
    · rw [decide_eq_false h2, Bool.false_and]
      (try (simp only [go_sem, Nat.reduceEqDiff, Nat.reduceAdd, Nat.reduceSub, Nat.reduceMul, Nat.reduceLeDiff, Nat.reduceLT, reduceIte, reduceCtorEq, Nat.succ_ne_zero, elemsC, Int.reduceToNat, Nat.reducePow])); repeat ((first | (simp (disch := (first | omega | (simp only [AL, List.length_map]; omega))) only [AR, AL, ifT, ifF, take_all, List.length_cons, List.length_nil, Int.reduceToNat, Int.reducePow, Nat.reducePow]) | (refine wk_intro (by kernel_rfl) ?_) | (refine vp_draw (id := 1) (l := []) (by kernel_rfl) ?_)); try (simp only [go_sem, Nat.reduceEqDiff, Nat.reduceAdd, Nat.reduceSub, Nat.reduceMul, Nat.reduceLeDiff, Nat.reduceLT, reduceIte, reduceCtorEq, Nat.succ_ne_zero, elemsC, Int.reduceToNat, Nat.reducePow]))
  · rw [decide_eq_false h1, Bool.false_and]
    (try (simp only [go_sem, Nat.reduceEqDiff, Nat.reduceAdd, Nat.reduceSub, Nat.reduceMul, Nat.reduceLeDiff, Nat.reduceLT, reduceIte, reduceCtorEq, Nat.succ_ne_zero, elemsC, Int.reduceToNat, Nat.reducePow])); repeat ((first | (simp (disch := (first | omega | (simp only [AL, List.length_map]; omega))) only [AR, AL, ifT, ifF, take_all, List.length_cons, List.length_nil, Int.reduceToNat, Int.reducePow, Nat.reducePow]) | (refine wk_intro (by kernel_rfl) ?_) | (refine vp_draw (id := 1) (l := []) (by kernel_rfl) ?_)); try (simp only [go_sem, Nat.reduceEqDiff, Nat.reduceAdd, Nat.reduceSub, Nat.reduceMul, Nat.reduceLeDiff, Nat.reduceLT, reduceIte, reduceCtorEq, Nat.succ_ne_zero, elemsC, Int.reduceToNat, Nat.reducePow]))
theorem pow_lim_len (x n : Nat) : (lim (x ^ n)).length ≤ (lim x).length * n + 1 := by
  induction n with
  | zero => rw [Nat.pow_zero]; have := lim_len_one (a := 1) (by decide); omega
  | succ n ih =>
    have := lim_len_mul (a := x ^ n) (b := x)
    rw [Nat.pow_succ, Nat.mul_succ]
    omega
theorem disc_power (x : Nat) (n : Nat) (hn : n ≤ 256) (hx : (lim x).length ≤ 1000) : Go.Ev.Fn CX 73 [natV (lim x), .int .i64 (n : Int)] (natV (lim (x ^ n))) := by
  have o1 := nat_Of 1 (by omega)
  refine Go.Ev.Fn.intro (fn := Try.f73) (body := (Try.f73).body.get!) (by kernel_rfl) (by kernel_rfl) (by kernel_rfl) (fun _ => rfl) (Nat.le_of_ble_eq_true (by kernel_rfl)) ?_; unfold Try.f73; simp only [Option.get!_some]
  (try (simp only [go_sem, Nat.reduceEqDiff, Nat.reduceAdd, Nat.reduceSub, Nat.reduceMul, Nat.reduceLeDiff, Nat.reduceLT, reduceIte, reduceCtorEq, Nat.succ_ne_zero, elemsC, Int.reduceToNat, Nat.reducePow])); repeat ((first | (simp (disch := (first | omega | (simp only [AL, List.length_map]; omega))) only [AR, AL, ifT, ifF, take_all, List.length_cons, List.length_nil, Int.reduceToNat, Int.reducePow, Nat.reducePow]) | (refine wk_intro (by kernel_rfl) ?_)); try (simp only [go_sem, Nat.reduceEqDiff, Nat.reduceAdd, Nat.reduceSub, Nat.reduceMul, Nat.reduceLeDiff, Nat.reduceLT, reduceIte, reduceCtorEq, Nat.succ_ne_zero, elemsC, Int.reduceToNat, Nat.reducePow]))
  refine vf_of (o1) ?_; (try (simp only [go_sem, Nat.reduceEqDiff, Nat.reduceAdd, Nat.reduceSub, Nat.reduceMul, Nat.reduceLeDiff, Nat.reduceLT, reduceIte, reduceCtorEq, Nat.succ_ne_zero, elemsC, Int.reduceToNat, Nat.reducePow])); repeat ((first | (simp (disch := (first | omega | (simp only [AL, List.length_map]; omega))) only [AR, AL, ifT, ifF, take_all, List.length_cons, List.length_nil, Int.reduceToNat, Int.reducePow, Nat.reducePow]) | (refine wk_intro (by kernel_rfl) ?_)); try (simp only [go_sem, Nat.reduceEqDiff, Nat.reduceAdd, Nat.reduceSub, Nat.reduceMul, Nat.reduceLeDiff, Nat.reduceLT, reduceIte, reduceCtorEq, Nat.succ_ne_zero, elemsC, Int.reduceToNat, Nat.reducePow]))
  refine vp_loop_inv (fun s => ∃ e A N : Nat, s.tmp 0 = .sv (natV (lim (x ^ e))) ∧ s.tmp 1 = .sv (.int .i64 (N : Int)) ∧ s.tmp 5 = .sv (natV (lim (x ^ A))) ∧ A + e * N = n ∧ (N = 0 ∨ e ≤ n) ∧ e ≤ 512 ∧ 1 ≤ e)
    (fun s => match s.tmp 1 with | .sv (.int _ n) => n.toNat | _ => 0) ⟨1, 0, n, by rw [Nat.pow_one]; rfl, rfl, by rw [Nat.pow_zero]; rfl, by omega, by omega, by omega, by omega⟩ ?_
  rintro s ⟨e, A, N, i0, i1, i5, hs, he, he2, he1⟩
  rcases Nat.eq_zero_or_pos N with rfl | h0
  · rw [show A = n by omega] at i5
    (try (simp only [go_sem, Nat.reduceEqDiff, Nat.reduceAdd, Nat.reduceSub, Nat.reduceMul, Nat.reduceLeDiff, Nat.reduceLT, reduceIte, reduceCtorEq, Nat.succ_ne_zero, elemsC, Int.reduceToNat, Nat.reducePow, i0, i1, i5])); repeat ((first | (simp (disch := (first | omega | (simp only [AL, List.length_map]; omega))) only [AR, AL, ifT, ifF, take_all, List.length_cons, List.length_nil, Int.reduceToNat, Int.reducePow, Nat.reducePow, i0, i1, i5]) | (refine wk_intro (by kernel_rfl) ?_)); try (simp only [go_sem, Nat.reduceEqDiff, Nat.reduceAdd, Nat.reduceSub, Nat.reduceMul, Nat.reduceLeDiff, Nat.reduceLT, reduceIte, reduceCtorEq, Nat.succ_ne_zero, elemsC, Int.reduceToNat, Nat.reducePow, i0, i1, i5]))
  · have heN : e ≤ n := by omega
    have hA : A ≤ n := by omega
    have hNe : 1 * N ≤ e * N := Nat.mul_le_mul_right _ he1
    have l1 := pow_lim_len x e
    have l2 := pow_lim_len x A
    have k1 : (lim x).length * e ≤ 1000 * 256 := Nat.mul_le_mul hx (by omega)
    have k2 : (lim x).length * A ≤ 1000 * 256 := Nat.mul_le_mul hx (by omega)
    have m1 := nat_MulL (N := x ^ A) (D := x ^ e) (by omega) (by omega)
    have m2 := nat_MulL (N := x ^ e) (D := x ^ e) (by omega) (by omega)
    rw [← Nat.pow_add] at m1 m2
    have ha := and_one64 (a := N) (by omega)
    have hN2 : N = 2 * (N / 2) + N % 2 := by omega
    have hs2 : e * N = (e + e) * (N / 2) + e * (N % 2) := by
      conv => lhs; rw [hN2]
      rw [Nat.mul_add, Nat.add_mul, ← Nat.mul_assoc, Nat.mul_comm e 2, Nat.two_mul, Nat.add_mul]
    have hshr : (N : Int).fdiv 2 = ((N / 2 : Nat) : Int) := fdiv_nat N 2
    have hbig : N / 2 = 0 ∨ e + e ≤ n := by
      rcases Nat.eq_zero_or_pos (N / 2) with h | h
      · exact .inl h
      · right
        have : (e + e) * 1 ≤ (e + e) * (N / 2) := Nat.mul_le_mul_left _ h
        omega
    rcases Nat.mod_two_eq_zero_or_one N with hp | hp
    · rw [hp] at ha hs2
      clear hN2
      (try (simp only [go_sem, Nat.reduceEqDiff, Nat.reduceAdd, Nat.reduceSub, Nat.reduceMul, Nat.reduceLeDiff, Nat.reduceLT, reduceIte, reduceCtorEq, Nat.succ_ne_zero, elemsC, Int.reduceToNat, Nat.reducePow, i0, i1, i5, ha, hshr])); repeat ((first | (simp (disch := (first | omega | (simp only [AL, List.length_map]; omega))) only [AR, AL, ifT, ifF, take_all, List.length_cons, List.length_nil, Int.reduceToNat, Int.reducePow, Nat.reducePow, i0, i1, i5, ha, hshr]) | (refine wk_intro (by kernel_rfl) ?_)); try (simp only [go_sem, Nat.reduceEqDiff, Nat.reduceAdd, Nat.reduceSub, Nat.reduceMul, Nat.reduceLeDiff, Nat.reduceLT, reduceIte, reduceCtorEq, Nat.succ_ne_zero, elemsC, Int.reduceToNat, Nat.reducePow, i0, i1, i5, ha, hshr]))
      refine vf_of (m2) ?_; (try (simp only [go_sem, Nat.reduceEqDiff, Nat.reduceAdd, Nat.reduceSub, Nat.reduceMul, Nat.reduceLeDiff, Nat.reduceLT, reduceIte, reduceCtorEq, Nat.succ_ne_zero, elemsC, Int.reduceToNat, Nat.reducePow, i0, i1, i5, ha, hshr])); repeat ((first | (simp (disch := (first | omega | (simp only [AL, List.length_map]; omega))) only [AR, AL, ifT, ifF, take_all, List.length_cons, List.length_nil, Int.reduceToNat, Int.reducePow, Nat.reducePow, i0, i1, i5, ha, hshr]) | (refine wk_intro (by kernel_rfl) ?_)); try (simp only [go_sem, Nat.reduceEqDiff, Nat.reduceAdd, Nat.reduceSub, Nat.reduceMul, Nat.reduceLeDiff, Nat.reduceLT, reduceIte, reduceCtorEq, Nat.succ_ne_zero, elemsC, Int.reduceToNat, Nat.reducePow, i0, i1, i5, ha, hshr]))
      exact ⟨⟨e + e, A, N / 2, rfl, rfl, rfl, by omega, by omega, by omega, by omega⟩, by omega⟩
    · rw [hp] at ha hs2
      clear hN2
      (try (simp only [go_sem, Nat.reduceEqDiff, Nat.reduceAdd, Nat.reduceSub, Nat.reduceMul, Nat.reduceLeDiff, Nat.reduceLT, reduceIte, reduceCtorEq, Nat.succ_ne_zero, elemsC, Int.reduceToNat, Nat.reducePow, i0, i1, i5, ha, hshr])); repeat ((first | (simp (disch := (first | omega | (simp only [AL, List.length_map]; omega))) only [AR, AL, ifT, ifF, take_all, List.length_cons, List.length_nil, Int.reduceToNat, Int.reducePow, Nat.reducePow, i0, i1, i5, ha, hshr]) | (refine wk_intro (by kernel_rfl) ?_)); try (simp only [go_sem, Nat.reduceEqDiff, Nat.reduceAdd, Nat.reduceSub, Nat.reduceMul, Nat.reduceLeDiff, Nat.reduceLT, reduceIte, reduceCtorEq, Nat.succ_ne_zero, elemsC, Int.reduceToNat, Nat.reducePow, i0, i1, i5, ha, hshr]))
      refine vf_of (m1) ?_; (try (simp only [go_sem, Nat.reduceEqDiff, Nat.reduceAdd, Nat.reduceSub, Nat.reduceMul, Nat.reduceLeDiff, Nat.reduceLT, reduceIte, reduceCtorEq, Nat.succ_ne_zero, elemsC, Int.reduceToNat, Nat.reducePow, i0, i1, i5, ha, hshr])); repeat ((first | (simp (disch := (first | omega | (simp only [AL, List.length_map]; omega))) only [AR, AL, ifT, ifF, take_all, List.length_cons, List.length_nil, Int.reduceToNat, Int.reducePow, Nat.reducePow, i0, i1, i5, ha, hshr]) | (refine wk_intro (by kernel_rfl) ?_)); try (simp only [go_sem, Nat.reduceEqDiff, Nat.reduceAdd, Nat.reduceSub, Nat.reduceMul, Nat.reduceLeDiff, Nat.reduceLT, reduceIte, reduceCtorEq, Nat.succ_ne_zero, elemsC, Int.reduceToNat, Nat.reducePow, i0, i1, i5, ha, hshr]))
      refine vf_of (m2) ?_; (try (simp only [go_sem, Nat.reduceEqDiff, Nat.reduceAdd, Nat.reduceSub, Nat.reduceMul, Nat.reduceLeDiff, Nat.reduceLT, reduceIte, reduceCtorEq, Nat.succ_ne_zero, elemsC, Int.reduceToNat, Nat.reducePow, i0, i1, i5, ha, hshr])); repeat ((first | (simp (disch := (first | omega | (simp only [AL, List.length_map]; omega))) only [AR, AL, ifT, ifF, take_all, List.length_cons, List.length_nil, Int.reduceToNat, Int.reducePow, Nat.reducePow, i0, i1, i5, ha, hshr]) | (refine wk_intro (by kernel_rfl) ?_)); try (simp only [go_sem, Nat.reduceEqDiff, Nat.reduceAdd, Nat.reduceSub, Nat.reduceMul, Nat.reduceLeDiff, Nat.reduceLT, reduceIte, reduceCtorEq, Nat.succ_ne_zero, elemsC, Int.reduceToNat, Nat.reducePow, i0, i1, i5, ha, hshr]))
      exact ⟨⟨e + e, A + e, N / 2, rfl, rfl, rfl, by omega, by omega, by omega, by omega⟩, by omega⟩
end Go.Proofs.Ytdnmhnjblgkjaaa

/- Fractions of one denominator; the least count that is so likely: plain mathematics, no program. -/
namespace Go.Ev
theorem mk_mul (a : Int) {D : Nat} (hD : D ≠ 0) : mkRat a D * ((D : Nat) : Rat) = (a : Rat) := by
  rw [Rat.mkRat_eq_div]
  exact Rat.div_mul_cancel (by exact_mod_cast hD)
theorem le_mul_iff {x y c : Rat} (hc : 0 < c) : x ≤ y ↔ x * c ≤ y * c := by
  constructor
  · intro h
    exact Rat.mul_le_mul_of_nonneg_right h (by grind)
  · intro h
    rcases Rat.le_total (a := x) (b := y) with h1 | h1
    · exact h1
    · have h2 := Rat.mul_le_mul_of_nonneg_right h1 (by grind : (0 : Rat) ≤ c)
      have h3 : (x - y) * c = 0 := by grind
      rcases Rat.mul_eq_zero.1 h3 with h4 | h4 <;> grind
theorem mk_le {a b : Int} {D : Nat} (hD : 0 < D) : mkRat a D ≤ mkRat b D ↔ a ≤ b := by
  have hc : (0 : Rat) < ((D : Nat) : Rat) := by exact_mod_cast hD
  rw [le_mul_iff hc, mk_mul _ (by omega), mk_mul _ (by omega)]
  exact Rat.intCast_le_intCast
theorem mk_self {D : Nat} (hD : 0 < D) : mkRat (D : Int) D = 1 := by
  rw [Rat.mkRat_eq_div]
  have hc : ((D : Nat) : Rat) ≠ 0 := by exact_mod_cast (show D ≠ 0 by omega)
  have e : (((D : Nat) : Int) : Rat) = ((D : Nat) : Rat) := rfl
  rw [e]
  rw [Rat.div_def]
  exact Rat.mul_inv_cancel _ hc
/-- How likely at most k of n tries succeed. -/
def cdfB (n : Nat) (k : Int) (x : Rat) : Rat := if k < 0 then 0 else if (n : Int) ≤ k then 1 else mkRat (sumN x.num.natAbs (x.den - x.num.natAbs) n (k.toNat + 1) : Nat) (x.den ^ n)
theorem unit_num {x : Rat} (h0 : 0 ≤ x) (h1 : x ≤ 1) : x.num.natAbs ≤ x.den ∧ (x.num.natAbs : Int) = x.num := by
  have h2 := Rat.num_nonneg.2 h0
  have h3 := (Rat.le_iff x 1).1 h1
  rw [show (1 : Rat).den = 1 from rfl, show (1 : Rat).num = 1 from rfl] at h3
  omega
theorem den_pos (x : Rat) (n : Nat) : 0 < x.den ^ n := Nat.pow_pos (Nat.pos_of_ne_zero x.den_nz)
theorem cdfB_mono {n : Nat} {x : Rat} (h0 : 0 ≤ x) (h1 : x ≤ 1) {i j : Nat} (h : i ≤ j) : cdfB n i x ≤ cdfB n j x := by
  obtain ⟨hle, -⟩ := unit_num h0 h1
  unfold cdfB
  rw [if_neg (show ¬ ((i : Nat) : Int) < 0 by omega), if_neg (show ¬ ((j : Nat) : Int) < 0 by omega)]
  by_cases hj : (n : Int) ≤ j
  · rw [if_pos hj]
    by_cases hi : (n : Int) ≤ i
    · rw [if_pos hi]
      exact Rat.le_refl
    · rw [if_neg hi, ← mk_self (den_pos x n), mk_le (den_pos x n)]
      have h2 := sumN_mono x.num.natAbs (x.den - x.num.natAbs) n (show i + 1 ≤ n + 1 by omega)
      rw [sumN_all, show x.num.natAbs + (x.den - x.num.natAbs) = x.den by omega] at h2
      rw [Int.toNat_natCast]
      exact Int.ofNat_le.2 h2
  · rw [if_neg hj, if_neg (show ¬ (n : Int) ≤ i by omega), mk_le (den_pos x n)]
    have h2 := sumN_mono x.num.natAbs (x.den - x.num.natAbs) n (show i + 1 ≤ j + 1 by omega)
    rw [Int.toNat_natCast, Int.toNat_natCast]
    exact Int.ofNat_le.2 h2
/-- The least count that is so likely. -/
def isLeast (n : Nat) (x q : Rat) (k : Nat) : Prop := k ≤ n ∧ (∀ j : Nat, j < k → cdfB n j x < q) ∧ (k = n ∨ q ≤ cdfB n k x)
theorem isLeast_unique {n : Nat} {x q : Rat} {k l : Nat} (hk : isLeast n x q k) (hl : isLeast n x q l) : k = l := by
  obtain ⟨k1, k2, k3⟩ := hk
  obtain ⟨l1, l2, l3⟩ := hl
  rcases Nat.lt_trichotomy k l with h | h | h
  · have := l2 k h
    rcases k3 with h3 | h3
    · omega
    · exfalso; grind
  · exact h
  · have := k2 l h
    rcases l3 with h3 | h3
    · omega
    · exfalso; grind
/-- Is it so likely? By whole numbers. -/
theorem cdfB_ge {n k : Nat} {x q : Rat} (hk : k < n) : q ≤ cdfB n k x ↔ q.num * ((x.den ^ n : Nat) : Int) ≤ ((sumN x.num.natAbs (x.den - x.num.natAbs) n (k + 1) * q.den : Nat) : Int) := by
  unfold cdfB
  rw [if_neg (by omega), if_neg (by omega), Int.toNat_natCast]
  have hD := den_pos x n
  generalize x.den ^ n = D at *
  generalize sumN x.num.natAbs (x.den - x.num.natAbs) n (k + 1) = S
  have hc : (0 : Rat) < ((D : Nat) : Rat) := by exact_mod_cast hD
  have hq : (0 : Rat) < ((q.den : Nat) : Rat) := by exact_mod_cast Nat.pos_of_ne_zero q.den_nz
  rw [le_mul_iff hc, mk_mul _ (by omega), le_mul_iff hq]
  have e1 : q * ((D : Nat) : Rat) * ((q.den : Nat) : Rat) = ((q.num * ((D : Nat) : Int) : Int) : Rat) := by
    have h := mk_mul q.num q.den_nz
    rw [Rat.mkRat_self] at h
    rw [Rat.intCast_mul, ← h, Rat.intCast_natCast]
    grind
  have e2 : (((S : Nat) : Int) : Rat) * ((q.den : Nat) : Rat) = (((S * q.den : Nat) : Int) : Rat) := by
    rw [Int.natCast_mul, Rat.intCast_mul]
    rfl
  rw [e1, e2]
  exact Rat.intCast_le_intCast
end Go.Ev

/- disc.tries, sum, BinomCdf, in the evaluator. -/
namespace Go.Proofs.Ytdnmhnjblgkjaaa
set_option linter.unusedSimpArgs false
set_option linter.unusedVariables false
set_option maxRecDepth 8000
open Go.Ev
/-- A row of numbers. -/
abbrev rowsC (g : Nat → Nat) (i : Nat) : List SV := (List.range i).map fun j => natV (lim (g j))
theorem rows_len (g : Nat → Nat) (i : Nat) : (rowsC g i).length = i := by simp [rowsC]
theorem rows_at (g : Nat → Nat) {i j : Nat} (h : j < i) : ((rowsC g i).drop j).head? = some (natV (lim (g j))) := by
  rw [List.head?_drop]
  simp [rowsC, h]
theorem rows_snoc (g : Nat → Nat) (i : Nat) : rowsC g i ++ [natV (lim (g i))] = rowsC g (i + 1) := by simp [rowsC, List.range_succ]
theorem rows_one (g : Nat → Nat) (i : Nat) : (rowsC g i).all SV.one = true := by
  simp [rowsC, List.all_map, SV.one]
theorem cc_lim {m k : Nat} (h : m + k ≤ 1048576) : (lim (cc m k)).length ≤ k + 1 :=
  Nat.le_trans (lim_len_mono cc_le) (prodN_len fun i hi => by omega)
theorem disc_tries {v : SV} {x : Rat} {L : Nat} {n k : Nat} (hv : RatA v x L) (hL : 1 ≤ L) (hL2 : L ≤ 100) (hn : n ≤ 256) (hk : k ≤ n) (hx : x.num.natAbs ≤ x.den) :
    Go.Ev.Fn CX 49 [.int .i64 (n : Int), .int .i64 (k : Int), v] (.sl (k + 1) (rowsC (termN x.num.natAbs (x.den - x.num.natAbs) n) (k + 1))) := by
  have hN := rat_Norm hv (by omega)
  obtain ⟨z1, z2⟩ := szR_of hv hL
  have o1 := nat_Of 1 (by omega)
  have l1 := lim_len1
  have hf := lim_len_mono (Nat.sub_le x.den x.num.natAbs)
  obtain ⟨s, y, d, rfl, -⟩ := hv
  generalize hp : x.num.natAbs = p at *
  generalize hd : x.den = D at *
  have hLess := fix_Less (N := D) (D := p) (by omega) (by omega)
  generalize hff : D - p = f at *
  refine Go.Ev.Fn.intro (fn := Try.f49) (body := (Try.f49).body.get!) (by kernel_rfl) (by kernel_rfl) (by kernel_rfl) (fun _ => rfl) (Nat.le_of_ble_eq_true (by kernel_rfl)) ?_; unfold Try.f49; simp only [Option.get!_some]
  (try (simp only [go_sem, Nat.reduceEqDiff, Nat.reduceAdd, Nat.reduceSub, Nat.reduceMul, Nat.reduceLeDiff, Nat.reduceLT, reduceIte, reduceCtorEq, Nat.succ_ne_zero, elemsC, Int.reduceToNat, Nat.reducePow])); repeat ((first | (simp (disch := (first | omega | (simp only [AL, List.length_map]; omega))) only [AR, AL, ifT, ifF, take_all, List.length_cons, List.length_nil, Int.reduceToNat, Int.reducePow, Nat.reducePow]) | (refine wk_intro (by kernel_rfl) ?_)); try (simp only [go_sem, Nat.reduceEqDiff, Nat.reduceAdd, Nat.reduceSub, Nat.reduceMul, Nat.reduceLeDiff, Nat.reduceLT, reduceIte, reduceCtorEq, Nat.succ_ne_zero, elemsC, Int.reduceToNat, Nat.reducePow]))
  refine vf_of (hN) ?_; (try (simp only [go_sem, Nat.reduceEqDiff, Nat.reduceAdd, Nat.reduceSub, Nat.reduceMul, Nat.reduceLeDiff, Nat.reduceLT, reduceIte, reduceCtorEq, Nat.succ_ne_zero, elemsC, Int.reduceToNat, Nat.reducePow, hp, hd])); repeat ((first | (simp (disch := (first | omega | (simp only [AL, List.length_map]; omega))) only [AR, AL, ifT, ifF, take_all, List.length_cons, List.length_nil, Int.reduceToNat, Int.reducePow, Nat.reducePow, hp, hd]) | (refine wk_intro (by kernel_rfl) ?_)); try (simp only [go_sem, Nat.reduceEqDiff, Nat.reduceAdd, Nat.reduceSub, Nat.reduceMul, Nat.reduceLeDiff, Nat.reduceLT, reduceIte, reduceCtorEq, Nat.succ_ne_zero, elemsC, Int.reduceToNat, Nat.reducePow, hp, hd]))
  refine vf_of (hN) ?_; (try (simp only [go_sem, Nat.reduceEqDiff, Nat.reduceAdd, Nat.reduceSub, Nat.reduceMul, Nat.reduceLeDiff, Nat.reduceLT, reduceIte, reduceCtorEq, Nat.succ_ne_zero, elemsC, Int.reduceToNat, Nat.reducePow, hp, hd])); repeat ((first | (simp (disch := (first | omega | (simp only [AL, List.length_map]; omega))) only [AR, AL, ifT, ifF, take_all, List.length_cons, List.length_nil, Int.reduceToNat, Int.reducePow, Nat.reducePow, hp, hd]) | (refine wk_intro (by kernel_rfl) ?_)); try (simp only [go_sem, Nat.reduceEqDiff, Nat.reduceAdd, Nat.reduceSub, Nat.reduceMul, Nat.reduceLeDiff, Nat.reduceLT, reduceIte, reduceCtorEq, Nat.succ_ne_zero, elemsC, Int.reduceToNat, Nat.reducePow, hp, hd]))
  refine vf_of (hLess) ?_; (try (simp only [go_sem, Nat.reduceEqDiff, Nat.reduceAdd, Nat.reduceSub, Nat.reduceMul, Nat.reduceLeDiff, Nat.reduceLT, reduceIte, reduceCtorEq, Nat.succ_ne_zero, elemsC, Int.reduceToNat, Nat.reducePow])); repeat ((first | (simp (disch := (first | omega | (simp only [AL, List.length_map]; omega))) only [AR, AL, ifT, ifF, take_all, List.length_cons, List.length_nil, Int.reduceToNat, Int.reducePow, Nat.reducePow]) | (refine wk_intro (by kernel_rfl) ?_)); try (simp only [go_sem, Nat.reduceEqDiff, Nat.reduceAdd, Nat.reduceSub, Nat.reduceMul, Nat.reduceLeDiff, Nat.reduceLT, reduceIte, reduceCtorEq, Nat.succ_ne_zero, elemsC, Int.reduceToNat, Nat.reducePow]))
  refine vf_of (o1) ?_; (try (simp only [go_sem, Nat.reduceEqDiff, Nat.reduceAdd, Nat.reduceSub, Nat.reduceMul, Nat.reduceLeDiff, Nat.reduceLT, reduceIte, reduceCtorEq, Nat.succ_ne_zero, elemsC, Int.reduceToNat, Nat.reducePow])); repeat ((first | (simp (disch := (first | omega | (simp only [AL, List.length_map]; omega))) only [AR, AL, ifT, ifF, take_all, List.length_cons, List.length_nil, Int.reduceToNat, Int.reducePow, Nat.reducePow]) | (refine wk_intro (by kernel_rfl) ?_)); try (simp only [go_sem, Nat.reduceEqDiff, Nat.reduceAdd, Nat.reduceSub, Nat.reduceMul, Nat.reduceLeDiff, Nat.reduceLT, reduceIte, reduceCtorEq, Nat.succ_ne_zero, elemsC, Int.reduceToNat, Nat.reducePow]))
  have lfp : ∀ i, i ≤ n → (lim (f ^ i)).length ≤ 25601 := by
    intro i hi
    have h1 := pow_lim_len f i
    have h2 : (lim f).length * i ≤ 100 * 256 := Nat.mul_le_mul (by omega) (by omega)
    omega
  have lpp : ∀ i, i ≤ n → (lim (p ^ i)).length ≤ 25601 := by
    intro i hi
    have h1 := pow_lim_len p i
    have h2 : (lim p).length * i ≤ 100 * 256 := Nat.mul_le_mul (by omega) (by omega)
    omega
  have lw : ∀ j, j ≤ n → (lim (cc (n - j) j * p ^ j)).length ≤ 26000 := by
    intro j hj
    have h1 := lim_len_mul (a := cc (n - j) j) (b := p ^ j)
    have h2 := cc_lim (m := n - j) (k := j) (by omega)
    have h3 := lpp j hj
    omega
  refine vp_loop_inv (fun s' => s'.tmp 0 = .sv (.int .i64 (n : Int)) ∧ s'.tmp 1 = .sv (.int .i64 (k : Int)) ∧ s'.tmp 7 = .sv (natV (lim p)) ∧ s'.tmp 8 = .sv (natV (lim f)) ∧ s'.gen 54 = 0 ∧
      ∃ i : Nat, 1 ≤ i ∧ i ≤ n + 1 ∧ s'.tmp 9 = .ref 22 0 1 0 i ∧ s'.obj 22 0 = some (rowsC (fun j => f ^ j) i))
    (fun s => match s.tmp 9 with | .ref _ _ _ _ i => n + 1 - i | _ => 0) ⟨rfl, rfl, rfl, rfl, rfl, 1, by omega, by omega, rfl, rfl⟩ ?_
  rintro s' ⟨i0, i1, i7, i8, ig, i, hi1, hi2, i9, iO⟩
  have hlen := rows_len (fun j => f ^ j) i
  by_cases hend : i = n + 1
  · subst hend
    (try (simp only [go_sem, Nat.reduceEqDiff, Nat.reduceAdd, Nat.reduceSub, Nat.reduceMul, Nat.reduceLeDiff, Nat.reduceLT, reduceIte, reduceCtorEq, Nat.succ_ne_zero, elemsC, Int.reduceToNat, Nat.reducePow, i0, i1, i7, i8, i9, iO])); repeat ((first | (simp (disch := (first | omega | (simp only [AL, List.length_map]; omega))) only [AR, AL, ifT, ifF, take_all, List.length_cons, List.length_nil, Int.reduceToNat, Int.reducePow, Nat.reducePow, i0, i1, i7, i8, i9, iO]) | (refine wk_intro (by kernel_rfl) ?_)); try (simp only [go_sem, Nat.reduceEqDiff, Nat.reduceAdd, Nat.reduceSub, Nat.reduceMul, Nat.reduceLeDiff, Nat.reduceLT, reduceIte, reduceCtorEq, Nat.succ_ne_zero, elemsC, Int.reduceToNat, Nat.reducePow, i0, i1, i7, i8, i9, iO]))
    refine vf_of (o1) ?_; (try (simp only [go_sem, Nat.reduceEqDiff, Nat.reduceAdd, Nat.reduceSub, Nat.reduceMul, Nat.reduceLeDiff, Nat.reduceLT, reduceIte, reduceCtorEq, Nat.succ_ne_zero, elemsC, Int.reduceToNat, Nat.reducePow, i0, i1, i7, i8, i9, iO])); repeat ((first | (simp (disch := (first | omega | (simp only [AL, List.length_map]; omega))) only [AR, AL, ifT, ifF, take_all, List.length_cons, List.length_nil, Int.reduceToNat, Int.reducePow, Nat.reducePow, i0, i1, i7, i8, i9, iO]) | (refine wk_intro (by kernel_rfl) ?_)); try (simp only [go_sem, Nat.reduceEqDiff, Nat.reduceAdd, Nat.reduceSub, Nat.reduceMul, Nat.reduceLeDiff, Nat.reduceLT, reduceIte, reduceCtorEq, Nat.succ_ne_zero, elemsC, Int.reduceToNat, Nat.reducePow, i0, i1, i7, i8, i9, iO]))
    refine vp_loop_inv (fun s2 => s2.tmp 0 = .sv (.int .i64 (n : Int)) ∧ s2.tmp 1 = .sv (.int .i64 (k : Int)) ∧ s2.tmp 7 = .sv (natV (lim p)) ∧ s2.tmp 9 = .ref 22 0 1 0 (n + 1) ∧ s2.obj 22 0 = some (rowsC (fun j => f ^ j) (n + 1)) ∧
        ∃ j W : Nat, s2.tmp 12 = .sv (.int .i64 (j : Int)) ∧ s2.tmp 10 = .sv (natV (lim W)) ∧ (j ≤ n → W = cc (n - j) j * p ^ j) ∧ j ≤ k + 1 ∧ (lim W).length ≤ 60000 ∧
          ((j = 0 ∧ s2.tmp 11 = .nil ∧ s2.gen 54 = 0) ∨ (0 < j ∧ s2.tmp 11 = .ref 54 0 1 0 j ∧ s2.obj 54 0 = some (rowsC (termN p f n) j))))
      (fun s => match s.tmp 12 with | .sv (.int _ i) => k + 1 - i.toNat | _ => 0) ⟨i0, i1, i7, i9, iO, 0, 1, rfl, rfl, fun _ => by rw [cc_zero, Nat.pow_zero], by omega, by omega, .inl ⟨rfl, rfl, ig⟩⟩ ?_
    rintro s2 ⟨j0, j1, j7, j9, jO, j, W, j12, j10, hW, hj, hlW, hl⟩
    by_cases hend2 : j = k + 1
    · subst hend2
      rcases hl with ⟨h0, _⟩ | ⟨_, j11, jL⟩
      · omega
      · (try (simp only [go_sem, Nat.reduceEqDiff, Nat.reduceAdd, Nat.reduceSub, Nat.reduceMul, Nat.reduceLeDiff, Nat.reduceLT, reduceIte, reduceCtorEq, Nat.succ_ne_zero, elemsC, Int.reduceToNat, Nat.reducePow, j0, j1, j7, j9, jO, j12, j10, j11, jL])); repeat ((first | (simp (disch := (first | omega | (simp only [AL, List.length_map]; omega))) only [AR, AL, ifT, ifF, take_all, List.length_cons, List.length_nil, Int.reduceToNat, Int.reducePow, Nat.reducePow, j0, j1, j7, j9, jO, j12, j10, j11, jL]) | (refine wk_intro (by kernel_rfl) ?_)); try (simp only [go_sem, Nat.reduceEqDiff, Nat.reduceAdd, Nat.reduceSub, Nat.reduceMul, Nat.reduceLeDiff, Nat.reduceLT, reduceIte, reduceCtorEq, Nat.succ_ne_zero, elemsC, Int.reduceToNat, Nat.reducePow, j0, j1, j7, j9, jO, j12, j10, j11, jL]))
        refine ro_ref (cs := rowsC (termN p f n) (k + 1)) (by decide) ?_ ?_
        · simp only [go_sem, Nat.reduceEqDiff, Nat.reduceAdd, Nat.reduceSub, Nat.reduceMul, Nat.reduceLeDiff, Nat.reduceLT, reduceIte, reduceCtorEq, Nat.succ_ne_zero, elemsC, Int.reduceToNat, Nat.reducePow, j11, jL]
        · rw [List.drop_zero, Nat.mul_one, List.take_of_length_le (Nat.le_of_eq (rows_len _ _))]
    · have hjn : j ≤ n := by omega
      have hWj := hW hjn
      have hat := rows_at (fun j => f ^ j) (i := n + 1) (j := n - j) (by omega)
      have hle2 := rows_len (fun j => f ^ j) (n + 1)
      have hsn := rows_snoc (termN p f n) j
      have hrl := rows_len (termN p f n) j
      have hl2 := lfp (n - j) (by omega)
      have hM1 := nat_MulL (N := W) (D := f ^ (n - j)) (by omega) (by omega)
      have hterm : W * f ^ (n - j) = termN p f n j := by rw [hWj]; rfl
      rw [hterm] at hM1
      have hM2 := nat_MulL (N := W) (D := p) (by omega) (by omega)
      have g2 := lim_len_mul (a := W) (b := p)
      have oN := nat_Of (n - j) (by omega)
      have lN := lim_len_one (a := n - j) (by omega)
      have hM3 := nat_MulL (N := W * p) (D := n - j) (by omega) (by omega)
      have g3 := lim_len_mul (a := W * p) (b := n - j)
      have oJ := nat_Of (j + 1) (by omega)
      have lJ := lim_len_one (a := j + 1) (by omega)
      have hO := fix_Over (N := W * p * (n - j)) (D := j + 1) (by omega) (by omega) (by omega)
      have hnew : j + 1 ≤ n → W * p * (n - j) / (j + 1) = cc (n - (j + 1)) (j + 1) * p ^ (j + 1) := fun h => by rw [hWj, ways_step (by omega)]
      have hWl : (lim (W * p * (n - j) / (j + 1))).length ≤ 60000 := by
        rcases Nat.lt_or_ge j n with h | h
        · rw [hnew h]
          have := lw (j + 1) h
          omega
        · rw [show n - j = 0 by omega, Nat.mul_zero, Nat.zero_div, lim_zero]
          simp
      generalize W * p * (n - j) / (j + 1) = W2 at *
      have e3 : ((n - j : Nat) : Int) % 18446744073709551616 = ((n - j : Nat) : Int) := by omega
      rcases hl with ⟨h0, j11, jg⟩ | ⟨hj0, j11, jL⟩
      · subst h0
        simp only [Nat.sub_zero] at hat hM1 oN hM3 hO
        (try (simp only [go_sem, Nat.reduceEqDiff, Nat.reduceAdd, Nat.reduceSub, Nat.reduceMul, Nat.reduceLeDiff, Nat.reduceLT, reduceIte, reduceCtorEq, Nat.succ_ne_zero, elemsC, Int.reduceToNat, Nat.reducePow, j0, j1, j7, j9, jO, j12, j10, j11, jg, N0, hat])); repeat ((first | (simp (disch := (first | omega | (simp only [AL, List.length_map]; omega))) only [AR, AL, ifT, ifF, take_all, List.length_cons, List.length_nil, Int.reduceToNat, Int.reducePow, Nat.reducePow, j0, j1, j7, j9, jO, j12, j10, j11, jg, N0, hat]) | (refine wk_intro (by kernel_rfl) ?_)); try (simp only [go_sem, Nat.reduceEqDiff, Nat.reduceAdd, Nat.reduceSub, Nat.reduceMul, Nat.reduceLeDiff, Nat.reduceLT, reduceIte, reduceCtorEq, Nat.succ_ne_zero, elemsC, Int.reduceToNat, Nat.reducePow, j0, j1, j7, j9, jO, j12, j10, j11, jg, N0, hat]))
        refine vf_of (hM1) ?_; (try (simp only [go_sem, Nat.reduceEqDiff, Nat.reduceAdd, Nat.reduceSub, Nat.reduceMul, Nat.reduceLeDiff, Nat.reduceLT, reduceIte, reduceCtorEq, Nat.succ_ne_zero, elemsC, Int.reduceToNat, Nat.reducePow, j0, j1, j7, j9, jO, j12, j10, j11, jg, N0, hat, hsn, hrl])); repeat ((first | (simp (disch := (first | omega | (simp only [AL, List.length_map]; omega))) only [AR, AL, ifT, ifF, take_all, List.length_cons, List.length_nil, Int.reduceToNat, Int.reducePow, Nat.reducePow, j0, j1, j7, j9, jO, j12, j10, j11, jg, N0, hat, hsn, hrl]) | (refine wk_intro (by kernel_rfl) ?_)); try (simp only [go_sem, Nat.reduceEqDiff, Nat.reduceAdd, Nat.reduceSub, Nat.reduceMul, Nat.reduceLeDiff, Nat.reduceLT, reduceIte, reduceCtorEq, Nat.succ_ne_zero, elemsC, Int.reduceToNat, Nat.reducePow, j0, j1, j7, j9, jO, j12, j10, j11, jg, N0, hat, hsn, hrl]))
        refine vf_of (hM2) ?_; (try (simp only [go_sem, Nat.reduceEqDiff, Nat.reduceAdd, Nat.reduceSub, Nat.reduceMul, Nat.reduceLeDiff, Nat.reduceLT, reduceIte, reduceCtorEq, Nat.succ_ne_zero, elemsC, Int.reduceToNat, Nat.reducePow, j0, j1, j7, j9, jO, j12, j10, j11])); repeat ((first | (simp (disch := (first | omega | (simp only [AL, List.length_map]; omega))) only [AR, AL, ifT, ifF, take_all, List.length_cons, List.length_nil, Int.reduceToNat, Int.reducePow, Nat.reducePow, j0, j1, j7, j9, jO, j12, j10, j11]) | (refine wk_intro (by kernel_rfl) ?_)); try (simp only [go_sem, Nat.reduceEqDiff, Nat.reduceAdd, Nat.reduceSub, Nat.reduceMul, Nat.reduceLeDiff, Nat.reduceLT, reduceIte, reduceCtorEq, Nat.succ_ne_zero, elemsC, Int.reduceToNat, Nat.reducePow, j0, j1, j7, j9, jO, j12, j10, j11]))
        refine vf_of (oN) ?_; (try (simp only [go_sem, Nat.reduceEqDiff, Nat.reduceAdd, Nat.reduceSub, Nat.reduceMul, Nat.reduceLeDiff, Nat.reduceLT, reduceIte, reduceCtorEq, Nat.succ_ne_zero, elemsC, Int.reduceToNat, Nat.reducePow, j0, j1, j7, j9, jO, j12, j10, j11])); repeat ((first | (simp (disch := (first | omega | (simp only [AL, List.length_map]; omega))) only [AR, AL, ifT, ifF, take_all, List.length_cons, List.length_nil, Int.reduceToNat, Int.reducePow, Nat.reducePow, j0, j1, j7, j9, jO, j12, j10, j11]) | (refine wk_intro (by kernel_rfl) ?_)); try (simp only [go_sem, Nat.reduceEqDiff, Nat.reduceAdd, Nat.reduceSub, Nat.reduceMul, Nat.reduceLeDiff, Nat.reduceLT, reduceIte, reduceCtorEq, Nat.succ_ne_zero, elemsC, Int.reduceToNat, Nat.reducePow, j0, j1, j7, j9, jO, j12, j10, j11]))
        refine vf_of (hM3) ?_; (try (simp only [go_sem, Nat.reduceEqDiff, Nat.reduceAdd, Nat.reduceSub, Nat.reduceMul, Nat.reduceLeDiff, Nat.reduceLT, reduceIte, reduceCtorEq, Nat.succ_ne_zero, elemsC, Int.reduceToNat, Nat.reducePow, j0, j1, j7, j9, jO, j12, j10, j11])); repeat ((first | (simp (disch := (first | omega | (simp only [AL, List.length_map]; omega))) only [AR, AL, ifT, ifF, take_all, List.length_cons, List.length_nil, Int.reduceToNat, Int.reducePow, Nat.reducePow, j0, j1, j7, j9, jO, j12, j10, j11]) | (refine wk_intro (by kernel_rfl) ?_)); try (simp only [go_sem, Nat.reduceEqDiff, Nat.reduceAdd, Nat.reduceSub, Nat.reduceMul, Nat.reduceLeDiff, Nat.reduceLT, reduceIte, reduceCtorEq, Nat.succ_ne_zero, elemsC, Int.reduceToNat, Nat.reducePow, j0, j1, j7, j9, jO, j12, j10, j11]))
        refine vf_of (oJ) ?_; (try (simp only [go_sem, Nat.reduceEqDiff, Nat.reduceAdd, Nat.reduceSub, Nat.reduceMul, Nat.reduceLeDiff, Nat.reduceLT, reduceIte, reduceCtorEq, Nat.succ_ne_zero, elemsC, Int.reduceToNat, Nat.reducePow, j0, j1, j7, j9, jO, j12, j10, j11])); repeat ((first | (simp (disch := (first | omega | (simp only [AL, List.length_map]; omega))) only [AR, AL, ifT, ifF, take_all, List.length_cons, List.length_nil, Int.reduceToNat, Int.reducePow, Nat.reducePow, j0, j1, j7, j9, jO, j12, j10, j11]) | (refine wk_intro (by kernel_rfl) ?_)); try (simp only [go_sem, Nat.reduceEqDiff, Nat.reduceAdd, Nat.reduceSub, Nat.reduceMul, Nat.reduceLeDiff, Nat.reduceLT, reduceIte, reduceCtorEq, Nat.succ_ne_zero, elemsC, Int.reduceToNat, Nat.reducePow, j0, j1, j7, j9, jO, j12, j10, j11]))
        refine vf_of (hO) ?_; (try (simp only [go_sem, Nat.reduceEqDiff, Nat.reduceAdd, Nat.reduceSub, Nat.reduceMul, Nat.reduceLeDiff, Nat.reduceLT, reduceIte, reduceCtorEq, Nat.succ_ne_zero, elemsC, Int.reduceToNat, Nat.reducePow, j0, j1, j7, j9, jO, j12, j10, j11])); repeat ((first | (simp (disch := (first | omega | (simp only [AL, List.length_map]; omega))) only [AR, AL, ifT, ifF, take_all, List.length_cons, List.length_nil, Int.reduceToNat, Int.reducePow, Nat.reducePow, j0, j1, j7, j9, jO, j12, j10, j11]) | (refine wk_intro (by kernel_rfl) ?_)); try (simp only [go_sem, Nat.reduceEqDiff, Nat.reduceAdd, Nat.reduceSub, Nat.reduceMul, Nat.reduceLeDiff, Nat.reduceLT, reduceIte, reduceCtorEq, Nat.succ_ne_zero, elemsC, Int.reduceToNat, Nat.reducePow, j0, j1, j7, j9, jO, j12, j10, j11]))
        exact ⟨⟨1, W2, rfl, rfl, hnew, by omega, hWl, .inr ⟨by omega, rfl, rfl⟩⟩, by omega⟩
      · (try (simp only [go_sem, Nat.reduceEqDiff, Nat.reduceAdd, Nat.reduceSub, Nat.reduceMul, Nat.reduceLeDiff, Nat.reduceLT, reduceIte, reduceCtorEq, Nat.succ_ne_zero, elemsC, Int.reduceToNat, Nat.reducePow, j0, j1, j7, j9, jO, j12, j10, j11, jL, N0, hat])); repeat ((first | (simp (disch := (first | omega | (simp only [AL, List.length_map]; omega))) only [AR, AL, ifT, ifF, take_all, List.length_cons, List.length_nil, Int.reduceToNat, Int.reducePow, Nat.reducePow, j0, j1, j7, j9, jO, j12, j10, j11, jL, N0, hat]) | (refine wk_intro (by kernel_rfl) ?_)); try (simp only [go_sem, Nat.reduceEqDiff, Nat.reduceAdd, Nat.reduceSub, Nat.reduceMul, Nat.reduceLeDiff, Nat.reduceLT, reduceIte, reduceCtorEq, Nat.succ_ne_zero, elemsC, Int.reduceToNat, Nat.reducePow, j0, j1, j7, j9, jO, j12, j10, j11, jL, N0, hat]))
        refine vf_of (hM1) ?_; (try (simp only [go_sem, Nat.reduceEqDiff, Nat.reduceAdd, Nat.reduceSub, Nat.reduceMul, Nat.reduceLeDiff, Nat.reduceLT, reduceIte, reduceCtorEq, Nat.succ_ne_zero, elemsC, Int.reduceToNat, Nat.reducePow, j0, j1, j7, j9, jO, j12, j10, j11, jL, N0, hat, hsn, hrl])); repeat ((first | (simp (disch := (first | omega | (simp only [AL, List.length_map]; omega))) only [AR, AL, ifT, ifF, take_all, List.length_cons, List.length_nil, Int.reduceToNat, Int.reducePow, Nat.reducePow, j0, j1, j7, j9, jO, j12, j10, j11, jL, N0, hat, hsn, hrl]) | (refine wk_intro (by kernel_rfl) ?_)); try (simp only [go_sem, Nat.reduceEqDiff, Nat.reduceAdd, Nat.reduceSub, Nat.reduceMul, Nat.reduceLeDiff, Nat.reduceLT, reduceIte, reduceCtorEq, Nat.succ_ne_zero, elemsC, Int.reduceToNat, Nat.reducePow, j0, j1, j7, j9, jO, j12, j10, j11, jL, N0, hat, hsn, hrl]))
        refine vf_of (hM2) ?_; (try (simp only [go_sem, Nat.reduceEqDiff, Nat.reduceAdd, Nat.reduceSub, Nat.reduceMul, Nat.reduceLeDiff, Nat.reduceLT, reduceIte, reduceCtorEq, Nat.succ_ne_zero, elemsC, Int.reduceToNat, Nat.reducePow, j0, j1, j7, j9, jO, j12, j10, j11, jL])); repeat ((first | (simp (disch := (first | omega | (simp only [AL, List.length_map]; omega))) only [AR, AL, ifT, ifF, take_all, List.length_cons, List.length_nil, Int.reduceToNat, Int.reducePow, Nat.reducePow, j0, j1, j7, j9, jO, j12, j10, j11, jL]) | (refine wk_intro (by kernel_rfl) ?_)); try (simp only [go_sem, Nat.reduceEqDiff, Nat.reduceAdd, Nat.reduceSub, Nat.reduceMul, Nat.reduceLeDiff, Nat.reduceLT, reduceIte, reduceCtorEq, Nat.succ_ne_zero, elemsC, Int.reduceToNat, Nat.reducePow, j0, j1, j7, j9, jO, j12, j10, j11, jL]))
        refine vf_of (oN) ?_; (try (simp only [go_sem, Nat.reduceEqDiff, Nat.reduceAdd, Nat.reduceSub, Nat.reduceMul, Nat.reduceLeDiff, Nat.reduceLT, reduceIte, reduceCtorEq, Nat.succ_ne_zero, elemsC, Int.reduceToNat, Nat.reducePow, j0, j1, j7, j9, jO, j12, j10, j11, jL])); repeat ((first | (simp (disch := (first | omega | (simp only [AL, List.length_map]; omega))) only [AR, AL, ifT, ifF, take_all, List.length_cons, List.length_nil, Int.reduceToNat, Int.reducePow, Nat.reducePow, j0, j1, j7, j9, jO, j12, j10, j11, jL]) | (refine wk_intro (by kernel_rfl) ?_)); try (simp only [go_sem, Nat.reduceEqDiff, Nat.reduceAdd, Nat.reduceSub, Nat.reduceMul, Nat.reduceLeDiff, Nat.reduceLT, reduceIte, reduceCtorEq, Nat.succ_ne_zero, elemsC, Int.reduceToNat, Nat.reducePow, j0, j1, j7, j9, jO, j12, j10, j11, jL]))
        refine vf_of (hM3) ?_; (try (simp only [go_sem, Nat.reduceEqDiff, Nat.reduceAdd, Nat.reduceSub, Nat.reduceMul, Nat.reduceLeDiff, Nat.reduceLT, reduceIte, reduceCtorEq, Nat.succ_ne_zero, elemsC, Int.reduceToNat, Nat.reducePow, j0, j1, j7, j9, jO, j12, j10, j11, jL])); repeat ((first | (simp (disch := (first | omega | (simp only [AL, List.length_map]; omega))) only [AR, AL, ifT, ifF, take_all, List.length_cons, List.length_nil, Int.reduceToNat, Int.reducePow, Nat.reducePow, j0, j1, j7, j9, jO, j12, j10, j11, jL]) | (refine wk_intro (by kernel_rfl) ?_)); try (simp only [go_sem, Nat.reduceEqDiff, Nat.reduceAdd, Nat.reduceSub, Nat.reduceMul, Nat.reduceLeDiff, Nat.reduceLT, reduceIte, reduceCtorEq, Nat.succ_ne_zero, elemsC, Int.reduceToNat, Nat.reducePow, j0, j1, j7, j9, jO, j12, j10, j11, jL]))
        refine vf_of (oJ) ?_; (try (simp only [go_sem, Nat.reduceEqDiff, Nat.reduceAdd, Nat.reduceSub, Nat.reduceMul, Nat.reduceLeDiff, Nat.reduceLT, reduceIte, reduceCtorEq, Nat.succ_ne_zero, elemsC, Int.reduceToNat, Nat.reducePow, j0, j1, j7, j9, jO, j12, j10, j11, jL])); repeat ((first | (simp (disch := (first | omega | (simp only [AL, List.length_map]; omega))) only [AR, AL, ifT, ifF, take_all, List.length_cons, List.length_nil, Int.reduceToNat, Int.reducePow, Nat.reducePow, j0, j1, j7, j9, jO, j12, j10, j11, jL]) | (refine wk_intro (by kernel_rfl) ?_)); try (simp only [go_sem, Nat.reduceEqDiff, Nat.reduceAdd, Nat.reduceSub, Nat.reduceMul, Nat.reduceLeDiff, Nat.reduceLT, reduceIte, reduceCtorEq, Nat.succ_ne_zero, elemsC, Int.reduceToNat, Nat.reducePow, j0, j1, j7, j9, jO, j12, j10, j11, jL]))
        refine vf_of (hO) ?_; (try (simp only [go_sem, Nat.reduceEqDiff, Nat.reduceAdd, Nat.reduceSub, Nat.reduceMul, Nat.reduceLeDiff, Nat.reduceLT, reduceIte, reduceCtorEq, Nat.succ_ne_zero, elemsC, Int.reduceToNat, Nat.reducePow, j0, j1, j7, j9, jO, j12, j10, j11, jL])); repeat ((first | (simp (disch := (first | omega | (simp only [AL, List.length_map]; omega))) only [AR, AL, ifT, ifF, take_all, List.length_cons, List.length_nil, Int.reduceToNat, Int.reducePow, Nat.reducePow, j0, j1, j7, j9, jO, j12, j10, j11, jL]) | (refine wk_intro (by kernel_rfl) ?_)); try (simp only [go_sem, Nat.reduceEqDiff, Nat.reduceAdd, Nat.reduceSub, Nat.reduceMul, Nat.reduceLeDiff, Nat.reduceLT, reduceIte, reduceCtorEq, Nat.succ_ne_zero, elemsC, Int.reduceToNat, Nat.reducePow, j0, j1, j7, j9, jO, j12, j10, j11, jL]))
        exact ⟨⟨j + 1, W2, rfl, rfl, hnew, by omega, hWl, .inr ⟨by omega, rfl, rfl⟩⟩, by omega⟩
  · have hat := rows_at (fun j => f ^ j) (i := i) (j := i - 1) (by omega)
    have hsn := rows_snoc (fun j => f ^ j) i
    have hl1 := lfp (i - 1) (by omega)
    have hM := nat_MulL (N := f ^ (i - 1)) (D := f) (by omega) (by omega)
    rw [← Nat.pow_succ, show (i - 1).succ = i by omega] at hM
    (try (simp only [go_sem, Nat.reduceEqDiff, Nat.reduceAdd, Nat.reduceSub, Nat.reduceMul, Nat.reduceLeDiff, Nat.reduceLT, reduceIte, reduceCtorEq, Nat.succ_ne_zero, elemsC, Int.reduceToNat, Nat.reducePow, i0, i1, i7, i8, i9, iO, N0, hat])); repeat ((first | (simp (disch := (first | omega | (simp only [AL, List.length_map]; omega))) only [AR, AL, ifT, ifF, take_all, List.length_cons, List.length_nil, Int.reduceToNat, Int.reducePow, Nat.reducePow, i0, i1, i7, i8, i9, iO, N0, hat]) | (refine wk_intro (by kernel_rfl) ?_)); try (simp only [go_sem, Nat.reduceEqDiff, Nat.reduceAdd, Nat.reduceSub, Nat.reduceMul, Nat.reduceLeDiff, Nat.reduceLT, reduceIte, reduceCtorEq, Nat.succ_ne_zero, elemsC, Int.reduceToNat, Nat.reducePow, i0, i1, i7, i8, i9, iO, N0, hat]))
    refine vf_of (hM) ?_; (try (simp only [go_sem, Nat.reduceEqDiff, Nat.reduceAdd, Nat.reduceSub, Nat.reduceMul, Nat.reduceLeDiff, Nat.reduceLT, reduceIte, reduceCtorEq, Nat.succ_ne_zero, elemsC, Int.reduceToNat, Nat.reducePow, i0, i1, i7, i8, i9, iO, N0, hat, hsn, hlen])); repeat ((first | (simp (disch := (first | omega | (simp only [AL, List.length_map]; omega))) only [AR, AL, ifT, ifF, take_all, List.length_cons, List.length_nil, Int.reduceToNat, Int.reducePow, Nat.reducePow, i0, i1, i7, i8, i9, iO, N0, hat, hsn, hlen]) | (refine wk_intro (by kernel_rfl) ?_)); try (simp only [go_sem, Nat.reduceEqDiff, Nat.reduceAdd, Nat.reduceSub, Nat.reduceMul, Nat.reduceLeDiff, Nat.reduceLT, reduceIte, reduceCtorEq, Nat.succ_ne_zero, elemsC, Int.reduceToNat, Nat.reducePow, i0, i1, i7, i8, i9, iO, N0, hat, hsn, hlen]))
    exact ⟨⟨ig, i + 1, by omega, by omega, rfl, rfl⟩, by omega⟩
theorem sum_len {p f n : Nat} (h : ∀ j, (lim (termN p f n j)).length ≤ 90000) : ∀ k, (lim (sumN p f n k)).length ≤ 90000 + k := by
  intro k
  induction k with
  | zero => rw [show sumN p f n 0 = 0 from rfl, lim_zero]; simp
  | succ k ih =>
    have := lim_len_add2 (a := sumN p f n k) (b := termN p f n k) ih (Nat.le_trans (h k) (by omega))
    exact this
theorem term_len {p f n : Nat} (hn : n ≤ 256) (hp : (lim p).length ≤ 100) (hf : (lim f).length ≤ 100) (j : Nat) (hj : j ≤ n) : (lim (termN p f n j)).length ≤ 90000 := by
  have h1 := pow_lim_len p j
  have h2 : (lim p).length * j ≤ 100 * 256 := Nat.mul_le_mul hp (by omega)
  have h3 := pow_lim_len f (n - j)
  have h4 : (lim f).length * (n - j) ≤ 100 * 256 := Nat.mul_le_mul hf (by omega)
  have h5 := cc_lim (m := n - j) (k := j) (by omega)
  have h6 := lim_len_mul (a := cc (n - j) j) (b := p ^ j)
  have h7 := lim_len_mul (a := cc (n - j) j * p ^ j) (b := f ^ (n - j))
  unfold termN
  omega
theorem disc_sum {v : SV} {x : Rat} {L : Nat} {n k : Nat} {g : Nat → Nat} {S : Nat → Nat} (hv : RatA v x L) (hL : 1 ≤ L) (hL2 : L ≤ 100) (hn : n ≤ 256) (hk : k ≤ 1000) (hS0 : S 0 = 0) (hS : ∀ j, S (j + 1) = S j + g j) (hg : ∀ j, j < k → (lim (g j)).length ≤ 90000) (hSl : ∀ j, j ≤ k → (lim (S j)).length ≤ 100000) :
    Go.Ev.Fn CX 48 [.int .i64 (n : Int), v, .sl k (rowsC g k)] (rv (mkRat (S k : Nat) (x.den ^ n))) := by
  have hN := rat_Norm hv (by omega)
  obtain ⟨z1, z2⟩ := szR_of hv hL
  obtain ⟨s, y, d, rfl, -⟩ := hv
  have hpw := disc_power x.den n hn (by omega)
  have hpl := pow_lim_len x.den n
  have hpl2 : (lim x.den).length * n ≤ 100 * 256 := Nat.mul_le_mul (by omega) hn
  have hOf := rat_OfL (s := false) (n := S k) (d := x.den ^ n) (by have := hSl k (Nat.le_refl k); omega) (by omega)
  rw [show sgn false (S k) = ((S k : Nat) : Int) from rfl] at hOf
  refine Go.Ev.Fn.intro (fn := Try.f48) (body := (Try.f48).body.get!) (by kernel_rfl) (by kernel_rfl) (by kernel_rfl) (fun _ => rfl) (Nat.le_of_ble_eq_true (by kernel_rfl)) ?_; unfold Try.f48; simp only [Option.get!_some]
  (try (simp only [go_sem, Nat.reduceEqDiff, Nat.reduceAdd, Nat.reduceSub, Nat.reduceMul, Nat.reduceLeDiff, Nat.reduceLT, reduceIte, reduceCtorEq, Nat.succ_ne_zero, elemsC, Int.reduceToNat, Nat.reducePow])); repeat ((first | (simp (disch := (first | omega | (simp only [AL, List.length_map]; omega))) only [AR, AL, ifT, ifF, take_all, List.length_cons, List.length_nil, Int.reduceToNat, Int.reducePow, Nat.reducePow]) | (refine wk_intro (by kernel_rfl) ?_)); try (simp only [go_sem, Nat.reduceEqDiff, Nat.reduceAdd, Nat.reduceSub, Nat.reduceMul, Nat.reduceLeDiff, Nat.reduceLT, reduceIte, reduceCtorEq, Nat.succ_ne_zero, elemsC, Int.reduceToNat, Nat.reducePow]))
  refine vp_loop_inv (fun s' => s'.tmp 0 = .sv (.int .i64 (n : Int)) ∧ s'.tmp 4 = .ptr 4 0 0 ∧ s'.obj 4 0 = some [.bool s, natV y, natV d] ∧ s'.tmp 6 = .ptr 6 0 0 ∧ s'.obj 6 0 = some [.bool false, .sl 0 [], .sl 0 []] ∧ s'.tmp 10 = .sv (.sl k (rowsC g k)) ∧ s'.tmp 11 = .sv (.int .i64 (k : Int)) ∧
      ∃ i : Nat, s'.tmp 12 = .sv (.int .i64 (i : Int)) ∧ i ≤ k ∧ ((i = 0 ∧ s'.tmp 7 = .nil) ∨ s'.tmp 7 = .sv (natV (lim (S i)))))
    (fun s => match s.tmp 12 with | .sv (.int _ i) => k - i.toNat | _ => 0) ⟨rfl, rfl, rfl, rfl, rfl, rfl, rfl, 0, rfl, by omega, .inl ⟨rfl, rfl⟩⟩ ?_
  rintro s' ⟨i0, i4, iP, i6, iR, i10, i11, i, i12, hi, h7⟩
  by_cases hend : i = k
  · subst hend
    rcases h7 with ⟨h0, i7⟩ | i7
    · rw [h0, hS0, lim_zero] at hOf
      rw [h0, hS0]
      (try (simp only [go_sem, Nat.reduceEqDiff, Nat.reduceAdd, Nat.reduceSub, Nat.reduceMul, Nat.reduceLeDiff, Nat.reduceLT, reduceIte, reduceCtorEq, Nat.succ_ne_zero, elemsC, Int.reduceToNat, Nat.reducePow, i0, i4, iP, i6, iR, i10, i11, i12, i7])); repeat ((first | (simp (disch := (first | omega | (simp only [AL, List.length_map]; omega))) only [AR, AL, ifT, ifF, take_all, List.length_cons, List.length_nil, Int.reduceToNat, Int.reducePow, Nat.reducePow, i0, i4, iP, i6, iR, i10, i11, i12, i7]) | (refine wk_intro (by kernel_rfl) ?_)); try (simp only [go_sem, Nat.reduceEqDiff, Nat.reduceAdd, Nat.reduceSub, Nat.reduceMul, Nat.reduceLeDiff, Nat.reduceLT, reduceIte, reduceCtorEq, Nat.succ_ne_zero, elemsC, Int.reduceToNat, Nat.reducePow, i0, i4, iP, i6, iR, i10, i11, i12, i7]))
      refine vf_of (hN) ?_; (try (simp only [go_sem, Nat.reduceEqDiff, Nat.reduceAdd, Nat.reduceSub, Nat.reduceMul, Nat.reduceLeDiff, Nat.reduceLT, reduceIte, reduceCtorEq, Nat.succ_ne_zero, elemsC, Int.reduceToNat, Nat.reducePow, i0, i4, iP, i6, iR])); repeat ((first | (simp (disch := (first | omega | (simp only [AL, List.length_map]; omega))) only [AR, AL, ifT, ifF, take_all, List.length_cons, List.length_nil, Int.reduceToNat, Int.reducePow, Nat.reducePow, i0, i4, iP, i6, iR]) | (refine wk_intro (by kernel_rfl) ?_)); try (simp only [go_sem, Nat.reduceEqDiff, Nat.reduceAdd, Nat.reduceSub, Nat.reduceMul, Nat.reduceLeDiff, Nat.reduceLT, reduceIte, reduceCtorEq, Nat.succ_ne_zero, elemsC, Int.reduceToNat, Nat.reducePow, i0, i4, iP, i6, iR]))
      refine vf_of (hpw) ?_; (try (simp only [go_sem, Nat.reduceEqDiff, Nat.reduceAdd, Nat.reduceSub, Nat.reduceMul, Nat.reduceLeDiff, Nat.reduceLT, reduceIte, reduceCtorEq, Nat.succ_ne_zero, elemsC, Int.reduceToNat, Nat.reducePow])); repeat ((first | (simp (disch := (first | omega | (simp only [AL, List.length_map]; omega))) only [AR, AL, ifT, ifF, take_all, List.length_cons, List.length_nil, Int.reduceToNat, Int.reducePow, Nat.reducePow]) | (refine wk_intro (by kernel_rfl) ?_)); try (simp only [go_sem, Nat.reduceEqDiff, Nat.reduceAdd, Nat.reduceSub, Nat.reduceMul, Nat.reduceLeDiff, Nat.reduceLT, reduceIte, reduceCtorEq, Nat.succ_ne_zero, elemsC, Int.reduceToNat, Nat.reducePow]))
      refine vf_of (hOf) ?_; (try (simp only [go_sem, Nat.reduceEqDiff, Nat.reduceAdd, Nat.reduceSub, Nat.reduceMul, Nat.reduceLeDiff, Nat.reduceLT, reduceIte, reduceCtorEq, Nat.succ_ne_zero, elemsC, Int.reduceToNat, Nat.reducePow, i0, i4, iP, i6, iR])); repeat ((first | (simp (disch := (first | omega | (simp only [AL, List.length_map]; omega))) only [AR, AL, ifT, ifF, take_all, List.length_cons, List.length_nil, Int.reduceToNat, Int.reducePow, Nat.reducePow, i0, i4, iP, i6, iR]) | (refine wk_intro (by kernel_rfl) ?_)); try (simp only [go_sem, Nat.reduceEqDiff, Nat.reduceAdd, Nat.reduceSub, Nat.reduceMul, Nat.reduceLeDiff, Nat.reduceLT, reduceIte, reduceCtorEq, Nat.succ_ne_zero, elemsC, Int.reduceToNat, Nat.reducePow, i0, i4, iP, i6, iR]))
    · (try (simp only [go_sem, Nat.reduceEqDiff, Nat.reduceAdd, Nat.reduceSub, Nat.reduceMul, Nat.reduceLeDiff, Nat.reduceLT, reduceIte, reduceCtorEq, Nat.succ_ne_zero, elemsC, Int.reduceToNat, Nat.reducePow, i0, i4, iP, i6, iR, i10, i11, i12, i7])); repeat ((first | (simp (disch := (first | omega | (simp only [AL, List.length_map]; omega))) only [AR, AL, ifT, ifF, take_all, List.length_cons, List.length_nil, Int.reduceToNat, Int.reducePow, Nat.reducePow, i0, i4, iP, i6, iR, i10, i11, i12, i7]) | (refine wk_intro (by kernel_rfl) ?_)); try (simp only [go_sem, Nat.reduceEqDiff, Nat.reduceAdd, Nat.reduceSub, Nat.reduceMul, Nat.reduceLeDiff, Nat.reduceLT, reduceIte, reduceCtorEq, Nat.succ_ne_zero, elemsC, Int.reduceToNat, Nat.reducePow, i0, i4, iP, i6, iR, i10, i11, i12, i7]))
      refine vf_of (hN) ?_; (try (simp only [go_sem, Nat.reduceEqDiff, Nat.reduceAdd, Nat.reduceSub, Nat.reduceMul, Nat.reduceLeDiff, Nat.reduceLT, reduceIte, reduceCtorEq, Nat.succ_ne_zero, elemsC, Int.reduceToNat, Nat.reducePow, i0, i4, iP, i6, iR, i7])); repeat ((first | (simp (disch := (first | omega | (simp only [AL, List.length_map]; omega))) only [AR, AL, ifT, ifF, take_all, List.length_cons, List.length_nil, Int.reduceToNat, Int.reducePow, Nat.reducePow, i0, i4, iP, i6, iR, i7]) | (refine wk_intro (by kernel_rfl) ?_)); try (simp only [go_sem, Nat.reduceEqDiff, Nat.reduceAdd, Nat.reduceSub, Nat.reduceMul, Nat.reduceLeDiff, Nat.reduceLT, reduceIte, reduceCtorEq, Nat.succ_ne_zero, elemsC, Int.reduceToNat, Nat.reducePow, i0, i4, iP, i6, iR, i7]))
      refine vf_of (hpw) ?_; (try (simp only [go_sem, Nat.reduceEqDiff, Nat.reduceAdd, Nat.reduceSub, Nat.reduceMul, Nat.reduceLeDiff, Nat.reduceLT, reduceIte, reduceCtorEq, Nat.succ_ne_zero, elemsC, Int.reduceToNat, Nat.reducePow])); repeat ((first | (simp (disch := (first | omega | (simp only [AL, List.length_map]; omega))) only [AR, AL, ifT, ifF, take_all, List.length_cons, List.length_nil, Int.reduceToNat, Int.reducePow, Nat.reducePow]) | (refine wk_intro (by kernel_rfl) ?_)); try (simp only [go_sem, Nat.reduceEqDiff, Nat.reduceAdd, Nat.reduceSub, Nat.reduceMul, Nat.reduceLeDiff, Nat.reduceLT, reduceIte, reduceCtorEq, Nat.succ_ne_zero, elemsC, Int.reduceToNat, Nat.reducePow]))
      refine vf_of (hOf) ?_; (try (simp only [go_sem, Nat.reduceEqDiff, Nat.reduceAdd, Nat.reduceSub, Nat.reduceMul, Nat.reduceLeDiff, Nat.reduceLT, reduceIte, reduceCtorEq, Nat.succ_ne_zero, elemsC, Int.reduceToNat, Nat.reducePow, i0, i4, iP, i6, iR, i7])); repeat ((first | (simp (disch := (first | omega | (simp only [AL, List.length_map]; omega))) only [AR, AL, ifT, ifF, take_all, List.length_cons, List.length_nil, Int.reduceToNat, Int.reducePow, Nat.reducePow, i0, i4, iP, i6, iR, i7]) | (refine wk_intro (by kernel_rfl) ?_)); try (simp only [go_sem, Nat.reduceEqDiff, Nat.reduceAdd, Nat.reduceSub, Nat.reduceMul, Nat.reduceLeDiff, Nat.reduceLT, reduceIte, reduceCtorEq, Nat.succ_ne_zero, elemsC, Int.reduceToNat, Nat.reducePow, i0, i4, iP, i6, iR, i7]))
  · have hat := rows_at g (i := k) (j := i) (by omega)
    have hrl := rows_len g k
    have hl1 := hg i (by omega)
    have hl2 := hSl i (by omega)
    have hA := nat_AddL (N := S i) (D := g i) (by omega) (by omega)
    rw [← hS] at hA
    rcases h7 with ⟨h0, i7⟩ | i7
    · subst h0
      rw [hS0, lim_zero] at hA
      rw [List.drop_zero] at hat
      (try (simp only [go_sem, Nat.reduceEqDiff, Nat.reduceAdd, Nat.reduceSub, Nat.reduceMul, Nat.reduceLeDiff, Nat.reduceLT, reduceIte, reduceCtorEq, Nat.succ_ne_zero, elemsC, Int.reduceToNat, Nat.reducePow, i0, i4, iP, i6, iR, i10, i11, i12, i7, hat, hrl])); repeat ((first | (simp (disch := (first | omega | (simp only [AL, List.length_map]; omega))) only [AR, AL, ifT, ifF, take_all, List.length_cons, List.length_nil, Int.reduceToNat, Int.reducePow, Nat.reducePow, i0, i4, iP, i6, iR, i10, i11, i12, i7, hat, hrl]) | (refine wk_intro (by kernel_rfl) ?_)); try (simp only [go_sem, Nat.reduceEqDiff, Nat.reduceAdd, Nat.reduceSub, Nat.reduceMul, Nat.reduceLeDiff, Nat.reduceLT, reduceIte, reduceCtorEq, Nat.succ_ne_zero, elemsC, Int.reduceToNat, Nat.reducePow, i0, i4, iP, i6, iR, i10, i11, i12, i7, hat, hrl]))
      refine vf_of (hA) ?_; (try (simp only [go_sem, Nat.reduceEqDiff, Nat.reduceAdd, Nat.reduceSub, Nat.reduceMul, Nat.reduceLeDiff, Nat.reduceLT, reduceIte, reduceCtorEq, Nat.succ_ne_zero, elemsC, Int.reduceToNat, Nat.reducePow, i0, i4, iP, i6, iR, i10, i11, i12, i7, hat, hrl])); repeat ((first | (simp (disch := (first | omega | (simp only [AL, List.length_map]; omega))) only [AR, AL, ifT, ifF, take_all, List.length_cons, List.length_nil, Int.reduceToNat, Int.reducePow, Nat.reducePow, i0, i4, iP, i6, iR, i10, i11, i12, i7, hat, hrl]) | (refine wk_intro (by kernel_rfl) ?_)); try (simp only [go_sem, Nat.reduceEqDiff, Nat.reduceAdd, Nat.reduceSub, Nat.reduceMul, Nat.reduceLeDiff, Nat.reduceLT, reduceIte, reduceCtorEq, Nat.succ_ne_zero, elemsC, Int.reduceToNat, Nat.reducePow, i0, i4, iP, i6, iR, i10, i11, i12, i7, hat, hrl]))
      exact ⟨⟨1, rfl, by omega, .inr rfl⟩, by omega⟩
    · (try (simp only [go_sem, Nat.reduceEqDiff, Nat.reduceAdd, Nat.reduceSub, Nat.reduceMul, Nat.reduceLeDiff, Nat.reduceLT, reduceIte, reduceCtorEq, Nat.succ_ne_zero, elemsC, Int.reduceToNat, Nat.reducePow, i0, i4, iP, i6, iR, i10, i11, i12, i7, hat, hrl])); repeat ((first | (simp (disch := (first | omega | (simp only [AL, List.length_map]; omega))) only [AR, AL, ifT, ifF, take_all, List.length_cons, List.length_nil, Int.reduceToNat, Int.reducePow, Nat.reducePow, i0, i4, iP, i6, iR, i10, i11, i12, i7, hat, hrl]) | (refine wk_intro (by kernel_rfl) ?_)); try (simp only [go_sem, Nat.reduceEqDiff, Nat.reduceAdd, Nat.reduceSub, Nat.reduceMul, Nat.reduceLeDiff, Nat.reduceLT, reduceIte, reduceCtorEq, Nat.succ_ne_zero, elemsC, Int.reduceToNat, Nat.reducePow, i0, i4, iP, i6, iR, i10, i11, i12, i7, hat, hrl]))
      refine vf_of (hA) ?_; (try (simp only [go_sem, Nat.reduceEqDiff, Nat.reduceAdd, Nat.reduceSub, Nat.reduceMul, Nat.reduceLeDiff, Nat.reduceLT, reduceIte, reduceCtorEq, Nat.succ_ne_zero, elemsC, Int.reduceToNat, Nat.reducePow, i0, i4, iP, i6, iR, i10, i11, i12, i7, hat, hrl])); repeat ((first | (simp (disch := (first | omega | (simp only [AL, List.length_map]; omega))) only [AR, AL, ifT, ifF, take_all, List.length_cons, List.length_nil, Int.reduceToNat, Int.reducePow, Nat.reducePow, i0, i4, iP, i6, iR, i10, i11, i12, i7, hat, hrl]) | (refine wk_intro (by kernel_rfl) ?_)); try (simp only [go_sem, Nat.reduceEqDiff, Nat.reduceAdd, Nat.reduceSub, Nat.reduceMul, Nat.reduceLeDiff, Nat.reduceLT, reduceIte, reduceCtorEq, Nat.succ_ne_zero, elemsC, Int.reduceToNat, Nat.reducePow, i0, i4, iP, i6, iR, i10, i11, i12, i7, hat, hrl]))
      exact ⟨⟨i + 1, rfl, by omega, .inr rfl⟩, by omega⟩
theorem disc_BinomCdf {v : SV} {x : Rat} {L : Nat} {n : Nat} {k : Int} (hv : RatA v x L) (hL : 1 ≤ L) (hL2 : L ≤ 100) (hn : n ≤ 256) (hx0 : 0 ≤ x) (hx1 : x ≤ 1) (hk : -9223372036854775808 ≤ k ∧ k < 9223372036854775808) :
    Go.Ev.Fn CX 27 [.int .i64 (n : Int), .int .i64 k, v] (.tup [rv (cdfB n k x), .bool true]) := by
  have hT := disc_isTry (n := (n : Int)) hv hL (by omega)
  have ht : tryD (n : Int) x = true := by
    unfold tryD
    rw [decide_eq_true (show (0 : Int) ≤ (n : Int) by omega), decide_eq_true (show (n : Int) ≤ 256 by omega), decide_eq_true hx0, decide_eq_true hx1]
    rfl
  rw [ht] at hT
  have r0 := rat_Int 0 (by omega)
  have r1 := rat_Int 1 (by omega)
  obtain ⟨z1, z2⟩ := szR_of hv hL
  obtain ⟨hle, -⟩ := unit_num hx0 hx1
  have hvv := hv
  obtain ⟨s, y, d, rfl, -⟩ := hv
  refine Go.Ev.Fn.intro (fn := Try.f27) (body := (Try.f27).body.get!) (by kernel_rfl) (by kernel_rfl) (by kernel_rfl) (fun _ => rfl) (Nat.le_of_ble_eq_true (by kernel_rfl)) ?_; unfold Try.f27; simp only [Option.get!_some]
  by_cases h1 : k < 0
  · rw [show cdfB n k x = ((0 : Int) : Rat) from if_pos h1]
    (try (simp only [go_sem, Nat.reduceEqDiff, Nat.reduceAdd, Nat.reduceSub, Nat.reduceMul, Nat.reduceLeDiff, Nat.reduceLT, reduceIte, reduceCtorEq, Nat.succ_ne_zero, elemsC, Int.reduceToNat, Nat.reducePow])); repeat ((first | (simp (disch := (first | omega | (simp only [AL, List.length_map]; omega))) only [AR, AL, ifT, ifF, take_all, List.length_cons, List.length_nil, Int.reduceToNat, Int.reducePow, Nat.reducePow]) | (refine wk_intro (by kernel_rfl) ?_) | (refine vp_draw (id := 2) (l := []) (by kernel_rfl) ?_) | (refine vp_draw (id := 5) (l := [31]) (by kernel_rfl) ?_)); try (simp only [go_sem, Nat.reduceEqDiff, Nat.reduceAdd, Nat.reduceSub, Nat.reduceMul, Nat.reduceLeDiff, Nat.reduceLT, reduceIte, reduceCtorEq, Nat.succ_ne_zero, elemsC, Int.reduceToNat, Nat.reducePow]))
    refine vf_of (hT) ?_; (try (simp only [go_sem, Nat.reduceEqDiff, Nat.reduceAdd, Nat.reduceSub, Nat.reduceMul, Nat.reduceLeDiff, Nat.reduceLT, reduceIte, reduceCtorEq, Nat.succ_ne_zero, elemsC, Int.reduceToNat, Nat.reducePow, Bool.not_true])); repeat ((first | (simp (disch := (first | omega | (simp only [AL, List.length_map]; omega))) only [AR, AL, ifT, ifF, take_all, List.length_cons, List.length_nil, Int.reduceToNat, Int.reducePow, Nat.reducePow, Bool.not_true]) | (refine wk_intro (by kernel_rfl) ?_) | (refine vp_draw (id := 2) (l := []) (by kernel_rfl) ?_) | (refine vp_draw (id := 5) (l := [31]) (by kernel_rfl) ?_)); try (simp only [go_sem, Nat.reduceEqDiff, Nat.reduceAdd, Nat.reduceSub, Nat.reduceMul, Nat.reduceLeDiff, Nat.reduceLT, reduceIte, reduceCtorEq, Nat.succ_ne_zero, elemsC, Int.reduceToNat, Nat.reducePow, Bool.not_true]))
    refine vf_of (r0) ?_; (try (simp only [go_sem, Nat.reduceEqDiff, Nat.reduceAdd, Nat.reduceSub, Nat.reduceMul, Nat.reduceLeDiff, Nat.reduceLT, reduceIte, reduceCtorEq, Nat.succ_ne_zero, elemsC, Int.reduceToNat, Nat.reducePow])); repeat ((first | (simp (disch := (first | omega | (simp only [AL, List.length_map]; omega))) only [AR, AL, ifT, ifF, take_all, List.length_cons, List.length_nil, Int.reduceToNat, Int.reducePow, Nat.reducePow]) | (refine wk_intro (by kernel_rfl) ?_) | (refine vp_draw (id := 2) (l := []) (by kernel_rfl) ?_) | (refine vp_draw (id := 5) (l := [31]) (by kernel_rfl) ?_)); try (simp only [go_sem, Nat.reduceEqDiff, Nat.reduceAdd, Nat.reduceSub, Nat.reduceMul, Nat.reduceLeDiff, Nat.reduceLT, reduceIte, reduceCtorEq, Nat.succ_ne_zero, elemsC, Int.reduceToNat, Nat.reducePow]))
    refine vf_of (hT) ?_; (try (simp only [go_sem, Nat.reduceEqDiff, Nat.reduceAdd, Nat.reduceSub, Nat.reduceMul, Nat.reduceLeDiff, Nat.reduceLT, reduceIte, reduceCtorEq, Nat.succ_ne_zero, elemsC, Int.reduceToNat, Nat.reducePow])); repeat ((first | (simp (disch := (first | omega | (simp only [AL, List.length_map]; omega))) only [AR, AL, ifT, ifF, take_all, List.length_cons, List.length_nil, Int.reduceToNat, Int.reducePow, Nat.reducePow]) | (refine wk_intro (by kernel_rfl) ?_) | (refine vp_draw (id := 2) (l := []) (by kernel_rfl) ?_) | (refine vp_draw (id := 5) (l := [31]) (by kernel_rfl) ?_)); try (simp only [go_sem, Nat.reduceEqDiff, Nat.reduceAdd, Nat.reduceSub, Nat.reduceMul, Nat.reduceLeDiff, Nat.reduceLT, reduceIte, reduceCtorEq, Nat.succ_ne_zero, elemsC, Int.reduceToNat, Nat.reducePow]))
  · by_cases h2 : (n : Int) ≤ k
    · rw [show cdfB n k x = ((1 : Int) : Rat) by unfold cdfB; rw [if_neg h1, if_pos h2]; rfl]
      (try (simp only [go_sem, Nat.reduceEqDiff, Nat.reduceAdd, Nat.reduceSub, Nat.reduceMul, Nat.reduceLeDiff, Nat.reduceLT, reduceIte, reduceCtorEq, Nat.succ_ne_zero, elemsC, Int.reduceToNat, Nat.reducePow])); repeat ((first | (simp (disch := (first | omega | (simp only [AL, List.length_map]; omega))) only [AR, AL, ifT, ifF, take_all, List.length_cons, List.length_nil, Int.reduceToNat, Int.reducePow, Nat.reducePow]) | (refine wk_intro (by kernel_rfl) ?_) | (refine vp_draw (id := 2) (l := []) (by kernel_rfl) ?_) | (refine vp_draw (id := 5) (l := [31]) (by kernel_rfl) ?_)); try (simp only [go_sem, Nat.reduceEqDiff, Nat.reduceAdd, Nat.reduceSub, Nat.reduceMul, Nat.reduceLeDiff, Nat.reduceLT, reduceIte, reduceCtorEq, Nat.succ_ne_zero, elemsC, Int.reduceToNat, Nat.reducePow]))
      refine vf_of (hT) ?_; (try (simp only [go_sem, Nat.reduceEqDiff, Nat.reduceAdd, Nat.reduceSub, Nat.reduceMul, Nat.reduceLeDiff, Nat.reduceLT, reduceIte, reduceCtorEq, Nat.succ_ne_zero, elemsC, Int.reduceToNat, Nat.reducePow, Bool.not_true])); repeat ((first | (simp (disch := (first | omega | (simp only [AL, List.length_map]; omega))) only [AR, AL, ifT, ifF, take_all, List.length_cons, List.length_nil, Int.reduceToNat, Int.reducePow, Nat.reducePow, Bool.not_true]) | (refine wk_intro (by kernel_rfl) ?_) | (refine vp_draw (id := 2) (l := []) (by kernel_rfl) ?_) | (refine vp_draw (id := 5) (l := [31]) (by kernel_rfl) ?_)); try (simp only [go_sem, Nat.reduceEqDiff, Nat.reduceAdd, Nat.reduceSub, Nat.reduceMul, Nat.reduceLeDiff, Nat.reduceLT, reduceIte, reduceCtorEq, Nat.succ_ne_zero, elemsC, Int.reduceToNat, Nat.reducePow, Bool.not_true]))
      refine vf_of (r1) ?_; (try (simp only [go_sem, Nat.reduceEqDiff, Nat.reduceAdd, Nat.reduceSub, Nat.reduceMul, Nat.reduceLeDiff, Nat.reduceLT, reduceIte, reduceCtorEq, Nat.succ_ne_zero, elemsC, Int.reduceToNat, Nat.reducePow])); repeat ((first | (simp (disch := (first | omega | (simp only [AL, List.length_map]; omega))) only [AR, AL, ifT, ifF, take_all, List.length_cons, List.length_nil, Int.reduceToNat, Int.reducePow, Nat.reducePow]) | (refine wk_intro (by kernel_rfl) ?_) | (refine vp_draw (id := 2) (l := []) (by kernel_rfl) ?_) | (refine vp_draw (id := 5) (l := [31]) (by kernel_rfl) ?_)); try (simp only [go_sem, Nat.reduceEqDiff, Nat.reduceAdd, Nat.reduceSub, Nat.reduceMul, Nat.reduceLeDiff, Nat.reduceLT, reduceIte, reduceCtorEq, Nat.succ_ne_zero, elemsC, Int.reduceToNat, Nat.reducePow]))
    · obtain ⟨K, rfl⟩ : ∃ K : Nat, k = (K : Int) := ⟨k.toNat, by omega⟩
      rw [show cdfB n (K : Int) x = mkRat (sumN x.num.natAbs (x.den - x.num.natAbs) n (K + 1) : Nat) (x.den ^ n) by unfold cdfB; rw [if_neg h1, if_neg h2, Int.toNat_natCast]]
      have hf := lim_len_mono (Nat.sub_le x.den x.num.natAbs)
      have t1 := disc_tries (n := n) (k := K) hvv hL hL2 hn (by omega) hle
      have tl := fun j (hj : j < K + 1) => term_len (p := x.num.natAbs) (f := x.den - x.num.natAbs) (n := n) hn (by omega) (by omega) j (by omega)
      have sl : ∀ j, j ≤ K + 1 → (lim (sumN x.num.natAbs (x.den - x.num.natAbs) n j)).length ≤ 100000 := by
        intro j hj
        have : ∀ j, j ≤ K + 1 → (lim (sumN x.num.natAbs (x.den - x.num.natAbs) n j)).length ≤ 90000 + j := by
          intro j
          induction j with
          | zero => intro _; rw [show sumN x.num.natAbs (x.den - x.num.natAbs) n 0 = 0 from rfl, lim_zero]; simp
          | succ j ih =>
            intro hj
            exact lim_len_add2 (L := 90000 + j) (ih (by omega)) (Nat.le_trans (tl j (by omega)) (Nat.le_add_right _ _))
        have := this j hj
        omega
      have s1 := disc_sum (n := n) (k := K + 1) (g := termN x.num.natAbs (x.den - x.num.natAbs) n) (S := sumN x.num.natAbs (x.den - x.num.natAbs) n) hvv hL hL2 hn (by omega) rfl (fun _ => rfl) tl sl
      (try (simp only [go_sem, Nat.reduceEqDiff, Nat.reduceAdd, Nat.reduceSub, Nat.reduceMul, Nat.reduceLeDiff, Nat.reduceLT, reduceIte, reduceCtorEq, Nat.succ_ne_zero, elemsC, Int.reduceToNat, Nat.reducePow])); repeat ((first | (simp (disch := (first | omega | (simp only [AL, List.length_map]; omega))) only [AR, AL, ifT, ifF, take_all, List.length_cons, List.length_nil, Int.reduceToNat, Int.reducePow, Nat.reducePow]) | (refine wk_intro (by kernel_rfl) ?_) | (refine vp_draw (id := 2) (l := []) (by kernel_rfl) ?_) | (refine vp_draw (id := 5) (l := [31]) (by kernel_rfl) ?_)); try (simp only [go_sem, Nat.reduceEqDiff, Nat.reduceAdd, Nat.reduceSub, Nat.reduceMul, Nat.reduceLeDiff, Nat.reduceLT, reduceIte, reduceCtorEq, Nat.succ_ne_zero, elemsC, Int.reduceToNat, Nat.reducePow]))
      refine vf_of (hT) ?_; (try (simp only [go_sem, Nat.reduceEqDiff, Nat.reduceAdd, Nat.reduceSub, Nat.reduceMul, Nat.reduceLeDiff, Nat.reduceLT, reduceIte, reduceCtorEq, Nat.succ_ne_zero, elemsC, Int.reduceToNat, Nat.reducePow, Bool.not_true])); repeat ((first | (simp (disch := (first | omega | (simp only [AL, List.length_map]; omega))) only [AR, AL, ifT, ifF, take_all, List.length_cons, List.length_nil, Int.reduceToNat, Int.reducePow, Nat.reducePow, Bool.not_true]) | (refine wk_intro (by kernel_rfl) ?_) | (refine vp_draw (id := 2) (l := []) (by kernel_rfl) ?_) | (refine vp_draw (id := 5) (l := [31]) (by kernel_rfl) ?_)); try (simp only [go_sem, Nat.reduceEqDiff, Nat.reduceAdd, Nat.reduceSub, Nat.reduceMul, Nat.reduceLeDiff, Nat.reduceLT, reduceIte, reduceCtorEq, Nat.succ_ne_zero, elemsC, Int.reduceToNat, Nat.reducePow, Bool.not_true]))
      refine vf_of (t1) ?_; (try (simp only [go_sem, Nat.reduceEqDiff, Nat.reduceAdd, Nat.reduceSub, Nat.reduceMul, Nat.reduceLeDiff, Nat.reduceLT, reduceIte, reduceCtorEq, Nat.succ_ne_zero, elemsC, Int.reduceToNat, Nat.reducePow])); repeat ((first | (simp (disch := (first | omega | (simp only [AL, List.length_map]; omega))) only [AR, AL, ifT, ifF, take_all, List.length_cons, List.length_nil, Int.reduceToNat, Int.reducePow, Nat.reducePow]) | (refine wk_intro (by kernel_rfl) ?_) | (refine vp_draw (id := 2) (l := []) (by kernel_rfl) ?_) | (refine vp_draw (id := 5) (l := [31]) (by kernel_rfl) ?_)); try (simp only [go_sem, Nat.reduceEqDiff, Nat.reduceAdd, Nat.reduceSub, Nat.reduceMul, Nat.reduceLeDiff, Nat.reduceLT, reduceIte, reduceCtorEq, Nat.succ_ne_zero, elemsC, Int.reduceToNat, Nat.reducePow]))
      refine vf_of (s1) ?_; (try (simp only [go_sem, Nat.reduceEqDiff, Nat.reduceAdd, Nat.reduceSub, Nat.reduceMul, Nat.reduceLeDiff, Nat.reduceLT, reduceIte, reduceCtorEq, Nat.succ_ne_zero, elemsC, Int.reduceToNat, Nat.reducePow])); repeat ((first | (simp (disch := (first | omega | (simp only [AL, List.length_map]; omega))) only [AR, AL, ifT, ifF, take_all, List.length_cons, List.length_nil, Int.reduceToNat, Int.reducePow, Nat.reducePow]) | (refine wk_intro (by kernel_rfl) ?_) | (refine vp_draw (id := 2) (l := []) (by kernel_rfl) ?_) | (refine vp_draw (id := 5) (l := [31]) (by kernel_rfl) ?_)); try (simp only [go_sem, Nat.reduceEqDiff, Nat.reduceAdd, Nat.reduceSub, Nat.reduceMul, Nat.reduceLeDiff, Nat.reduceLT, reduceIte, reduceCtorEq, Nat.succ_ne_zero, elemsC, Int.reduceToNat, Nat.reducePow]))
end Go.Proofs.Ytdnmhnjblgkjaaa
