/- Part 11 of the proof: the evaluator, contracts of functions and their plain laws (joined by program). No condition. -/
import Derived.Test.YtdnmhnjblgkjaaaPart10
/- vernierlaw19: TestMoves, TestPairs, TestTurns, in the evaluator. -/
namespace Go.Proofs.Ytdnmhnjblgkjaaa
set_option linter.unusedSimpArgs false
set_option linter.unusedVariables false
set_option maxRecDepth 8000
open Go.Ev
theorem sz_stu {l : List Rat} {mu : Rat} (h : ∀ x ∈ l, szR x 10) (hm : szR mu 10) (hl : l.length ≤ 12) : szR (stuR l mu).1 1000000 := by
  unfold stuR
  by_cases c1 : l.length < 2
  · rw [if_pos c1]; exact szR_zero (by omega)
  rw [if_neg c1]
  by_cases c2 : varR l = 0
  · rw [if_pos c2]; exact szR_zero (by omega)
  rw [if_neg c2]
  have zd := szR_sub (sz_mean (by omega) h hl) hm (by omega)
  exact szR_mono (szR_div (szR_mul (int_szR (n := (l.length : Int)) (by omega)) (szR_mul zd zd (by omega)) (by omega)) (sz_var (by omega) h hl) (by omega) (by omega)) (by omega)
theorem sz_pool {l m : List Rat} (h : ∀ x ∈ l, szR x 10) (h2 : ∀ x ∈ m, szR x 10) (hl : l.length ≤ 12) (hm : m.length ≤ 12) : szR (poolR l m).1 1000000 := by
  unfold poolR
  split
  · exact szR_zero (by omega)
  split
  · exact szR_zero (by omega)
  have zd := szR_sub (sz_mean (by omega) h hl) (sz_mean (by omega) h2 hm) (by omega)
  have hlm := Nat.mul_le_mul hl hm
  have elm : (l.length : Int) * (m.length : Int) = ((l.length * m.length : Nat) : Int) := (Int.natCast_mul _ _).symm
  have zv := szR_div (M := 2) (szR_add (sz_sq (by omega) h hl) (sz_sq (by omega) h2 hm) (by omega)) (int_szR (n := (l.length : Int) + (m.length : Int) - 2) (by omega)) (by omega) (by omega)
  have zw := szR_div (M := 2) (int_szR (n := (l.length : Int) + (m.length : Int)) (by omega)) (int_szR (n := (l.length : Int) * (m.length : Int)) (by rw [elm]; omega)) (by omega) (by omega)
  exact szR_mono (szR_div (szR_mul zd zd (by omega)) (szR_mul zv zw (by omega)) (by omega) (by omega)) (by omega)
theorem sz_fis {l m : List Rat} (h : ∀ x ∈ l, szR x 10) (h2 : ∀ x ∈ m, szR x 10) (hl : l.length ≤ 12) (hm : m.length ≤ 12) : szR (fisR l m).1 1000000 := by
  unfold fisR
  split
  · exact szR_zero (by omega)
  split
  · exact szR_zero (by omega)
  exact szR_mono (szR_div (sz_var (by omega) h hl) (sz_var (by omega) h2 hm) (by omega) (by omega)) (by omega)
theorem statR_stu {kind : Int} {l : List Rat} {mu : Rat} (hl : l.length ≤ 12) (hk : kind = 2 ∨ kind = 3) : statR kind (stuR l mu) = stuR l mu := by
  unfold stuR
  by_cases c1 : l.length < 2
  · rw [if_pos c1]; rfl
  rw [if_neg c1]
  by_cases c2 : varR l = 0
  · rw [if_pos c2]; rfl
  rw [if_neg c2]
  unfold statR
  simp only
  rw [if_neg (by simp), if_neg (by simp; omega), if_neg (fun h => by omega)]
theorem statR_pool {l m : List Rat} (hl : l.length ≤ 12) (hm : m.length ≤ 12) : statR 4 (poolR l m) = poolR l m := by
  unfold poolR
  split
  · rfl
  split
  · rfl
  unfold statR
  simp only
  rw [if_neg (by simp), if_neg (by simp; omega), if_neg (fun h => by omega)]
theorem statR_fis {l m : List Rat} (hl : l.length ≤ 12) (hm : m.length ≤ 12) : statR 5 (fisR l m) = fisR l m := by
  unfold fisR
  split
  · rfl
  split
  · rfl
  unfold statR
  simp only
  rw [if_neg (by simp), if_neg (by simp; omega), if_neg (fun h => by omega)]
theorem deg_stu {l : List Rat} {mu : Rat} : (stuR l mu).2.1.length ≤ 1000 := by
  unfold stuR
  split
  · simp
  split <;> simp
theorem deg_pool {l m : List Rat} : (poolR l m).2.1.length ≤ 1000 := by
  unfold poolR
  split
  · simp
  split <;> simp
theorem deg_fis {l m : List Rat} : (fisR l m).2.1.length ≤ 1000 := by
  unfold fisR
  split
  · simp
  split <;> simp
theorem row_sz10 {l : List Rat} {cs : List SV} (h : RowC cs l 1) : ∀ x ∈ l, szR x 10 := fun x hx => szR_mono (row_sz (by omega) h x hx) (by omega)
/-- A row's test is told. -/
theorem stat_T {xs : List SV} {l : List Rat} {M : Nat} {sm : Bool} {nm dm : List Nat} {mu : Rat} (h : RowC xs l M) (hM : 1 ≤ M) (hM2 : M ≤ 10) (hm : RatA (ratV sm nm dm) mu 10) (hl : l.length ≤ 12) :
    Go.Ev.Fn CX 18 [testV 2 (.sl l.length xs) (.sl 0 []) (.sl 0 []) sm nm dm false [] [] 0 0] (resV (stuR l mu)) := by
  have h1 := raw_T (Y := 0) (ys := []) (tn := 0) (tc := []) (ss := false) (ns := []) (ds := []) (k := 0) (n := 0) h hM (by omega) hm (by omega) (by omega) hl (by omega)
  have h2 := test_Statistic h1 (sz_stu (fun x hx => szR_mono (row_sz hM h x hx) hM2) (szR_of hm (by omega)) hl) deg_stu
  rw [statR_stu hl (.inl rfl)] at h2
  exact h2
theorem stat_paired {xs ys : List SV} {l m : List Rat} (h : RowC xs l 1) (h2 : RowC ys m 1) (hl : l.length ≤ 12) (hm : m.length = l.length) :
    Go.Ev.Fn CX 18 [testV 3 (.sl l.length xs) (.sl m.length ys) (.sl 0 []) false [] [] false [] [] 0 0] (resV (stuR (List.zipWith (fun a b => a - b) l m) 0)) := by
  have h1 := raw_paired (tn := 0) (tc := []) (sm := false) (nm := []) (dm := []) (ss := false) (ns := []) (ds := []) (k := 0) (n := 0) h h2 hl (by omega)
  rw [if_neg (by omega)] at h1
  have hz : ∀ x ∈ List.zipWith (fun a b => a - b) l m, szR x 10 := by
    intro x hx
    obtain ⟨i, hi, rfl⟩ := List.getElem_of_mem hx
    rw [List.getElem_zipWith]
    exact szR_mono (szR_sub (row_sz (by omega) h _ (List.getElem_mem _)) (row_sz (by omega) h2 _ (List.getElem_mem _)) (by omega)) (by omega)
  have h3 := test_Statistic h1 (sz_stu hz (szR_zero (by omega)) (by rw [List.length_zipWith]; omega)) deg_stu
  rw [statR_stu (by rw [List.length_zipWith]; omega) (.inr rfl)] at h3
  exact h3
theorem stat_pooled {xs ys : List SV} {l m : List Rat} (h : RowC xs l 1) (h2 : RowC ys m 1) (hl : l.length ≤ 12) (hm : m.length ≤ 12) :
    Go.Ev.Fn CX 18 [testV 4 (.sl l.length xs) (.sl m.length ys) (.sl 0 []) false [] [] false [] [] 0 0] (resV (poolR l m)) := by
  have h1 := raw_pooled (tn := 0) (tc := []) (sm := false) (nm := []) (dm := []) (ss := false) (ns := []) (ds := []) (k := 0) (n := 0) h h2 hl hm
  have h3 := test_Statistic h1 (sz_pool (row_sz10 h) (row_sz10 h2) hl hm) deg_pool
  rw [statR_pool hl hm] at h3
  exact h3
theorem stat_fisher {xs ys : List SV} {l m : List Rat} (h : RowC xs l 1) (h2 : RowC ys m 1) (hl : l.length ≤ 12) (hm : m.length ≤ 12) :
    Go.Ev.Fn CX 18 [testV 5 (.sl l.length xs) (.sl m.length ys) (.sl 0 []) false [] [] false [] [] 0 0] (resV (fisR l m)) := by
  have h1 := raw_fisher (tn := 0) (tc := []) (sm := false) (nm := []) (dm := []) (ss := false) (ns := []) (ds := []) (k := 0) (n := 0) h h2 hl hm
  have h3 := test_Statistic h1 (sz_fis (row_sz10 h) (row_sz10 h2) hl hm) deg_fis
  rw [statR_fis hl hm] at h3
  exact h3
theorem stu_known : stuR [((1 : Int) : Rat), ((2 : Int) : Rat), ((3 : Int) : Rat)] 0 = (((12 : Int) : Rat), [2], 0) := by decide +kernel
theorem law19_known : Go.Ev.Fn CX 21 [] (.bool true) := by
  have i1 := ref2_Int 1 (by omega)
  have i2 := ref2_Int 2 (by omega)
  have i3 := ref2_Int 3 (by omega)
  have i12 := ref2_Int 12 (by omega)
  have hr : RowC (rvsC [((1 : Int) : Rat), ((2 : Int) : Rat), ((3 : Int) : Rat)]) [((1 : Int) : Rat), ((2 : Int) : Rat), ((3 : Int) : Rat)] 2 := rvsC_row _ (by
    intro x hx
    simp only [List.mem_cons, List.not_mem_nil, or_false] at hx
    rcases hx with rfl | rfl | rfl <;> exact int_szR (by omega))
  have s1 := stat_T (M := 2) (sm := false) (nm := []) (dm := []) (mu := 0) hr (by omega) (by omega) ⟨_, _, _, rfl, okL_nil, okL_nil, by simp, by simp, rfl⟩ (by simp)
  rw [stu_known] at s1
  have n1 := law19_numbers [2] [2] (by simp) (by simp)
  rw [decide_eq_true rfl] at n1
  have e1 := ref2_Same (RatA_rv (int_szR (n := 12) (by omega))) (RatA_rv (int_szR (n := 12) (by omega))) (by omega) (by omega) (by omega)
  rw [decide_eq_true rfl] at e1
  clear hr
  refine Go.Ev.Fn.intro (fn := Try.f21) (body := (Try.f21).body.get!) (by kernel_rfl) (by kernel_rfl) (by kernel_rfl) (fun _ => rfl) (Nat.le_of_ble_eq_true (by kernel_rfl)) ?_; unfold Try.f21; simp only [Option.get!_some]
  (try (simp only [go_sem, Nat.reduceEqDiff, Nat.reduceAdd, Nat.reduceSub, Nat.reduceMul, Nat.reduceLeDiff, Nat.reduceLT, reduceIte, reduceCtorEq, Nat.succ_ne_zero, elemsC, Int.reduceToNat, Nat.reducePow])); repeat ((first | (simp (disch := (first | omega | (simp only [AL, List.length_map]; omega))) only [AR, AL, ifT, ifF, take_all, List.length_cons, List.length_nil, Int.reduceToNat, Int.reducePow, Nat.reducePow]) | (refine wk_intro (by kernel_rfl) ?_) | (refine vp_draw (id := 2) (l := [2, 18]) (by kernel_rfl) ?_)); try (simp only [go_sem, Nat.reduceEqDiff, Nat.reduceAdd, Nat.reduceSub, Nat.reduceMul, Nat.reduceLeDiff, Nat.reduceLT, reduceIte, reduceCtorEq, Nat.succ_ne_zero, elemsC, Int.reduceToNat, Nat.reducePow]))
  refine vf_of (i1) ?_; (try (simp only [go_sem, Nat.reduceEqDiff, Nat.reduceAdd, Nat.reduceSub, Nat.reduceMul, Nat.reduceLeDiff, Nat.reduceLT, reduceIte, reduceCtorEq, Nat.succ_ne_zero, elemsC, Int.reduceToNat, Nat.reducePow])); repeat ((first | (simp (disch := (first | omega | (simp only [AL, List.length_map]; omega))) only [AR, AL, ifT, ifF, take_all, List.length_cons, List.length_nil, Int.reduceToNat, Int.reducePow, Nat.reducePow]) | (refine wk_intro (by kernel_rfl) ?_) | (refine vp_draw (id := 2) (l := [2, 18]) (by kernel_rfl) ?_)); try (simp only [go_sem, Nat.reduceEqDiff, Nat.reduceAdd, Nat.reduceSub, Nat.reduceMul, Nat.reduceLeDiff, Nat.reduceLT, reduceIte, reduceCtorEq, Nat.succ_ne_zero, elemsC, Int.reduceToNat, Nat.reducePow]))
  refine vf_of (i2) ?_; (try (simp only [go_sem, Nat.reduceEqDiff, Nat.reduceAdd, Nat.reduceSub, Nat.reduceMul, Nat.reduceLeDiff, Nat.reduceLT, reduceIte, reduceCtorEq, Nat.succ_ne_zero, elemsC, Int.reduceToNat, Nat.reducePow])); repeat ((first | (simp (disch := (first | omega | (simp only [AL, List.length_map]; omega))) only [AR, AL, ifT, ifF, take_all, List.length_cons, List.length_nil, Int.reduceToNat, Int.reducePow, Nat.reducePow]) | (refine wk_intro (by kernel_rfl) ?_) | (refine vp_draw (id := 2) (l := [2, 18]) (by kernel_rfl) ?_)); try (simp only [go_sem, Nat.reduceEqDiff, Nat.reduceAdd, Nat.reduceSub, Nat.reduceMul, Nat.reduceLeDiff, Nat.reduceLT, reduceIte, reduceCtorEq, Nat.succ_ne_zero, elemsC, Int.reduceToNat, Nat.reducePow]))
  refine vf_of (i3) ?_; (try (simp only [go_sem, Nat.reduceEqDiff, Nat.reduceAdd, Nat.reduceSub, Nat.reduceMul, Nat.reduceLeDiff, Nat.reduceLT, reduceIte, reduceCtorEq, Nat.succ_ne_zero, elemsC, Int.reduceToNat, Nat.reducePow])); repeat ((first | (simp (disch := (first | omega | (simp only [AL, List.length_map]; omega))) only [AR, AL, ifT, ifF, take_all, List.length_cons, List.length_nil, Int.reduceToNat, Int.reducePow, Nat.reducePow]) | (refine wk_intro (by kernel_rfl) ?_) | (refine vp_draw (id := 2) (l := [2, 18]) (by kernel_rfl) ?_)); try (simp only [go_sem, Nat.reduceEqDiff, Nat.reduceAdd, Nat.reduceSub, Nat.reduceMul, Nat.reduceLeDiff, Nat.reduceLT, reduceIte, reduceCtorEq, Nat.succ_ne_zero, elemsC, Int.reduceToNat, Nat.reducePow]))
  refine vf_of (s1) ?_; (try (simp only [go_sem, Nat.reduceEqDiff, Nat.reduceAdd, Nat.reduceSub, Nat.reduceMul, Nat.reduceLeDiff, Nat.reduceLT, reduceIte, reduceCtorEq, Nat.succ_ne_zero, elemsC, Int.reduceToNat, Nat.reducePow])); repeat ((first | (simp (disch := (first | omega | (simp only [AL, List.length_map]; omega))) only [AR, AL, ifT, ifF, take_all, List.length_cons, List.length_nil, Int.reduceToNat, Int.reducePow, Nat.reducePow]) | (refine wk_intro (by kernel_rfl) ?_) | (refine vp_draw (id := 2) (l := [2, 18]) (by kernel_rfl) ?_)); try (simp only [go_sem, Nat.reduceEqDiff, Nat.reduceAdd, Nat.reduceSub, Nat.reduceMul, Nat.reduceLeDiff, Nat.reduceLT, reduceIte, reduceCtorEq, Nat.succ_ne_zero, elemsC, Int.reduceToNat, Nat.reducePow]))
  refine vf_of (n1) ?_; (try (simp only [go_sem, Nat.reduceEqDiff, Nat.reduceAdd, Nat.reduceSub, Nat.reduceMul, Nat.reduceLeDiff, Nat.reduceLT, reduceIte, reduceCtorEq, Nat.succ_ne_zero, elemsC, Int.reduceToNat, Nat.reducePow])); repeat ((first | (simp (disch := (first | omega | (simp only [AL, List.length_map]; omega))) only [AR, AL, ifT, ifF, take_all, List.length_cons, List.length_nil, Int.reduceToNat, Int.reducePow, Nat.reducePow]) | (refine wk_intro (by kernel_rfl) ?_) | (refine vp_draw (id := 2) (l := [2, 18]) (by kernel_rfl) ?_)); try (simp only [go_sem, Nat.reduceEqDiff, Nat.reduceAdd, Nat.reduceSub, Nat.reduceMul, Nat.reduceLeDiff, Nat.reduceLT, reduceIte, reduceCtorEq, Nat.succ_ne_zero, elemsC, Int.reduceToNat, Nat.reducePow]))
  refine vf_of (i12) ?_; (try (simp only [go_sem, Nat.reduceEqDiff, Nat.reduceAdd, Nat.reduceSub, Nat.reduceMul, Nat.reduceLeDiff, Nat.reduceLT, reduceIte, reduceCtorEq, Nat.succ_ne_zero, elemsC, Int.reduceToNat, Nat.reducePow])); repeat ((first | (simp (disch := (first | omega | (simp only [AL, List.length_map]; omega))) only [AR, AL, ifT, ifF, take_all, List.length_cons, List.length_nil, Int.reduceToNat, Int.reducePow, Nat.reducePow]) | (refine wk_intro (by kernel_rfl) ?_) | (refine vp_draw (id := 2) (l := [2, 18]) (by kernel_rfl) ?_)); try (simp only [go_sem, Nat.reduceEqDiff, Nat.reduceAdd, Nat.reduceSub, Nat.reduceMul, Nat.reduceLeDiff, Nat.reduceLT, reduceIte, reduceCtorEq, Nat.succ_ne_zero, elemsC, Int.reduceToNat, Nat.reducePow]))
  refine vf_of (e1) ?_; (try (simp only [go_sem, Nat.reduceEqDiff, Nat.reduceAdd, Nat.reduceSub, Nat.reduceMul, Nat.reduceLeDiff, Nat.reduceLT, reduceIte, reduceCtorEq, Nat.succ_ne_zero, elemsC, Int.reduceToNat, Nat.reducePow])); repeat ((first | (simp (disch := (first | omega | (simp only [AL, List.length_map]; omega))) only [AR, AL, ifT, ifF, take_all, List.length_cons, List.length_nil, Int.reduceToNat, Int.reducePow, Nat.reducePow]) | (refine wk_intro (by kernel_rfl) ?_) | (refine vp_draw (id := 2) (l := [2, 18]) (by kernel_rfl) ?_)); try (simp only [go_sem, Nat.reduceEqDiff, Nat.reduceAdd, Nat.reduceSub, Nat.reduceMul, Nat.reduceLeDiff, Nat.reduceLT, reduceIte, reduceCtorEq, Nat.succ_ne_zero, elemsC, Int.reduceToNat, Nat.reducePow]))
end Go.Proofs.Ytdnmhnjblgkjaaa

/- vernierlaw19: TestMoves, TestPairs, TestTurns, in the evaluator. -/
namespace Go.Proofs.Ytdnmhnjblgkjaaa
set_option linter.unusedSimpArgs false
set_option linter.unusedVariables false
set_option maxRecDepth 8000
open Go.Ev
theorem same_res (r : Res) (hz : szR r.1 1000000) (hd : r.2.1.length ≤ 1000) : Go.Ev.Fn CX 19 [intsV r.2.1, intsV r.2.1] (.bool true) ∧ Go.Ev.Fn CX 20 [rv r.1, rv r.1] (.bool true) := by
  have n1 := law19_numbers r.2.1 r.2.1 hd hd
  rw [decide_eq_true rfl] at n1
  have e1 := ref2_Same (RatA_rv hz) (RatA_rv hz) (by omega) (by omega) (by omega)
  rw [decide_eq_true rfl] at e1
  exact ⟨n1, e1⟩
section
variable {ps : List InR} {sm sa sb : Bool} {nm dm na da nb db : List Nat}
theorem moves_much (hp : ps.length ≤ maxLen) : Go.Ev.Fn CX 14 [.sl 2 [.sl ps.length (ratsC ps), .sl 3 [.bool sm, natV nm, natV dm, .bool sa, natV na, natV da, .bool sb, natV nb, natV db]]] (.bool (bigR ps || bigR [(sm, nm, dm), (sa, na, da), (sb, nb, db)])) := by
  have h := law19_much (rows := [ps, [(sm, nm, dm), (sa, na, da), (sb, nb, db)]]) (by simp) (by
    intro q hq
    simp only [List.mem_cons, List.not_mem_nil, or_false] at hq
    rcases hq with rfl | rfl
    · exact Nat.le_trans hp (by decide)
    · simp)
  rw [show [ps, [(sm, nm, dm), (sa, na, da), (sb, nb, db)]].any bigR = (bigR ps || bigR [(sm, nm, dm), (sa, na, da), (sb, nb, db)]) by simp [List.any_cons]] at h
  exact h
set_option maxHeartbeats 1000000 in
theorem moves_main {l : List Rat} {cs : List SV} {mu a b : Rat} (hmuch : Go.Ev.Fn CX 14 [.sl 2 [.sl l.length cs, .sl 3 [.bool sm, natV nm, natV dm, .bool sa, natV na, natV da, .bool sb, natV nb, natV db]]] (.bool false))
    (hR : RowC cs l 1) (hl : l.length ≤ 12) (hM : RatA (ratV sm nm dm) mu 1) (hA : RatA (ratV sa na da) a 1) (hB : RatA (ratV sb nb db) b 1) (ha : a ≠ 0) :
    Go.Ev.Fn CX 5 [.sl l.length cs, ratV sm nm dm, ratV sa na da, ratV sb nb db] (.bool true) := by
  have z1 := ref2_Zero hA (by omega) (by omega)
  rw [decide_eq_false ha] at z1
  have s1 := stat_T hR (by omega) (by omega) (RatA_mono hM (by omega)) hl
  have zl : ∀ x ∈ l.map (fun x => x * a + b), szR x 4 := sz_map (row_sz (by omega) hR) (fun x hx => szR_mono (szR_add (szR_mul hx (szR_of hA (by omega)) (by omega)) (szR_of hB (by omega)) (by omega)) (by omega))
  have zm : szR (mu * a + b) 4 := szR_mono (szR_add (szR_mul (szR_of hM (by omega)) (szR_of hA (by omega)) (by omega)) (szR_of hB (by omega)) (by omega)) (by omega)
  have s2 := stat_T (rvsC_row _ zl) (by omega) (by omega) (RatA_rv (szR_mono zm (show 4 ≤ 10 by omega))) (by rw [List.length_map]; exact hl)
  rw [stuR_moves ha, List.length_map] at s2
  obtain ⟨e1, e2⟩ := same_res (stuR l mu) (sz_stu (row_sz10 hR) (szR_mono (szR_of hM (by omega)) (by omega)) hl) deg_stu
  have p1 := ref2_Mul hM hA (by omega) (by omega) (by omega)
  have p2 := ref2_Add (RatA_rv (szR_mul (szR_of hM (by omega)) (szR_of hA (by omega)) (by omega))) hB (by omega) (by omega) (by omega)
  generalize stuR l mu = r at *
  obtain ⟨q, dg, e⟩ := r
  have hlen := row_len hR
  have hol : (l.map fun x => x * a + b).length = l.length := List.length_map _
  have hgd := fun {i : Nat} (hi : i < l.length) => getD_map l (fun x => x * a + b) (i := i) hi
  have hrow := fun {i : Nat} (hi : i < l.length) => row_at (i := i) hR hi
  have htk : (rvsC (l.map fun x => x * a + b)).take (l.length * 3) = rvsC (l.map fun x => x * a + b) := List.take_of_length_le (by rw [rvsC_len, hol]; omega)
  have m1 := fun {x : Rat} {s : Bool} {n d : List Nat} (h : RatA (ratV s n d) x 1) => ref2_Mul h hA (by omega) (by omega) (by omega)
  have m2 := fun {x : Rat} {s : Bool} {n d : List Nat} (h : RatA (ratV s n d) x 1) => ref2_Add (RatA_rv (szR_mul (szR_of h (by omega)) (szR_of hA (by omega)) (by omega))) hB (by omega) (by omega) (by omega)
  generalize hz : l.map (fun x => x * a + b) = z at *
  clear zl zm hM hA hB ha hR
  refine Go.Ev.Fn.intro (fn := Try.f5) (body := (Try.f5).body.get!) (by kernel_rfl) (by kernel_rfl) (by kernel_rfl) (fun _ => rfl) (Nat.le_of_ble_eq_true (by kernel_rfl)) ?_; unfold Try.f5; simp only [Option.get!_some]
  (try (simp only [go_sem, Nat.reduceEqDiff, Nat.reduceAdd, Nat.reduceSub, Nat.reduceMul, Nat.reduceLeDiff, Nat.reduceLT, reduceIte, reduceCtorEq, Nat.succ_ne_zero, elemsC, Int.reduceToNat, Nat.reducePow])); repeat ((first | (simp (disch := (first | omega | (simp only [AL, List.length_map]; omega))) only [AR, AL, ifT, ifF, take_all, List.length_cons, List.length_nil, Int.reduceToNat, Int.reducePow, Nat.reducePow]) | (refine wk_intro (by kernel_rfl) ?_) | (refine vp_draw (id := 7) (l := []) (by kernel_rfl) ?_) | (refine vp_draw (id := 9) (l := [9]) (by kernel_rfl) ?_)); try (simp only [go_sem, Nat.reduceEqDiff, Nat.reduceAdd, Nat.reduceSub, Nat.reduceMul, Nat.reduceLeDiff, Nat.reduceLT, reduceIte, reduceCtorEq, Nat.succ_ne_zero, elemsC, Int.reduceToNat, Nat.reducePow]))
  refine vf_of (hmuch) ?_; (try (simp only [go_sem, Nat.reduceEqDiff, Nat.reduceAdd, Nat.reduceSub, Nat.reduceMul, Nat.reduceLeDiff, Nat.reduceLT, reduceIte, reduceCtorEq, Nat.succ_ne_zero, elemsC, Int.reduceToNat, Nat.reducePow])); repeat ((first | (simp (disch := (first | omega | (simp only [AL, List.length_map]; omega))) only [AR, AL, ifT, ifF, take_all, List.length_cons, List.length_nil, Int.reduceToNat, Int.reducePow, Nat.reducePow]) | (refine wk_intro (by kernel_rfl) ?_) | (refine vp_draw (id := 7) (l := []) (by kernel_rfl) ?_) | (refine vp_draw (id := 9) (l := [9]) (by kernel_rfl) ?_)); try (simp only [go_sem, Nat.reduceEqDiff, Nat.reduceAdd, Nat.reduceSub, Nat.reduceMul, Nat.reduceLeDiff, Nat.reduceLT, reduceIte, reduceCtorEq, Nat.succ_ne_zero, elemsC, Int.reduceToNat, Nat.reducePow]))
  refine vf_of (z1) ?_; (try (simp only [go_sem, Nat.reduceEqDiff, Nat.reduceAdd, Nat.reduceSub, Nat.reduceMul, Nat.reduceLeDiff, Nat.reduceLT, reduceIte, reduceCtorEq, Nat.succ_ne_zero, elemsC, Int.reduceToNat, Nat.reducePow])); repeat ((first | (simp (disch := (first | omega | (simp only [AL, List.length_map]; omega))) only [AR, AL, ifT, ifF, take_all, List.length_cons, List.length_nil, Int.reduceToNat, Int.reducePow, Nat.reducePow]) | (refine wk_intro (by kernel_rfl) ?_) | (refine vp_draw (id := 7) (l := []) (by kernel_rfl) ?_) | (refine vp_draw (id := 9) (l := [9]) (by kernel_rfl) ?_)); try (simp only [go_sem, Nat.reduceEqDiff, Nat.reduceAdd, Nat.reduceSub, Nat.reduceMul, Nat.reduceLeDiff, Nat.reduceLT, reduceIte, reduceCtorEq, Nat.succ_ne_zero, elemsC, Int.reduceToNat, Nat.reducePow]))
  refine vp_loop_inv (fun s => s.tmp 0 = .sv (.sl l.length cs) ∧ s.tmp 5 = .ptr 5 0 0 ∧ s.obj 5 0 = some [.bool sm, natV nm, natV dm] ∧ s.tmp 6 = .ptr 6 0 0 ∧ s.obj 6 0 = some [.bool sa, natV na, natV da] ∧ s.tmp 7 = .ptr 7 0 0 ∧ s.obj 7 0 = some [.bool sb, natV nb, natV db] ∧
      ∃ i : Nat, s.tmp 10 = .sv (.int .i64 (i : Int)) ∧ i ≤ l.length ∧ ((i = 0 ∧ s.tmp 9 = .nil ∧ s.gen 44 = 0) ∨ (0 < i ∧ s.tmp 9 = .ref 44 0 3 0 i ∧ s.obj 44 0 = some (rvsC (z.take i)))))
    (fun s => match s.tmp 10 with | .sv (.int _ i) => l.length - i.toNat | _ => 0) ⟨rfl, rfl, rfl, rfl, rfl, rfl, rfl, 0, rfl, by omega, .inl ⟨rfl, rfl, rfl⟩⟩ ?_
  rintro st ⟨i0, i5, o5, i6, o6, i7, o7, i, i10, hi, hc⟩
  by_cases hend : i = l.length
  · subst hend
    rcases hc with ⟨h00, i9, _⟩ | ⟨_, i9, iP⟩
    · have hz0 : z = [] := List.length_eq_zero_iff.1 (by omega)
      rw [h00] at s1 i0 i10 s2
      subst hz0
      rw [rvsC_nil] at s2
      clear htk hol hgd hrow m1 m2
      (try (simp only [go_sem, Nat.reduceEqDiff, Nat.reduceAdd, Nat.reduceSub, Nat.reduceMul, Nat.reduceLeDiff, Nat.reduceLT, reduceIte, reduceCtorEq, Nat.succ_ne_zero, elemsC, Int.reduceToNat, Nat.reducePow, i0, i5, o5, i6, o6, i7, o7, i10, i9])); repeat ((first | (simp (disch := (first | omega | (simp only [AL, List.length_map]; omega))) only [AR, AL, ifT, ifF, take_all, List.length_cons, List.length_nil, Int.reduceToNat, Int.reducePow, Nat.reducePow, i0, i5, o5, i6, o6, i7, o7, i10, i9]) | (refine wk_intro (by kernel_rfl) ?_) | (refine vp_draw (id := 7) (l := []) (by kernel_rfl) ?_) | (refine vp_draw (id := 9) (l := [9]) (by kernel_rfl) ?_)); try (simp only [go_sem, Nat.reduceEqDiff, Nat.reduceAdd, Nat.reduceSub, Nat.reduceMul, Nat.reduceLeDiff, Nat.reduceLT, reduceIte, reduceCtorEq, Nat.succ_ne_zero, elemsC, Int.reduceToNat, Nat.reducePow, i0, i5, o5, i6, o6, i7, o7, i10, i9]))
      refine vf_of (s1) ?_; (try (simp only [go_sem, Nat.reduceEqDiff, Nat.reduceAdd, Nat.reduceSub, Nat.reduceMul, Nat.reduceLeDiff, Nat.reduceLT, reduceIte, reduceCtorEq, Nat.succ_ne_zero, elemsC, Int.reduceToNat, Nat.reducePow, i0, i5, o5, i6, o6, i7, o7, i10, i9])); repeat ((first | (simp (disch := (first | omega | (simp only [AL, List.length_map]; omega))) only [AR, AL, ifT, ifF, take_all, List.length_cons, List.length_nil, Int.reduceToNat, Int.reducePow, Nat.reducePow, i0, i5, o5, i6, o6, i7, o7, i10, i9]) | (refine wk_intro (by kernel_rfl) ?_) | (refine vp_draw (id := 7) (l := []) (by kernel_rfl) ?_) | (refine vp_draw (id := 9) (l := [9]) (by kernel_rfl) ?_)); try (simp only [go_sem, Nat.reduceEqDiff, Nat.reduceAdd, Nat.reduceSub, Nat.reduceMul, Nat.reduceLeDiff, Nat.reduceLT, reduceIte, reduceCtorEq, Nat.succ_ne_zero, elemsC, Int.reduceToNat, Nat.reducePow, i0, i5, o5, i6, o6, i7, o7, i10, i9]))
      refine vf_of (p1) ?_; (try (simp only [go_sem, Nat.reduceEqDiff, Nat.reduceAdd, Nat.reduceSub, Nat.reduceMul, Nat.reduceLeDiff, Nat.reduceLT, reduceIte, reduceCtorEq, Nat.succ_ne_zero, elemsC, Int.reduceToNat, Nat.reducePow, i0, i5, o5, i6, o6, i7, o7, i10, i9])); repeat ((first | (simp (disch := (first | omega | (simp only [AL, List.length_map]; omega))) only [AR, AL, ifT, ifF, take_all, List.length_cons, List.length_nil, Int.reduceToNat, Int.reducePow, Nat.reducePow, i0, i5, o5, i6, o6, i7, o7, i10, i9]) | (refine wk_intro (by kernel_rfl) ?_) | (refine vp_draw (id := 7) (l := []) (by kernel_rfl) ?_) | (refine vp_draw (id := 9) (l := [9]) (by kernel_rfl) ?_)); try (simp only [go_sem, Nat.reduceEqDiff, Nat.reduceAdd, Nat.reduceSub, Nat.reduceMul, Nat.reduceLeDiff, Nat.reduceLT, reduceIte, reduceCtorEq, Nat.succ_ne_zero, elemsC, Int.reduceToNat, Nat.reducePow, i0, i5, o5, i6, o6, i7, o7, i10, i9]))
      refine vf_of (p2) ?_; (try (simp only [go_sem, Nat.reduceEqDiff, Nat.reduceAdd, Nat.reduceSub, Nat.reduceMul, Nat.reduceLeDiff, Nat.reduceLT, reduceIte, reduceCtorEq, Nat.succ_ne_zero, elemsC, Int.reduceToNat, Nat.reducePow, i0, i5, o5, i6, o6, i7, o7, i10, i9])); repeat ((first | (simp (disch := (first | omega | (simp only [AL, List.length_map]; omega))) only [AR, AL, ifT, ifF, take_all, List.length_cons, List.length_nil, Int.reduceToNat, Int.reducePow, Nat.reducePow, i0, i5, o5, i6, o6, i7, o7, i10, i9]) | (refine wk_intro (by kernel_rfl) ?_) | (refine vp_draw (id := 7) (l := []) (by kernel_rfl) ?_) | (refine vp_draw (id := 9) (l := [9]) (by kernel_rfl) ?_)); try (simp only [go_sem, Nat.reduceEqDiff, Nat.reduceAdd, Nat.reduceSub, Nat.reduceMul, Nat.reduceLeDiff, Nat.reduceLT, reduceIte, reduceCtorEq, Nat.succ_ne_zero, elemsC, Int.reduceToNat, Nat.reducePow, i0, i5, o5, i6, o6, i7, o7, i10, i9]))
      refine vf_of (s2) ?_; (try (simp only [go_sem, Nat.reduceEqDiff, Nat.reduceAdd, Nat.reduceSub, Nat.reduceMul, Nat.reduceLeDiff, Nat.reduceLT, reduceIte, reduceCtorEq, Nat.succ_ne_zero, elemsC, Int.reduceToNat, Nat.reducePow, i0, i5, o5, i6, o6, i7, o7, i10, i9])); repeat ((first | (simp (disch := (first | omega | (simp only [AL, List.length_map]; omega))) only [AR, AL, ifT, ifF, take_all, List.length_cons, List.length_nil, Int.reduceToNat, Int.reducePow, Nat.reducePow, i0, i5, o5, i6, o6, i7, o7, i10, i9]) | (refine wk_intro (by kernel_rfl) ?_) | (refine vp_draw (id := 7) (l := []) (by kernel_rfl) ?_) | (refine vp_draw (id := 9) (l := [9]) (by kernel_rfl) ?_)); try (simp only [go_sem, Nat.reduceEqDiff, Nat.reduceAdd, Nat.reduceSub, Nat.reduceMul, Nat.reduceLeDiff, Nat.reduceLT, reduceIte, reduceCtorEq, Nat.succ_ne_zero, elemsC, Int.reduceToNat, Nat.reducePow, i0, i5, o5, i6, o6, i7, o7, i10, i9]))
      refine vf_of (e1) ?_; (try (simp only [go_sem, Nat.reduceEqDiff, Nat.reduceAdd, Nat.reduceSub, Nat.reduceMul, Nat.reduceLeDiff, Nat.reduceLT, reduceIte, reduceCtorEq, Nat.succ_ne_zero, elemsC, Int.reduceToNat, Nat.reducePow, i0, i5, o5, i6, o6, i7, o7, i10, i9])); repeat ((first | (simp (disch := (first | omega | (simp only [AL, List.length_map]; omega))) only [AR, AL, ifT, ifF, take_all, List.length_cons, List.length_nil, Int.reduceToNat, Int.reducePow, Nat.reducePow, i0, i5, o5, i6, o6, i7, o7, i10, i9]) | (refine wk_intro (by kernel_rfl) ?_) | (refine vp_draw (id := 7) (l := []) (by kernel_rfl) ?_) | (refine vp_draw (id := 9) (l := [9]) (by kernel_rfl) ?_)); try (simp only [go_sem, Nat.reduceEqDiff, Nat.reduceAdd, Nat.reduceSub, Nat.reduceMul, Nat.reduceLeDiff, Nat.reduceLT, reduceIte, reduceCtorEq, Nat.succ_ne_zero, elemsC, Int.reduceToNat, Nat.reducePow, i0, i5, o5, i6, o6, i7, o7, i10, i9]))
      refine vf_of (e2) ?_; (try (simp only [go_sem, Nat.reduceEqDiff, Nat.reduceAdd, Nat.reduceSub, Nat.reduceMul, Nat.reduceLeDiff, Nat.reduceLT, reduceIte, reduceCtorEq, Nat.succ_ne_zero, elemsC, Int.reduceToNat, Nat.reducePow, i0, i5, o5, i6, o6, i7, o7, i10, i9])); repeat ((first | (simp (disch := (first | omega | (simp only [AL, List.length_map]; omega))) only [AR, AL, ifT, ifF, take_all, List.length_cons, List.length_nil, Int.reduceToNat, Int.reducePow, Nat.reducePow, i0, i5, o5, i6, o6, i7, o7, i10, i9]) | (refine wk_intro (by kernel_rfl) ?_) | (refine vp_draw (id := 7) (l := []) (by kernel_rfl) ?_) | (refine vp_draw (id := 9) (l := [9]) (by kernel_rfl) ?_)); try (simp only [go_sem, Nat.reduceEqDiff, Nat.reduceAdd, Nat.reduceSub, Nat.reduceMul, Nat.reduceLeDiff, Nat.reduceLT, reduceIte, reduceCtorEq, Nat.succ_ne_zero, elemsC, Int.reduceToNat, Nat.reducePow, i0, i5, o5, i6, o6, i7, o7, i10, i9]))
      refine vf_of (law19_known) ?_; (try (simp only [go_sem, Nat.reduceEqDiff, Nat.reduceAdd, Nat.reduceSub, Nat.reduceMul, Nat.reduceLeDiff, Nat.reduceLT, reduceIte, reduceCtorEq, Nat.succ_ne_zero, elemsC, Int.reduceToNat, Nat.reducePow])); repeat ((first | (simp (disch := (first | omega | (simp only [AL, List.length_map]; omega))) only [AR, AL, ifT, ifF, take_all, List.length_cons, List.length_nil, Int.reduceToNat, Int.reducePow, Nat.reducePow]) | (refine wk_intro (by kernel_rfl) ?_) | (refine vp_draw (id := 7) (l := []) (by kernel_rfl) ?_) | (refine vp_draw (id := 9) (l := [9]) (by kernel_rfl) ?_)); try (simp only [go_sem, Nat.reduceEqDiff, Nat.reduceAdd, Nat.reduceSub, Nat.reduceMul, Nat.reduceLeDiff, Nat.reduceLT, reduceIte, reduceCtorEq, Nat.succ_ne_zero, elemsC, Int.reduceToNat, Nat.reducePow]))
    · rw [List.take_of_length_le (by omega)] at iP
      clear hgd hrow m1 m2
      (try (simp only [go_sem, Nat.reduceEqDiff, Nat.reduceAdd, Nat.reduceSub, Nat.reduceMul, Nat.reduceLeDiff, Nat.reduceLT, reduceIte, reduceCtorEq, Nat.succ_ne_zero, elemsC, Int.reduceToNat, Nat.reducePow, i0, i5, o5, i6, o6, i7, o7, i10, i9, iP])); repeat ((first | (simp (disch := (first | omega | (simp only [AL, List.length_map]; omega))) only [AR, AL, ifT, ifF, take_all, List.length_cons, List.length_nil, Int.reduceToNat, Int.reducePow, Nat.reducePow, i0, i5, o5, i6, o6, i7, o7, i10, i9, iP]) | (refine wk_intro (by kernel_rfl) ?_) | (refine vp_draw (id := 7) (l := []) (by kernel_rfl) ?_) | (refine vp_draw (id := 9) (l := [9]) (by kernel_rfl) ?_)); try (simp only [go_sem, Nat.reduceEqDiff, Nat.reduceAdd, Nat.reduceSub, Nat.reduceMul, Nat.reduceLeDiff, Nat.reduceLT, reduceIte, reduceCtorEq, Nat.succ_ne_zero, elemsC, Int.reduceToNat, Nat.reducePow, i0, i5, o5, i6, o6, i7, o7, i10, i9, iP]))
      refine vf_of (s1) ?_; (try (simp only [go_sem, Nat.reduceEqDiff, Nat.reduceAdd, Nat.reduceSub, Nat.reduceMul, Nat.reduceLeDiff, Nat.reduceLT, reduceIte, reduceCtorEq, Nat.succ_ne_zero, elemsC, Int.reduceToNat, Nat.reducePow, i0, i5, o5, i6, o6, i7, o7, i10, i9, iP, htk, List.drop_zero, N0, decide_true])); repeat ((first | (simp (disch := (first | omega | (simp only [AL, List.length_map]; omega))) only [AR, AL, ifT, ifF, take_all, List.length_cons, List.length_nil, Int.reduceToNat, Int.reducePow, Nat.reducePow, i0, i5, o5, i6, o6, i7, o7, i10, i9, iP, htk, List.drop_zero, N0, decide_true]) | (refine wk_intro (by kernel_rfl) ?_) | (refine vp_draw (id := 7) (l := []) (by kernel_rfl) ?_) | (refine vp_draw (id := 9) (l := [9]) (by kernel_rfl) ?_)); try (simp only [go_sem, Nat.reduceEqDiff, Nat.reduceAdd, Nat.reduceSub, Nat.reduceMul, Nat.reduceLeDiff, Nat.reduceLT, reduceIte, reduceCtorEq, Nat.succ_ne_zero, elemsC, Int.reduceToNat, Nat.reducePow, i0, i5, o5, i6, o6, i7, o7, i10, i9, iP, htk, List.drop_zero, N0, decide_true]))
      refine vf_of (p1) ?_; (try (simp only [go_sem, Nat.reduceEqDiff, Nat.reduceAdd, Nat.reduceSub, Nat.reduceMul, Nat.reduceLeDiff, Nat.reduceLT, reduceIte, reduceCtorEq, Nat.succ_ne_zero, elemsC, Int.reduceToNat, Nat.reducePow, i0, i5, o5, i6, o6, i7, o7, i10, i9, iP, htk, List.drop_zero])); repeat ((first | (simp (disch := (first | omega | (simp only [AL, List.length_map]; omega))) only [AR, AL, ifT, ifF, take_all, List.length_cons, List.length_nil, Int.reduceToNat, Int.reducePow, Nat.reducePow, i0, i5, o5, i6, o6, i7, o7, i10, i9, iP, htk, List.drop_zero]) | (refine wk_intro (by kernel_rfl) ?_) | (refine vp_draw (id := 7) (l := []) (by kernel_rfl) ?_) | (refine vp_draw (id := 9) (l := [9]) (by kernel_rfl) ?_)); try (simp only [go_sem, Nat.reduceEqDiff, Nat.reduceAdd, Nat.reduceSub, Nat.reduceMul, Nat.reduceLeDiff, Nat.reduceLT, reduceIte, reduceCtorEq, Nat.succ_ne_zero, elemsC, Int.reduceToNat, Nat.reducePow, i0, i5, o5, i6, o6, i7, o7, i10, i9, iP, htk, List.drop_zero]))
      refine vf_of (p2) ?_; (try (simp only [go_sem, Nat.reduceEqDiff, Nat.reduceAdd, Nat.reduceSub, Nat.reduceMul, Nat.reduceLeDiff, Nat.reduceLT, reduceIte, reduceCtorEq, Nat.succ_ne_zero, elemsC, Int.reduceToNat, Nat.reducePow, i0, i5, o5, i6, o6, i7, o7, i10, i9, iP, htk, List.drop_zero])); repeat ((first | (simp (disch := (first | omega | (simp only [AL, List.length_map]; omega))) only [AR, AL, ifT, ifF, take_all, List.length_cons, List.length_nil, Int.reduceToNat, Int.reducePow, Nat.reducePow, i0, i5, o5, i6, o6, i7, o7, i10, i9, iP, htk, List.drop_zero]) | (refine wk_intro (by kernel_rfl) ?_) | (refine vp_draw (id := 7) (l := []) (by kernel_rfl) ?_) | (refine vp_draw (id := 9) (l := [9]) (by kernel_rfl) ?_)); try (simp only [go_sem, Nat.reduceEqDiff, Nat.reduceAdd, Nat.reduceSub, Nat.reduceMul, Nat.reduceLeDiff, Nat.reduceLT, reduceIte, reduceCtorEq, Nat.succ_ne_zero, elemsC, Int.reduceToNat, Nat.reducePow, i0, i5, o5, i6, o6, i7, o7, i10, i9, iP, htk, List.drop_zero]))
      refine vf_of (s2) ?_; (try (simp only [go_sem, Nat.reduceEqDiff, Nat.reduceAdd, Nat.reduceSub, Nat.reduceMul, Nat.reduceLeDiff, Nat.reduceLT, reduceIte, reduceCtorEq, Nat.succ_ne_zero, elemsC, Int.reduceToNat, Nat.reducePow, i0, i5, o5, i6, o6, i7, o7, i10, i9, iP])); repeat ((first | (simp (disch := (first | omega | (simp only [AL, List.length_map]; omega))) only [AR, AL, ifT, ifF, take_all, List.length_cons, List.length_nil, Int.reduceToNat, Int.reducePow, Nat.reducePow, i0, i5, o5, i6, o6, i7, o7, i10, i9, iP]) | (refine wk_intro (by kernel_rfl) ?_) | (refine vp_draw (id := 7) (l := []) (by kernel_rfl) ?_) | (refine vp_draw (id := 9) (l := [9]) (by kernel_rfl) ?_)); try (simp only [go_sem, Nat.reduceEqDiff, Nat.reduceAdd, Nat.reduceSub, Nat.reduceMul, Nat.reduceLeDiff, Nat.reduceLT, reduceIte, reduceCtorEq, Nat.succ_ne_zero, elemsC, Int.reduceToNat, Nat.reducePow, i0, i5, o5, i6, o6, i7, o7, i10, i9, iP]))
      refine vf_of (e1) ?_; (try (simp only [go_sem, Nat.reduceEqDiff, Nat.reduceAdd, Nat.reduceSub, Nat.reduceMul, Nat.reduceLeDiff, Nat.reduceLT, reduceIte, reduceCtorEq, Nat.succ_ne_zero, elemsC, Int.reduceToNat, Nat.reducePow, i0, i5, o5, i6, o6, i7, o7, i10, i9, iP])); repeat ((first | (simp (disch := (first | omega | (simp only [AL, List.length_map]; omega))) only [AR, AL, ifT, ifF, take_all, List.length_cons, List.length_nil, Int.reduceToNat, Int.reducePow, Nat.reducePow, i0, i5, o5, i6, o6, i7, o7, i10, i9, iP]) | (refine wk_intro (by kernel_rfl) ?_) | (refine vp_draw (id := 7) (l := []) (by kernel_rfl) ?_) | (refine vp_draw (id := 9) (l := [9]) (by kernel_rfl) ?_)); try (simp only [go_sem, Nat.reduceEqDiff, Nat.reduceAdd, Nat.reduceSub, Nat.reduceMul, Nat.reduceLeDiff, Nat.reduceLT, reduceIte, reduceCtorEq, Nat.succ_ne_zero, elemsC, Int.reduceToNat, Nat.reducePow, i0, i5, o5, i6, o6, i7, o7, i10, i9, iP]))
      refine vf_of (e2) ?_; (try (simp only [go_sem, Nat.reduceEqDiff, Nat.reduceAdd, Nat.reduceSub, Nat.reduceMul, Nat.reduceLeDiff, Nat.reduceLT, reduceIte, reduceCtorEq, Nat.succ_ne_zero, elemsC, Int.reduceToNat, Nat.reducePow, i0, i5, o5, i6, o6, i7, o7, i10, i9, iP])); repeat ((first | (simp (disch := (first | omega | (simp only [AL, List.length_map]; omega))) only [AR, AL, ifT, ifF, take_all, List.length_cons, List.length_nil, Int.reduceToNat, Int.reducePow, Nat.reducePow, i0, i5, o5, i6, o6, i7, o7, i10, i9, iP]) | (refine wk_intro (by kernel_rfl) ?_) | (refine vp_draw (id := 7) (l := []) (by kernel_rfl) ?_) | (refine vp_draw (id := 9) (l := [9]) (by kernel_rfl) ?_)); try (simp only [go_sem, Nat.reduceEqDiff, Nat.reduceAdd, Nat.reduceSub, Nat.reduceMul, Nat.reduceLeDiff, Nat.reduceLT, reduceIte, reduceCtorEq, Nat.succ_ne_zero, elemsC, Int.reduceToNat, Nat.reducePow, i0, i5, o5, i6, o6, i7, o7, i10, i9, iP]))
      refine vf_of (law19_known) ?_; (try (simp only [go_sem, Nat.reduceEqDiff, Nat.reduceAdd, Nat.reduceSub, Nat.reduceMul, Nat.reduceLeDiff, Nat.reduceLT, reduceIte, reduceCtorEq, Nat.succ_ne_zero, elemsC, Int.reduceToNat, Nat.reducePow])); repeat ((first | (simp (disch := (first | omega | (simp only [AL, List.length_map]; omega))) only [AR, AL, ifT, ifF, take_all, List.length_cons, List.length_nil, Int.reduceToNat, Int.reducePow, Nat.reducePow]) | (refine wk_intro (by kernel_rfl) ?_) | (refine vp_draw (id := 7) (l := []) (by kernel_rfl) ?_) | (refine vp_draw (id := 9) (l := [9]) (by kernel_rfl) ?_)); try (simp only [go_sem, Nat.reduceEqDiff, Nat.reduceAdd, Nat.reduceSub, Nat.reduceMul, Nat.reduceLeDiff, Nat.reduceLT, reduceIte, reduceCtorEq, Nat.succ_ne_zero, elemsC, Int.reduceToNat, Nat.reducePow]))
  · obtain ⟨s, n, d, rest, hat, hX⟩ := hrow (i := i) (by omega)
    have q1 := m1 hX
    have q2 := m2 hX
    have hg := hgd (i := i) (by omega)
    have hsn := rvs_snoc (l := z) (i := i) (by omega)
    rw [hg] at hsn
    have hrl := rvsC_len (z.take i)
    rw [List.length_take, hol, Nat.min_eq_left (by omega)] at hrl
    generalize l.getD i 0 = x at *
    clear hgd hrow m1 m2 hX hg s1 s2 htk
    rcases hc with ⟨h00, i9, ig⟩ | ⟨h00, i9, iP⟩
    · subst h00
      rw [List.take_zero, rvsC_nil, List.nil_append] at hsn
      rw [Nat.zero_mul, List.drop_zero] at hat
      subst hat
      (try (simp only [go_sem, Nat.reduceEqDiff, Nat.reduceAdd, Nat.reduceSub, Nat.reduceMul, Nat.reduceLeDiff, Nat.reduceLT, reduceIte, reduceCtorEq, Nat.succ_ne_zero, elemsC, Int.reduceToNat, Nat.reducePow, i0, i5, o5, i6, o6, i7, o7, i10, i9, ig, hlen])); repeat ((first | (simp (disch := (first | omega | (simp only [AL, List.length_map]; omega))) only [AR, AL, ifT, ifF, take_all, List.length_cons, List.length_nil, Int.reduceToNat, Int.reducePow, Nat.reducePow, i0, i5, o5, i6, o6, i7, o7, i10, i9, ig, hlen]) | (refine wk_intro (by kernel_rfl) ?_) | (refine vp_draw (id := 7) (l := []) (by kernel_rfl) ?_) | (refine vp_draw (id := 9) (l := [9]) (by kernel_rfl) ?_)); try (simp only [go_sem, Nat.reduceEqDiff, Nat.reduceAdd, Nat.reduceSub, Nat.reduceMul, Nat.reduceLeDiff, Nat.reduceLT, reduceIte, reduceCtorEq, Nat.succ_ne_zero, elemsC, Int.reduceToNat, Nat.reducePow, i0, i5, o5, i6, o6, i7, o7, i10, i9, ig, hlen]))
      refine vf_of (q1) ?_; (try (simp only [go_sem, Nat.reduceEqDiff, Nat.reduceAdd, Nat.reduceSub, Nat.reduceMul, Nat.reduceLeDiff, Nat.reduceLT, reduceIte, reduceCtorEq, Nat.succ_ne_zero, elemsC, Int.reduceToNat, Nat.reducePow, i0, i5, o5, i6, o6, i7, o7, i10, i9, ig, N0, hlen])); repeat ((first | (simp (disch := (first | omega | (simp only [AL, List.length_map]; omega))) only [AR, AL, ifT, ifF, take_all, List.length_cons, List.length_nil, Int.reduceToNat, Int.reducePow, Nat.reducePow, i0, i5, o5, i6, o6, i7, o7, i10, i9, ig, N0, hlen]) | (refine wk_intro (by kernel_rfl) ?_) | (refine vp_draw (id := 7) (l := []) (by kernel_rfl) ?_) | (refine vp_draw (id := 9) (l := [9]) (by kernel_rfl) ?_)); try (simp only [go_sem, Nat.reduceEqDiff, Nat.reduceAdd, Nat.reduceSub, Nat.reduceMul, Nat.reduceLeDiff, Nat.reduceLT, reduceIte, reduceCtorEq, Nat.succ_ne_zero, elemsC, Int.reduceToNat, Nat.reducePow, i0, i5, o5, i6, o6, i7, o7, i10, i9, ig, N0, hlen]))
      refine vf_of (q2) ?_; (try (simp only [go_sem, Nat.reduceEqDiff, Nat.reduceAdd, Nat.reduceSub, Nat.reduceMul, Nat.reduceLeDiff, Nat.reduceLT, reduceIte, reduceCtorEq, Nat.succ_ne_zero, elemsC, Int.reduceToNat, Nat.reducePow, i0, i5, o5, i6, o6, i7, o7, i10, i9, ig, N0, hlen])); repeat ((first | (simp (disch := (first | omega | (simp only [AL, List.length_map]; omega))) only [AR, AL, ifT, ifF, take_all, List.length_cons, List.length_nil, Int.reduceToNat, Int.reducePow, Nat.reducePow, i0, i5, o5, i6, o6, i7, o7, i10, i9, ig, N0, hlen]) | (refine wk_intro (by kernel_rfl) ?_) | (refine vp_draw (id := 7) (l := []) (by kernel_rfl) ?_) | (refine vp_draw (id := 9) (l := [9]) (by kernel_rfl) ?_)); try (simp only [go_sem, Nat.reduceEqDiff, Nat.reduceAdd, Nat.reduceSub, Nat.reduceMul, Nat.reduceLeDiff, Nat.reduceLT, reduceIte, reduceCtorEq, Nat.succ_ne_zero, elemsC, Int.reduceToNat, Nat.reducePow, i0, i5, o5, i6, o6, i7, o7, i10, i9, ig, N0, hlen]))
      exact ⟨⟨1, rfl, by omega, .inr ⟨by omega, rfl, by first | (rw [← hsn]; rfl) | rw [← hsn]⟩⟩, by omega⟩
    · unfold rvC at hsn
      (try (simp only [go_sem, Nat.reduceEqDiff, Nat.reduceAdd, Nat.reduceSub, Nat.reduceMul, Nat.reduceLeDiff, Nat.reduceLT, reduceIte, reduceCtorEq, Nat.succ_ne_zero, elemsC, Int.reduceToNat, Nat.reducePow, i0, i5, o5, i6, o6, i7, o7, i10, i9, iP, hat, hlen])); repeat ((first | (simp (disch := (first | omega | (simp only [AL, List.length_map]; omega))) only [AR, AL, ifT, ifF, take_all, List.length_cons, List.length_nil, Int.reduceToNat, Int.reducePow, Nat.reducePow, i0, i5, o5, i6, o6, i7, o7, i10, i9, iP, hat, hlen]) | (refine wk_intro (by kernel_rfl) ?_) | (refine vp_draw (id := 7) (l := []) (by kernel_rfl) ?_) | (refine vp_draw (id := 9) (l := [9]) (by kernel_rfl) ?_)); try (simp only [go_sem, Nat.reduceEqDiff, Nat.reduceAdd, Nat.reduceSub, Nat.reduceMul, Nat.reduceLeDiff, Nat.reduceLT, reduceIte, reduceCtorEq, Nat.succ_ne_zero, elemsC, Int.reduceToNat, Nat.reducePow, i0, i5, o5, i6, o6, i7, o7, i10, i9, iP, hat, hlen]))
      refine vf_of (q1) ?_; (try (simp only [go_sem, Nat.reduceEqDiff, Nat.reduceAdd, Nat.reduceSub, Nat.reduceMul, Nat.reduceLeDiff, Nat.reduceLT, reduceIte, reduceCtorEq, Nat.succ_ne_zero, elemsC, Int.reduceToNat, Nat.reducePow, i0, i5, o5, i6, o6, i7, o7, i10, i9, iP, N0, hsn, hrl])); repeat ((first | (simp (disch := (first | omega | (simp only [AL, List.length_map]; omega))) only [AR, AL, ifT, ifF, take_all, List.length_cons, List.length_nil, Int.reduceToNat, Int.reducePow, Nat.reducePow, i0, i5, o5, i6, o6, i7, o7, i10, i9, iP, N0, hsn, hrl]) | (refine wk_intro (by kernel_rfl) ?_) | (refine vp_draw (id := 7) (l := []) (by kernel_rfl) ?_) | (refine vp_draw (id := 9) (l := [9]) (by kernel_rfl) ?_)); try (simp only [go_sem, Nat.reduceEqDiff, Nat.reduceAdd, Nat.reduceSub, Nat.reduceMul, Nat.reduceLeDiff, Nat.reduceLT, reduceIte, reduceCtorEq, Nat.succ_ne_zero, elemsC, Int.reduceToNat, Nat.reducePow, i0, i5, o5, i6, o6, i7, o7, i10, i9, iP, N0, hsn, hrl]))
      refine vf_of (q2) ?_; (try (simp only [go_sem, Nat.reduceEqDiff, Nat.reduceAdd, Nat.reduceSub, Nat.reduceMul, Nat.reduceLeDiff, Nat.reduceLT, reduceIte, reduceCtorEq, Nat.succ_ne_zero, elemsC, Int.reduceToNat, Nat.reducePow, i0, i5, o5, i6, o6, i7, o7, i10, i9, iP, N0, hsn, hrl])); repeat ((first | (simp (disch := (first | omega | (simp only [AL, List.length_map]; omega))) only [AR, AL, ifT, ifF, take_all, List.length_cons, List.length_nil, Int.reduceToNat, Int.reducePow, Nat.reducePow, i0, i5, o5, i6, o6, i7, o7, i10, i9, iP, N0, hsn, hrl]) | (refine wk_intro (by kernel_rfl) ?_) | (refine vp_draw (id := 7) (l := []) (by kernel_rfl) ?_) | (refine vp_draw (id := 9) (l := [9]) (by kernel_rfl) ?_)); try (simp only [go_sem, Nat.reduceEqDiff, Nat.reduceAdd, Nat.reduceSub, Nat.reduceMul, Nat.reduceLeDiff, Nat.reduceLT, reduceIte, reduceCtorEq, Nat.succ_ne_zero, elemsC, Int.reduceToNat, Nat.reducePow, i0, i5, o5, i6, o6, i7, o7, i10, i9, iP, N0, hsn, hrl]))
      exact ⟨⟨i + 1, rfl, by omega, .inr ⟨by omega, rfl, by first | (rw [← hsn]; rfl) | rw [← hsn]⟩⟩, by omega⟩
theorem moves_zero {l : Nat} {cs : List SV} {c : Bool} (hmuch : Go.Ev.Fn CX 14 [.sl 2 [.sl l cs, .sl 3 [.bool sm, natV nm, natV dm, .bool sa, natV na, natV da, .bool sb, natV nb, natV db]]] (.bool c))
    (hc : c = true ∨ Go.Ev.Fn CX 15 [ratV sa na da] (.bool true)) : Go.Ev.Fn CX 5 [.sl l cs, ratV sm nm dm, ratV sa na da, ratV sb nb db] (.bool true) := by
  cases c
  · have hz := hc.resolve_left (by simp)
    clear hc
    refine Go.Ev.Fn.intro (fn := Try.f5) (body := (Try.f5).body.get!) (by kernel_rfl) (by kernel_rfl) (by kernel_rfl) (fun _ => rfl) (Nat.le_of_ble_eq_true (by kernel_rfl)) ?_; unfold Try.f5; simp only [Option.get!_some]
    (try (simp only [go_sem, Nat.reduceEqDiff, Nat.reduceAdd, Nat.reduceSub, Nat.reduceMul, Nat.reduceLeDiff, Nat.reduceLT, reduceIte, reduceCtorEq, Nat.succ_ne_zero, elemsC, Int.reduceToNat, Nat.reducePow])); repeat ((first | (simp (disch := (first | omega | (simp only [AL, List.length_map]; omega))) only [AR, AL, ifT, ifF, take_all, List.length_cons, List.length_nil, Int.reduceToNat, Int.reducePow, Nat.reducePow]) | (refine wk_intro (by kernel_rfl) ?_) | (refine vp_draw (id := 7) (l := []) (by kernel_rfl) ?_) | (refine vp_draw (id := 9) (l := [9]) (by kernel_rfl) ?_)); try (simp only [go_sem, Nat.reduceEqDiff, Nat.reduceAdd, Nat.reduceSub, Nat.reduceMul, Nat.reduceLeDiff, Nat.reduceLT, reduceIte, reduceCtorEq, Nat.succ_ne_zero, elemsC, Int.reduceToNat, Nat.reducePow]))
    refine vf_of (hmuch) ?_; (try (simp only [go_sem, Nat.reduceEqDiff, Nat.reduceAdd, Nat.reduceSub, Nat.reduceMul, Nat.reduceLeDiff, Nat.reduceLT, reduceIte, reduceCtorEq, Nat.succ_ne_zero, elemsC, Int.reduceToNat, Nat.reducePow])); repeat ((first | (simp (disch := (first | omega | (simp only [AL, List.length_map]; omega))) only [AR, AL, ifT, ifF, take_all, List.length_cons, List.length_nil, Int.reduceToNat, Int.reducePow, Nat.reducePow]) | (refine wk_intro (by kernel_rfl) ?_) | (refine vp_draw (id := 7) (l := []) (by kernel_rfl) ?_) | (refine vp_draw (id := 9) (l := [9]) (by kernel_rfl) ?_)); try (simp only [go_sem, Nat.reduceEqDiff, Nat.reduceAdd, Nat.reduceSub, Nat.reduceMul, Nat.reduceLeDiff, Nat.reduceLT, reduceIte, reduceCtorEq, Nat.succ_ne_zero, elemsC, Int.reduceToNat, Nat.reducePow]))
    refine vf_of (hz) ?_; (try (simp only [go_sem, Nat.reduceEqDiff, Nat.reduceAdd, Nat.reduceSub, Nat.reduceMul, Nat.reduceLeDiff, Nat.reduceLT, reduceIte, reduceCtorEq, Nat.succ_ne_zero, elemsC, Int.reduceToNat, Nat.reducePow])); repeat ((first | (simp (disch := (first | omega | (simp only [AL, List.length_map]; omega))) only [AR, AL, ifT, ifF, take_all, List.length_cons, List.length_nil, Int.reduceToNat, Int.reducePow, Nat.reducePow]) | (refine wk_intro (by kernel_rfl) ?_) | (refine vp_draw (id := 7) (l := []) (by kernel_rfl) ?_) | (refine vp_draw (id := 9) (l := [9]) (by kernel_rfl) ?_)); try (simp only [go_sem, Nat.reduceEqDiff, Nat.reduceAdd, Nat.reduceSub, Nat.reduceMul, Nat.reduceLeDiff, Nat.reduceLT, reduceIte, reduceCtorEq, Nat.succ_ne_zero, elemsC, Int.reduceToNat, Nat.reducePow]))
  · clear hc
    refine Go.Ev.Fn.intro (fn := Try.f5) (body := (Try.f5).body.get!) (by kernel_rfl) (by kernel_rfl) (by kernel_rfl) (fun _ => rfl) (Nat.le_of_ble_eq_true (by kernel_rfl)) ?_; unfold Try.f5; simp only [Option.get!_some]
    (try (simp only [go_sem, Nat.reduceEqDiff, Nat.reduceAdd, Nat.reduceSub, Nat.reduceMul, Nat.reduceLeDiff, Nat.reduceLT, reduceIte, reduceCtorEq, Nat.succ_ne_zero, elemsC, Int.reduceToNat, Nat.reducePow])); repeat ((first | (simp (disch := (first | omega | (simp only [AL, List.length_map]; omega))) only [AR, AL, ifT, ifF, take_all, List.length_cons, List.length_nil, Int.reduceToNat, Int.reducePow, Nat.reducePow]) | (refine wk_intro (by kernel_rfl) ?_) | (refine vp_draw (id := 7) (l := []) (by kernel_rfl) ?_) | (refine vp_draw (id := 9) (l := [9]) (by kernel_rfl) ?_)); try (simp only [go_sem, Nat.reduceEqDiff, Nat.reduceAdd, Nat.reduceSub, Nat.reduceMul, Nat.reduceLeDiff, Nat.reduceLT, reduceIte, reduceCtorEq, Nat.succ_ne_zero, elemsC, Int.reduceToNat, Nat.reducePow]))
    refine vf_of (hmuch) ?_; (try (simp only [go_sem, Nat.reduceEqDiff, Nat.reduceAdd, Nat.reduceSub, Nat.reduceMul, Nat.reduceLeDiff, Nat.reduceLT, reduceIte, reduceCtorEq, Nat.succ_ne_zero, elemsC, Int.reduceToNat, Nat.reducePow])); repeat ((first | (simp (disch := (first | omega | (simp only [AL, List.length_map]; omega))) only [AR, AL, ifT, ifF, take_all, List.length_cons, List.length_nil, Int.reduceToNat, Int.reducePow, Nat.reducePow]) | (refine wk_intro (by kernel_rfl) ?_) | (refine vp_draw (id := 7) (l := []) (by kernel_rfl) ?_) | (refine vp_draw (id := 9) (l := [9]) (by kernel_rfl) ?_)); try (simp only [go_sem, Nat.reduceEqDiff, Nat.reduceAdd, Nat.reduceSub, Nat.reduceMul, Nat.reduceLeDiff, Nat.reduceLT, reduceIte, reduceCtorEq, Nat.succ_ne_zero, elemsC, Int.reduceToNat, Nat.reducePow]))
end
theorem test_moves (x : SV) (shx : ShpT Try.prog 7 39 [x]) (ss1 : List SV) (sh1 : ShpT Try.prog 6 24 ss1) (ss2 : List SV) (sh2 : ShpT Try.prog 6 24 ss2) (ss3 : List SV) (sh3 : ShpT Try.prog 6 24 ss3) :
    Go.Ev.Fn CX 5 [x, .agg ss1, .agg ss2, .agg ss3] (.bool true) := by
  obtain ⟨ps, e, hp, hok⟩ := shp_rats (n := 3) shx
  obtain ⟨sm, nm, dm, rfl, h1, h2, -, -⟩ := shp_rat (n := 3) sh1
  obtain ⟨sa, na, da, rfl, h3, h4, -, -⟩ := shp_rat (n := 3) sh2
  obtain ⟨sb, nb, db, rfl, h5, h6, -, -⟩ := shp_rat (n := 3) sh3
  injection e with e
  subst e
  clear shx sh1 sh2 sh3
  have hmuch := moves_much (ps := ps) (sm := sm) (nm := nm) (dm := dm) (sa := sa) (na := na) (da := da) (sb := sb) (nb := nb) (db := db) hp
  by_cases hb : (bigR ps || bigR [(sm, nm, dm), (sa, na, da), (sb, nb, db)]) = true
  · exact moves_zero hmuch (.inl hb)
  · have hb := Bool.eq_false_iff.2 hb
    rw [Bool.or_eq_false_iff] at hb
    obtain ⟨hR, hl⟩ := bigR_row hb.1 hok
    have h3s := (bigR_small hb.2).2
    have hM : RatA (ratV sm nm dm) (InR.q (sm, nm, dm)) 1 := ⟨_, _, _, rfl, h1, h2, (h3s (sm, nm, dm) (by simp)).1, (h3s (sm, nm, dm) (by simp)).2, rfl⟩
    have hA : RatA (ratV sa na da) (InR.q (sa, na, da)) 1 := ⟨_, _, _, rfl, h3, h4, (h3s (sa, na, da) (by simp)).1, (h3s (sa, na, da) (by simp)).2, rfl⟩
    have hB : RatA (ratV sb nb db) (InR.q (sb, nb, db)) 1 := ⟨_, _, _, rfl, h5, h6, (h3s (sb, nb, db) (by simp)).1, (h3s (sb, nb, db) (by simp)).2, rfl⟩
    by_cases ha : InR.q (sa, na, da) = 0
    · have z1 := ref2_Zero hA (by omega) (by omega)
      rw [decide_eq_true ha] at z1
      exact moves_zero hmuch (.inr z1)
    · rw [hb.1, hb.2, Bool.or_false] at hmuch
      have hlen : (ps.map InR.q).length = ps.length := List.length_map _
      rw [show rowV ps = .sl (ps.map InR.q).length (ratsC ps) by rw [hlen]]
      rw [← hlen] at hmuch
      exact moves_main hmuch hR (by rw [hlen]; exact hl) hM hA hB ha
end Go.Proofs.Ytdnmhnjblgkjaaa

/- vernierlaw19: TestPairs, TestTurns, in the evaluator. -/
namespace Go.Proofs.Ytdnmhnjblgkjaaa
set_option linter.unusedSimpArgs false
set_option linter.unusedVariables false
set_option maxRecDepth 8000
open Go.Ev
theorem two_much {ps qs : List InR} (hp : ps.length ≤ maxLen) (hq : qs.length ≤ maxLen) : Go.Ev.Fn CX 14 [.sl 2 [.sl ps.length (ratsC ps), .sl qs.length (ratsC qs)]] (.bool (bigR ps || bigR qs)) := by
  have h := law19_much (rows := [ps, qs]) (by simp) (by
    intro q hq
    simp only [List.mem_cons, List.not_mem_nil, or_false] at hq
    rcases hq with rfl | rfl
    · exact Nat.le_trans hp (by decide)
    · exact Nat.le_trans hq (by decide))
  rw [show [ps, qs].any bigR = (bigR ps || bigR qs) by simp [List.any_cons]] at h
  exact h
section
variable {l m : List Rat} {cs ds : List SV}
set_option maxHeartbeats 1000000 in
theorem pairs_main (hmuch : Go.Ev.Fn CX 14 [.sl 2 [.sl l.length cs, .sl m.length ds]] (.bool false))
    (hR : RowC cs l 1) (hS : RowC ds m 1) (hl : l.length ≤ 12) (hm : m.length = l.length) :
    Go.Ev.Fn CX 7 [.sl l.length cs, .sl m.length ds] (.bool true) := by
  have s1 := stat_paired hR hS hl hm
  have hzl : (List.zipWith (fun a b => a - b) l m).length = l.length := by rw [List.length_zipWith]; omega
  have hgd : ∀ {i : Nat}, i < l.length → (List.zipWith (fun a b => a - b) l m).getD i 0 = l.getD i 0 - m.getD i 0 := by
    intro i hi
    rw [List.getD_eq_getElem?_getD, List.getD_eq_getElem?_getD, List.getD_eq_getElem?_getD, List.getElem?_eq_getElem (by omega), List.getElem?_eq_getElem hi, List.getElem?_eq_getElem (by omega), List.getElem_zipWith]
    rfl
  have hzz : ∀ x ∈ List.zipWith (fun a b => a - b) l m, szR x 3 := by
    intro x hx
    obtain ⟨i, hi, rfl⟩ := List.getElem_of_mem hx
    rw [List.getElem_zipWith]
    exact szR_sub (row_sz (by omega) hR _ (List.getElem_mem _)) (row_sz (by omega) hS _ (List.getElem_mem _)) (by omega)
  have hrow := fun {i : Nat} (hi : i < l.length) => row_at (i := i) hR hi
  have hrow2 := fun {i : Nat} (hi : i < m.length) => row_at (i := i) hS hi
  have hlen := row_len hR
  have hlen2 := row_len hS
  have i1 := ref2_Int 0 (by omega)
  generalize hz : List.zipWith (fun a b => a - b) l m = z at *
  have s2 := stat_T (mu := ((0 : Int) : Rat)) (rvsC_row z hzz) (by omega) (by omega) (RatA_rv (szR_mono (int_szR (n := 0) (by omega)) (show 2 ≤ 10 by omega))) (by omega)
  rw [show ((0 : Int) : Rat) = 0 from rfl] at s2 i1
  obtain ⟨e1, e2⟩ := same_res (stuR z 0) (sz_stu (fun x hx => szR_mono (hzz x hx) (by omega)) (szR_zero (by omega)) (by omega)) deg_stu
  rw [hzl] at s2
  generalize stuR z 0 = r at *
  obtain ⟨q, dg, e⟩ := r
  have htk : (rvsC z).take (l.length * 3) = rvsC z := List.take_of_length_le (by rw [rvsC_len, hzl]; omega)
  clear hR hS hzz
  refine Go.Ev.Fn.intro (fn := Try.f7) (body := (Try.f7).body.get!) (by kernel_rfl) (by kernel_rfl) (by kernel_rfl) (fun _ => rfl) (Nat.le_of_ble_eq_true (by kernel_rfl)) ?_; unfold Try.f7; simp only [Option.get!_some]
  (try (simp only [go_sem, Nat.reduceEqDiff, Nat.reduceAdd, Nat.reduceSub, Nat.reduceMul, Nat.reduceLeDiff, Nat.reduceLT, reduceIte, reduceCtorEq, Nat.succ_ne_zero, elemsC, Int.reduceToNat, Nat.reducePow])); repeat ((first | (simp (disch := (first | omega | (simp only [AL, List.length_map]; omega))) only [AR, AL, ifT, ifF, take_all, List.length_cons, List.length_nil, Int.reduceToNat, Int.reducePow, Nat.reducePow]) | (refine wk_intro (by kernel_rfl) ?_) | (refine vp_draw (id := 7) (l := []) (by kernel_rfl) ?_)); try (simp only [go_sem, Nat.reduceEqDiff, Nat.reduceAdd, Nat.reduceSub, Nat.reduceMul, Nat.reduceLeDiff, Nat.reduceLT, reduceIte, reduceCtorEq, Nat.succ_ne_zero, elemsC, Int.reduceToNat, Nat.reducePow]))
  refine vf_of (hmuch) ?_; (try (simp only [go_sem, Nat.reduceEqDiff, Nat.reduceAdd, Nat.reduceSub, Nat.reduceMul, Nat.reduceLeDiff, Nat.reduceLT, reduceIte, reduceCtorEq, Nat.succ_ne_zero, elemsC, Int.reduceToNat, Nat.reducePow])); repeat ((first | (simp (disch := (first | omega | (simp only [AL, List.length_map]; omega))) only [AR, AL, ifT, ifF, take_all, List.length_cons, List.length_nil, Int.reduceToNat, Int.reducePow, Nat.reducePow]) | (refine wk_intro (by kernel_rfl) ?_) | (refine vp_draw (id := 7) (l := []) (by kernel_rfl) ?_)); try (simp only [go_sem, Nat.reduceEqDiff, Nat.reduceAdd, Nat.reduceSub, Nat.reduceMul, Nat.reduceLeDiff, Nat.reduceLT, reduceIte, reduceCtorEq, Nat.succ_ne_zero, elemsC, Int.reduceToNat, Nat.reducePow]))
  refine vp_loop_inv (fun s => s.tmp 0 = .sv (.sl l.length cs) ∧ s.tmp 1 = .sv (.sl m.length ds) ∧
      ∃ i : Nat, s.tmp 6 = .sv (.int .i64 (i : Int)) ∧ i ≤ l.length ∧ ((i = 0 ∧ s.tmp 5 = .nil ∧ s.gen 41 = 0) ∨ (0 < i ∧ s.tmp 5 = .ref 41 0 3 0 i ∧ s.obj 41 0 = some (rvsC (z.take i)))))
    (fun s => match s.tmp 6 with | .sv (.int _ i) => l.length - i.toNat | _ => 0) ⟨rfl, rfl, 0, rfl, by omega, .inl ⟨rfl, rfl, rfl⟩⟩ ?_
  rintro st ⟨i0, i1', i, i6, hi, hc⟩
  by_cases hend : i = l.length
  · subst hend
    clear hgd hrow hrow2
    rcases hc with ⟨h00, i5, _⟩ | ⟨_, i5, iP⟩
    · have hz0 : z = [] := List.length_eq_zero_iff.1 (by omega)
      rw [h00] at s1 i0 i6 s2
      have hm0 : m.length = 0 := by omega
      rw [hm0] at s1 i1'
      rw [hz0, rvsC_nil] at s2
      clear htk
      (try (simp only [go_sem, Nat.reduceEqDiff, Nat.reduceAdd, Nat.reduceSub, Nat.reduceMul, Nat.reduceLeDiff, Nat.reduceLT, reduceIte, reduceCtorEq, Nat.succ_ne_zero, elemsC, Int.reduceToNat, Nat.reducePow, i0, i1', i6, i5, h00])); repeat ((first | (simp (disch := (first | omega | (simp only [AL, List.length_map]; omega))) only [AR, AL, ifT, ifF, take_all, List.length_cons, List.length_nil, Int.reduceToNat, Int.reducePow, Nat.reducePow, i0, i1', i6, i5, h00]) | (refine wk_intro (by kernel_rfl) ?_) | (refine vp_draw (id := 7) (l := []) (by kernel_rfl) ?_)); try (simp only [go_sem, Nat.reduceEqDiff, Nat.reduceAdd, Nat.reduceSub, Nat.reduceMul, Nat.reduceLeDiff, Nat.reduceLT, reduceIte, reduceCtorEq, Nat.succ_ne_zero, elemsC, Int.reduceToNat, Nat.reducePow, i0, i1', i6, i5, h00]))
      refine vf_of (s1) ?_; (try (simp only [go_sem, Nat.reduceEqDiff, Nat.reduceAdd, Nat.reduceSub, Nat.reduceMul, Nat.reduceLeDiff, Nat.reduceLT, reduceIte, reduceCtorEq, Nat.succ_ne_zero, elemsC, Int.reduceToNat, Nat.reducePow, i0, i1', i6, i5, h00])); repeat ((first | (simp (disch := (first | omega | (simp only [AL, List.length_map]; omega))) only [AR, AL, ifT, ifF, take_all, List.length_cons, List.length_nil, Int.reduceToNat, Int.reducePow, Nat.reducePow, i0, i1', i6, i5, h00]) | (refine wk_intro (by kernel_rfl) ?_) | (refine vp_draw (id := 7) (l := []) (by kernel_rfl) ?_)); try (simp only [go_sem, Nat.reduceEqDiff, Nat.reduceAdd, Nat.reduceSub, Nat.reduceMul, Nat.reduceLeDiff, Nat.reduceLT, reduceIte, reduceCtorEq, Nat.succ_ne_zero, elemsC, Int.reduceToNat, Nat.reducePow, i0, i1', i6, i5, h00]))
      refine vf_of (i1) ?_; (try (simp only [go_sem, Nat.reduceEqDiff, Nat.reduceAdd, Nat.reduceSub, Nat.reduceMul, Nat.reduceLeDiff, Nat.reduceLT, reduceIte, reduceCtorEq, Nat.succ_ne_zero, elemsC, Int.reduceToNat, Nat.reducePow, i0, i1', i6, i5, h00])); repeat ((first | (simp (disch := (first | omega | (simp only [AL, List.length_map]; omega))) only [AR, AL, ifT, ifF, take_all, List.length_cons, List.length_nil, Int.reduceToNat, Int.reducePow, Nat.reducePow, i0, i1', i6, i5, h00]) | (refine wk_intro (by kernel_rfl) ?_) | (refine vp_draw (id := 7) (l := []) (by kernel_rfl) ?_)); try (simp only [go_sem, Nat.reduceEqDiff, Nat.reduceAdd, Nat.reduceSub, Nat.reduceMul, Nat.reduceLeDiff, Nat.reduceLT, reduceIte, reduceCtorEq, Nat.succ_ne_zero, elemsC, Int.reduceToNat, Nat.reducePow, i0, i1', i6, i5, h00]))
      refine vf_of (s2) ?_; (try (simp only [go_sem, Nat.reduceEqDiff, Nat.reduceAdd, Nat.reduceSub, Nat.reduceMul, Nat.reduceLeDiff, Nat.reduceLT, reduceIte, reduceCtorEq, Nat.succ_ne_zero, elemsC, Int.reduceToNat, Nat.reducePow, i0, i1', i6, i5, h00])); repeat ((first | (simp (disch := (first | omega | (simp only [AL, List.length_map]; omega))) only [AR, AL, ifT, ifF, take_all, List.length_cons, List.length_nil, Int.reduceToNat, Int.reducePow, Nat.reducePow, i0, i1', i6, i5, h00]) | (refine wk_intro (by kernel_rfl) ?_) | (refine vp_draw (id := 7) (l := []) (by kernel_rfl) ?_)); try (simp only [go_sem, Nat.reduceEqDiff, Nat.reduceAdd, Nat.reduceSub, Nat.reduceMul, Nat.reduceLeDiff, Nat.reduceLT, reduceIte, reduceCtorEq, Nat.succ_ne_zero, elemsC, Int.reduceToNat, Nat.reducePow, i0, i1', i6, i5, h00]))
      refine vf_of (e1) ?_; (try (simp only [go_sem, Nat.reduceEqDiff, Nat.reduceAdd, Nat.reduceSub, Nat.reduceMul, Nat.reduceLeDiff, Nat.reduceLT, reduceIte, reduceCtorEq, Nat.succ_ne_zero, elemsC, Int.reduceToNat, Nat.reducePow, i0, i1', i6, i5, h00])); repeat ((first | (simp (disch := (first | omega | (simp only [AL, List.length_map]; omega))) only [AR, AL, ifT, ifF, take_all, List.length_cons, List.length_nil, Int.reduceToNat, Int.reducePow, Nat.reducePow, i0, i1', i6, i5, h00]) | (refine wk_intro (by kernel_rfl) ?_) | (refine vp_draw (id := 7) (l := []) (by kernel_rfl) ?_)); try (simp only [go_sem, Nat.reduceEqDiff, Nat.reduceAdd, Nat.reduceSub, Nat.reduceMul, Nat.reduceLeDiff, Nat.reduceLT, reduceIte, reduceCtorEq, Nat.succ_ne_zero, elemsC, Int.reduceToNat, Nat.reducePow, i0, i1', i6, i5, h00]))
      refine vf_of (e2) ?_; (try (simp only [go_sem, Nat.reduceEqDiff, Nat.reduceAdd, Nat.reduceSub, Nat.reduceMul, Nat.reduceLeDiff, Nat.reduceLT, reduceIte, reduceCtorEq, Nat.succ_ne_zero, elemsC, Int.reduceToNat, Nat.reducePow, i0, i1', i6, i5, h00])); repeat ((first | (simp (disch := (first | omega | (simp only [AL, List.length_map]; omega))) only [AR, AL, ifT, ifF, take_all, List.length_cons, List.length_nil, Int.reduceToNat, Int.reducePow, Nat.reducePow, i0, i1', i6, i5, h00]) | (refine wk_intro (by kernel_rfl) ?_) | (refine vp_draw (id := 7) (l := []) (by kernel_rfl) ?_)); try (simp only [go_sem, Nat.reduceEqDiff, Nat.reduceAdd, Nat.reduceSub, Nat.reduceMul, Nat.reduceLeDiff, Nat.reduceLT, reduceIte, reduceCtorEq, Nat.succ_ne_zero, elemsC, Int.reduceToNat, Nat.reducePow, i0, i1', i6, i5, h00]))
      refine vf_of (law19_known) ?_; (try (simp only [go_sem, Nat.reduceEqDiff, Nat.reduceAdd, Nat.reduceSub, Nat.reduceMul, Nat.reduceLeDiff, Nat.reduceLT, reduceIte, reduceCtorEq, Nat.succ_ne_zero, elemsC, Int.reduceToNat, Nat.reducePow])); repeat ((first | (simp (disch := (first | omega | (simp only [AL, List.length_map]; omega))) only [AR, AL, ifT, ifF, take_all, List.length_cons, List.length_nil, Int.reduceToNat, Int.reducePow, Nat.reducePow]) | (refine wk_intro (by kernel_rfl) ?_) | (refine vp_draw (id := 7) (l := []) (by kernel_rfl) ?_)); try (simp only [go_sem, Nat.reduceEqDiff, Nat.reduceAdd, Nat.reduceSub, Nat.reduceMul, Nat.reduceLeDiff, Nat.reduceLT, reduceIte, reduceCtorEq, Nat.succ_ne_zero, elemsC, Int.reduceToNat, Nat.reducePow]))
    · rw [List.take_of_length_le (by omega)] at iP
      (try (simp only [go_sem, Nat.reduceEqDiff, Nat.reduceAdd, Nat.reduceSub, Nat.reduceMul, Nat.reduceLeDiff, Nat.reduceLT, reduceIte, reduceCtorEq, Nat.succ_ne_zero, elemsC, Int.reduceToNat, Nat.reducePow, i0, i1', i6, i5, iP])); repeat ((first | (simp (disch := (first | omega | (simp only [AL, List.length_map]; omega))) only [AR, AL, ifT, ifF, take_all, List.length_cons, List.length_nil, Int.reduceToNat, Int.reducePow, Nat.reducePow, i0, i1', i6, i5, iP]) | (refine wk_intro (by kernel_rfl) ?_) | (refine vp_draw (id := 7) (l := []) (by kernel_rfl) ?_)); try (simp only [go_sem, Nat.reduceEqDiff, Nat.reduceAdd, Nat.reduceSub, Nat.reduceMul, Nat.reduceLeDiff, Nat.reduceLT, reduceIte, reduceCtorEq, Nat.succ_ne_zero, elemsC, Int.reduceToNat, Nat.reducePow, i0, i1', i6, i5, iP]))
      refine vf_of (s1) ?_; (try (simp only [go_sem, Nat.reduceEqDiff, Nat.reduceAdd, Nat.reduceSub, Nat.reduceMul, Nat.reduceLeDiff, Nat.reduceLT, reduceIte, reduceCtorEq, Nat.succ_ne_zero, elemsC, Int.reduceToNat, Nat.reducePow, i0, i1', i6, i5, iP])); repeat ((first | (simp (disch := (first | omega | (simp only [AL, List.length_map]; omega))) only [AR, AL, ifT, ifF, take_all, List.length_cons, List.length_nil, Int.reduceToNat, Int.reducePow, Nat.reducePow, i0, i1', i6, i5, iP]) | (refine wk_intro (by kernel_rfl) ?_) | (refine vp_draw (id := 7) (l := []) (by kernel_rfl) ?_)); try (simp only [go_sem, Nat.reduceEqDiff, Nat.reduceAdd, Nat.reduceSub, Nat.reduceMul, Nat.reduceLeDiff, Nat.reduceLT, reduceIte, reduceCtorEq, Nat.succ_ne_zero, elemsC, Int.reduceToNat, Nat.reducePow, i0, i1', i6, i5, iP]))
      refine vf_of (i1) ?_; (try (simp only [go_sem, Nat.reduceEqDiff, Nat.reduceAdd, Nat.reduceSub, Nat.reduceMul, Nat.reduceLeDiff, Nat.reduceLT, reduceIte, reduceCtorEq, Nat.succ_ne_zero, elemsC, Int.reduceToNat, Nat.reducePow, i0, i1', i6, i5, iP, htk, List.drop_zero, N0, decide_true])); repeat ((first | (simp (disch := (first | omega | (simp only [AL, List.length_map]; omega))) only [AR, AL, ifT, ifF, take_all, List.length_cons, List.length_nil, Int.reduceToNat, Int.reducePow, Nat.reducePow, i0, i1', i6, i5, iP, htk, List.drop_zero, N0, decide_true]) | (refine wk_intro (by kernel_rfl) ?_) | (refine vp_draw (id := 7) (l := []) (by kernel_rfl) ?_)); try (simp only [go_sem, Nat.reduceEqDiff, Nat.reduceAdd, Nat.reduceSub, Nat.reduceMul, Nat.reduceLeDiff, Nat.reduceLT, reduceIte, reduceCtorEq, Nat.succ_ne_zero, elemsC, Int.reduceToNat, Nat.reducePow, i0, i1', i6, i5, iP, htk, List.drop_zero, N0, decide_true]))
      refine vf_of (s2) ?_; (try (simp only [go_sem, Nat.reduceEqDiff, Nat.reduceAdd, Nat.reduceSub, Nat.reduceMul, Nat.reduceLeDiff, Nat.reduceLT, reduceIte, reduceCtorEq, Nat.succ_ne_zero, elemsC, Int.reduceToNat, Nat.reducePow, i0, i1', i6, i5, iP])); repeat ((first | (simp (disch := (first | omega | (simp only [AL, List.length_map]; omega))) only [AR, AL, ifT, ifF, take_all, List.length_cons, List.length_nil, Int.reduceToNat, Int.reducePow, Nat.reducePow, i0, i1', i6, i5, iP]) | (refine wk_intro (by kernel_rfl) ?_) | (refine vp_draw (id := 7) (l := []) (by kernel_rfl) ?_)); try (simp only [go_sem, Nat.reduceEqDiff, Nat.reduceAdd, Nat.reduceSub, Nat.reduceMul, Nat.reduceLeDiff, Nat.reduceLT, reduceIte, reduceCtorEq, Nat.succ_ne_zero, elemsC, Int.reduceToNat, Nat.reducePow, i0, i1', i6, i5, iP]))
      refine vf_of (e1) ?_; (try (simp only [go_sem, Nat.reduceEqDiff, Nat.reduceAdd, Nat.reduceSub, Nat.reduceMul, Nat.reduceLeDiff, Nat.reduceLT, reduceIte, reduceCtorEq, Nat.succ_ne_zero, elemsC, Int.reduceToNat, Nat.reducePow, i0, i1', i6, i5, iP])); repeat ((first | (simp (disch := (first | omega | (simp only [AL, List.length_map]; omega))) only [AR, AL, ifT, ifF, take_all, List.length_cons, List.length_nil, Int.reduceToNat, Int.reducePow, Nat.reducePow, i0, i1', i6, i5, iP]) | (refine wk_intro (by kernel_rfl) ?_) | (refine vp_draw (id := 7) (l := []) (by kernel_rfl) ?_)); try (simp only [go_sem, Nat.reduceEqDiff, Nat.reduceAdd, Nat.reduceSub, Nat.reduceMul, Nat.reduceLeDiff, Nat.reduceLT, reduceIte, reduceCtorEq, Nat.succ_ne_zero, elemsC, Int.reduceToNat, Nat.reducePow, i0, i1', i6, i5, iP]))
      refine vf_of (e2) ?_; (try (simp only [go_sem, Nat.reduceEqDiff, Nat.reduceAdd, Nat.reduceSub, Nat.reduceMul, Nat.reduceLeDiff, Nat.reduceLT, reduceIte, reduceCtorEq, Nat.succ_ne_zero, elemsC, Int.reduceToNat, Nat.reducePow, i0, i1', i6, i5, iP])); repeat ((first | (simp (disch := (first | omega | (simp only [AL, List.length_map]; omega))) only [AR, AL, ifT, ifF, take_all, List.length_cons, List.length_nil, Int.reduceToNat, Int.reducePow, Nat.reducePow, i0, i1', i6, i5, iP]) | (refine wk_intro (by kernel_rfl) ?_) | (refine vp_draw (id := 7) (l := []) (by kernel_rfl) ?_)); try (simp only [go_sem, Nat.reduceEqDiff, Nat.reduceAdd, Nat.reduceSub, Nat.reduceMul, Nat.reduceLeDiff, Nat.reduceLT, reduceIte, reduceCtorEq, Nat.succ_ne_zero, elemsC, Int.reduceToNat, Nat.reducePow, i0, i1', i6, i5, iP]))
      refine vf_of (law19_known) ?_; (try (simp only [go_sem, Nat.reduceEqDiff, Nat.reduceAdd, Nat.reduceSub, Nat.reduceMul, Nat.reduceLeDiff, Nat.reduceLT, reduceIte, reduceCtorEq, Nat.succ_ne_zero, elemsC, Int.reduceToNat, Nat.reducePow])); repeat ((first | (simp (disch := (first | omega | (simp only [AL, List.length_map]; omega))) only [AR, AL, ifT, ifF, take_all, List.length_cons, List.length_nil, Int.reduceToNat, Int.reducePow, Nat.reducePow]) | (refine wk_intro (by kernel_rfl) ?_) | (refine vp_draw (id := 7) (l := []) (by kernel_rfl) ?_)); try (simp only [go_sem, Nat.reduceEqDiff, Nat.reduceAdd, Nat.reduceSub, Nat.reduceMul, Nat.reduceLeDiff, Nat.reduceLT, reduceIte, reduceCtorEq, Nat.succ_ne_zero, elemsC, Int.reduceToNat, Nat.reducePow]))
  · obtain ⟨s, n, d, rest, hat, hX⟩ := hrow (i := i) (by omega)
    obtain ⟨s', n', d', rest2, hat2, hY⟩ := hrow2 (i := i) (by omega)
    have q1 := ref2_Sub hX hY (by omega) (by omega) (by omega)
    have hg := hgd (i := i) (by omega)
    rw [← hg] at q1
    have hsn := rvs_snoc (l := z) (i := i) (by omega)
    have hrl := rvsC_len (z.take i)
    rw [List.length_take, hzl, Nat.min_eq_left (by omega)] at hrl
    generalize z.getD i 0 = x at *
    clear hgd hrow hrow2 hX hY hg s1 s2 htk
    rcases hc with ⟨h00, i5, ig⟩ | ⟨h00, i5, iP⟩
    · subst h00
      rw [List.take_zero, rvsC_nil, List.nil_append] at hsn
      rw [Nat.zero_mul, List.drop_zero] at hat hat2
      subst hat hat2
      (try (simp only [go_sem, Nat.reduceEqDiff, Nat.reduceAdd, Nat.reduceSub, Nat.reduceMul, Nat.reduceLeDiff, Nat.reduceLT, reduceIte, reduceCtorEq, Nat.succ_ne_zero, elemsC, Int.reduceToNat, Nat.reducePow, i0, i1', i6, i5, ig])); repeat ((first | (simp (disch := (first | omega | (simp only [AL, List.length_map]; omega))) only [AR, AL, ifT, ifF, take_all, List.length_cons, List.length_nil, Int.reduceToNat, Int.reducePow, Nat.reducePow, i0, i1', i6, i5, ig]) | (refine wk_intro (by kernel_rfl) ?_) | (refine vp_draw (id := 7) (l := []) (by kernel_rfl) ?_)); try (simp only [go_sem, Nat.reduceEqDiff, Nat.reduceAdd, Nat.reduceSub, Nat.reduceMul, Nat.reduceLeDiff, Nat.reduceLT, reduceIte, reduceCtorEq, Nat.succ_ne_zero, elemsC, Int.reduceToNat, Nat.reducePow, i0, i1', i6, i5, ig]))
      refine vf_of (q1) ?_; (try (simp only [go_sem, Nat.reduceEqDiff, Nat.reduceAdd, Nat.reduceSub, Nat.reduceMul, Nat.reduceLeDiff, Nat.reduceLT, reduceIte, reduceCtorEq, Nat.succ_ne_zero, elemsC, Int.reduceToNat, Nat.reducePow, i0, i1', i6, i5, ig, N0])); repeat ((first | (simp (disch := (first | omega | (simp only [AL, List.length_map]; omega))) only [AR, AL, ifT, ifF, take_all, List.length_cons, List.length_nil, Int.reduceToNat, Int.reducePow, Nat.reducePow, i0, i1', i6, i5, ig, N0]) | (refine wk_intro (by kernel_rfl) ?_) | (refine vp_draw (id := 7) (l := []) (by kernel_rfl) ?_)); try (simp only [go_sem, Nat.reduceEqDiff, Nat.reduceAdd, Nat.reduceSub, Nat.reduceMul, Nat.reduceLeDiff, Nat.reduceLT, reduceIte, reduceCtorEq, Nat.succ_ne_zero, elemsC, Int.reduceToNat, Nat.reducePow, i0, i1', i6, i5, ig, N0]))
      exact ⟨⟨1, rfl, by omega, .inr ⟨by omega, rfl, by first | (rw [← hsn]; rfl) | rw [← hsn]⟩⟩, by omega⟩
    · unfold rvC at hsn
      (try (simp only [go_sem, Nat.reduceEqDiff, Nat.reduceAdd, Nat.reduceSub, Nat.reduceMul, Nat.reduceLeDiff, Nat.reduceLT, reduceIte, reduceCtorEq, Nat.succ_ne_zero, elemsC, Int.reduceToNat, Nat.reducePow, i0, i1', i6, i5, iP, hat, hat2, hlen, hlen2])); repeat ((first | (simp (disch := (first | omega | (simp only [AL, List.length_map]; omega))) only [AR, AL, ifT, ifF, take_all, List.length_cons, List.length_nil, Int.reduceToNat, Int.reducePow, Nat.reducePow, i0, i1', i6, i5, iP, hat, hat2, hlen, hlen2]) | (refine wk_intro (by kernel_rfl) ?_) | (refine vp_draw (id := 7) (l := []) (by kernel_rfl) ?_)); try (simp only [go_sem, Nat.reduceEqDiff, Nat.reduceAdd, Nat.reduceSub, Nat.reduceMul, Nat.reduceLeDiff, Nat.reduceLT, reduceIte, reduceCtorEq, Nat.succ_ne_zero, elemsC, Int.reduceToNat, Nat.reducePow, i0, i1', i6, i5, iP, hat, hat2, hlen, hlen2]))
      refine vf_of (q1) ?_; (try (simp only [go_sem, Nat.reduceEqDiff, Nat.reduceAdd, Nat.reduceSub, Nat.reduceMul, Nat.reduceLeDiff, Nat.reduceLT, reduceIte, reduceCtorEq, Nat.succ_ne_zero, elemsC, Int.reduceToNat, Nat.reducePow, i0, i1', i6, i5, iP, N0, hsn, hrl])); repeat ((first | (simp (disch := (first | omega | (simp only [AL, List.length_map]; omega))) only [AR, AL, ifT, ifF, take_all, List.length_cons, List.length_nil, Int.reduceToNat, Int.reducePow, Nat.reducePow, i0, i1', i6, i5, iP, N0, hsn, hrl]) | (refine wk_intro (by kernel_rfl) ?_) | (refine vp_draw (id := 7) (l := []) (by kernel_rfl) ?_)); try (simp only [go_sem, Nat.reduceEqDiff, Nat.reduceAdd, Nat.reduceSub, Nat.reduceMul, Nat.reduceLeDiff, Nat.reduceLT, reduceIte, reduceCtorEq, Nat.succ_ne_zero, elemsC, Int.reduceToNat, Nat.reducePow, i0, i1', i6, i5, iP, N0, hsn, hrl]))
      exact ⟨⟨i + 1, rfl, by omega, .inr ⟨by omega, rfl, by first | (rw [← hsn]; rfl) | rw [← hsn]⟩⟩, by omega⟩
theorem pairs_out {p q : Nat} {c : Bool} (hp : p ≤ 9223372036854775807) (hq : q ≤ 9223372036854775807) (hmuch : Go.Ev.Fn CX 14 [.sl 2 [.sl p cs, .sl q ds]] (.bool c)) (h : c = true ∨ p ≠ q) :
    Go.Ev.Fn CX 7 [.sl p cs, .sl q ds] (.bool true) := by
  cases c
  · have h := h.resolve_left (by simp)
    refine Go.Ev.Fn.intro (fn := Try.f7) (body := (Try.f7).body.get!) (by kernel_rfl) (by kernel_rfl) (by kernel_rfl) (fun _ => rfl) (Nat.le_of_ble_eq_true (by kernel_rfl)) ?_; unfold Try.f7; simp only [Option.get!_some]
    (try (simp only [go_sem, Nat.reduceEqDiff, Nat.reduceAdd, Nat.reduceSub, Nat.reduceMul, Nat.reduceLeDiff, Nat.reduceLT, reduceIte, reduceCtorEq, Nat.succ_ne_zero, elemsC, Int.reduceToNat, Nat.reducePow])); repeat ((first | (simp (disch := (first | omega | (simp only [AL, List.length_map]; omega))) only [AR, AL, ifT, ifF, take_all, List.length_cons, List.length_nil, Int.reduceToNat, Int.reducePow, Nat.reducePow]) | (refine wk_intro (by kernel_rfl) ?_) | (refine vp_draw (id := 7) (l := []) (by kernel_rfl) ?_)); try (simp only [go_sem, Nat.reduceEqDiff, Nat.reduceAdd, Nat.reduceSub, Nat.reduceMul, Nat.reduceLeDiff, Nat.reduceLT, reduceIte, reduceCtorEq, Nat.succ_ne_zero, elemsC, Int.reduceToNat, Nat.reducePow]))
    refine vf_of (hmuch) ?_; (try (simp only [go_sem, Nat.reduceEqDiff, Nat.reduceAdd, Nat.reduceSub, Nat.reduceMul, Nat.reduceLeDiff, Nat.reduceLT, reduceIte, reduceCtorEq, Nat.succ_ne_zero, elemsC, Int.reduceToNat, Nat.reducePow])); repeat ((first | (simp (disch := (first | omega | (simp only [AL, List.length_map]; omega))) only [AR, AL, ifT, ifF, take_all, List.length_cons, List.length_nil, Int.reduceToNat, Int.reducePow, Nat.reducePow]) | (refine wk_intro (by kernel_rfl) ?_) | (refine vp_draw (id := 7) (l := []) (by kernel_rfl) ?_)); try (simp only [go_sem, Nat.reduceEqDiff, Nat.reduceAdd, Nat.reduceSub, Nat.reduceMul, Nat.reduceLeDiff, Nat.reduceLT, reduceIte, reduceCtorEq, Nat.succ_ne_zero, elemsC, Int.reduceToNat, Nat.reducePow]))
  · clear h
    refine Go.Ev.Fn.intro (fn := Try.f7) (body := (Try.f7).body.get!) (by kernel_rfl) (by kernel_rfl) (by kernel_rfl) (fun _ => rfl) (Nat.le_of_ble_eq_true (by kernel_rfl)) ?_; unfold Try.f7; simp only [Option.get!_some]
    (try (simp only [go_sem, Nat.reduceEqDiff, Nat.reduceAdd, Nat.reduceSub, Nat.reduceMul, Nat.reduceLeDiff, Nat.reduceLT, reduceIte, reduceCtorEq, Nat.succ_ne_zero, elemsC, Int.reduceToNat, Nat.reducePow])); repeat ((first | (simp (disch := (first | omega | (simp only [AL, List.length_map]; omega))) only [AR, AL, ifT, ifF, take_all, List.length_cons, List.length_nil, Int.reduceToNat, Int.reducePow, Nat.reducePow]) | (refine wk_intro (by kernel_rfl) ?_) | (refine vp_draw (id := 7) (l := []) (by kernel_rfl) ?_)); try (simp only [go_sem, Nat.reduceEqDiff, Nat.reduceAdd, Nat.reduceSub, Nat.reduceMul, Nat.reduceLeDiff, Nat.reduceLT, reduceIte, reduceCtorEq, Nat.succ_ne_zero, elemsC, Int.reduceToNat, Nat.reducePow]))
    refine vf_of (hmuch) ?_; (try (simp only [go_sem, Nat.reduceEqDiff, Nat.reduceAdd, Nat.reduceSub, Nat.reduceMul, Nat.reduceLeDiff, Nat.reduceLT, reduceIte, reduceCtorEq, Nat.succ_ne_zero, elemsC, Int.reduceToNat, Nat.reducePow])); repeat ((first | (simp (disch := (first | omega | (simp only [AL, List.length_map]; omega))) only [AR, AL, ifT, ifF, take_all, List.length_cons, List.length_nil, Int.reduceToNat, Int.reducePow, Nat.reducePow]) | (refine wk_intro (by kernel_rfl) ?_) | (refine vp_draw (id := 7) (l := []) (by kernel_rfl) ?_)); try (simp only [go_sem, Nat.reduceEqDiff, Nat.reduceAdd, Nat.reduceSub, Nat.reduceMul, Nat.reduceLeDiff, Nat.reduceLT, reduceIte, reduceCtorEq, Nat.succ_ne_zero, elemsC, Int.reduceToNat, Nat.reducePow]))
theorem turns_out {p q : Nat} (hmuch : Go.Ev.Fn CX 14 [.sl 2 [.sl p cs, .sl q ds]] (.bool true)) :
    Go.Ev.Fn CX 6 [.sl p cs, .sl q ds] (.bool true) := by
  refine Go.Ev.Fn.intro (fn := Try.f6) (body := (Try.f6).body.get!) (by kernel_rfl) (by kernel_rfl) (by kernel_rfl) (fun _ => rfl) (Nat.le_of_ble_eq_true (by kernel_rfl)) ?_; unfold Try.f6; simp only [Option.get!_some]
  (try (simp only [go_sem, Nat.reduceEqDiff, Nat.reduceAdd, Nat.reduceSub, Nat.reduceMul, Nat.reduceLeDiff, Nat.reduceLT, reduceIte, reduceCtorEq, Nat.succ_ne_zero, elemsC, Int.reduceToNat, Nat.reducePow])); repeat ((first | (simp (disch := (first | omega | (simp only [AL, List.length_map]; omega))) only [AR, AL, ifT, ifF, take_all, List.length_cons, List.length_nil, Int.reduceToNat, Int.reducePow, Nat.reducePow]) | (refine wk_intro (by kernel_rfl) ?_) | (refine vp_draw (id := 11) (l := []) (by kernel_rfl) ?_)); try (simp only [go_sem, Nat.reduceEqDiff, Nat.reduceAdd, Nat.reduceSub, Nat.reduceMul, Nat.reduceLeDiff, Nat.reduceLT, reduceIte, reduceCtorEq, Nat.succ_ne_zero, elemsC, Int.reduceToNat, Nat.reducePow]))
  refine vf_of (hmuch) ?_; (try (simp only [go_sem, Nat.reduceEqDiff, Nat.reduceAdd, Nat.reduceSub, Nat.reduceMul, Nat.reduceLeDiff, Nat.reduceLT, reduceIte, reduceCtorEq, Nat.succ_ne_zero, elemsC, Int.reduceToNat, Nat.reducePow])); repeat ((first | (simp (disch := (first | omega | (simp only [AL, List.length_map]; omega))) only [AR, AL, ifT, ifF, take_all, List.length_cons, List.length_nil, Int.reduceToNat, Int.reducePow, Nat.reducePow]) | (refine wk_intro (by kernel_rfl) ?_) | (refine vp_draw (id := 11) (l := []) (by kernel_rfl) ?_)); try (simp only [go_sem, Nat.reduceEqDiff, Nat.reduceAdd, Nat.reduceSub, Nat.reduceMul, Nat.reduceLeDiff, Nat.reduceLT, reduceIte, reduceCtorEq, Nat.succ_ne_zero, elemsC, Int.reduceToNat, Nat.reducePow]))
set_option maxHeartbeats 1000000 in
theorem turns_main (hmuch : Go.Ev.Fn CX 14 [.sl 2 [.sl l.length cs, .sl m.length ds]] (.bool false))
    (hR : RowC cs l 1) (hS : RowC ds m 1) (hl : l.length ≤ 12) (hm : m.length ≤ 12) :
    Go.Ev.Fn CX 6 [.sl l.length cs, .sl m.length ds] (.bool true) := by
  have s1 := stat_pooled hR hS hl hm
  have s2 := stat_pooled hS hR hm hl
  have s3 := stat_fisher hR hS hl hm
  have s4 := stat_fisher hS hR hm hl
  rw [poolR_turn m l] at s2
  obtain ⟨e1, e2⟩ := same_res (poolR l m) (sz_pool (row_sz10 hR) (row_sz10 hS) hl hm) deg_pool
  have z3 := sz_fis (row_sz10 hR) (row_sz10 hS) hl hm
  have z4 := sz_fis (row_sz10 hS) (row_sz10 hR) hm hl
  have hf := fisR_turn l m
  generalize poolR l m = r at *
  generalize fisR l m = r3 at *
  generalize fisR m l = r4 at *
  obtain ⟨q, dg, e⟩ := r
  obtain ⟨q3, dg3, f3⟩ := r3
  obtain ⟨q4, dg4, f4⟩ := r4
  simp only [Prod.mk.injEq] at hf z3 z4
  rcases hf with ⟨rfl, rfl⟩ | ⟨⟨rfl, rfl⟩, ⟨rfl, rfl⟩, hq⟩
  · clear hR hS z3 z4
    refine Go.Ev.Fn.intro (fn := Try.f6) (body := (Try.f6).body.get!) (by kernel_rfl) (by kernel_rfl) (by kernel_rfl) (fun _ => rfl) (Nat.le_of_ble_eq_true (by kernel_rfl)) ?_; unfold Try.f6; simp only [Option.get!_some]
    (try (simp only [go_sem, Nat.reduceEqDiff, Nat.reduceAdd, Nat.reduceSub, Nat.reduceMul, Nat.reduceLeDiff, Nat.reduceLT, reduceIte, reduceCtorEq, Nat.succ_ne_zero, elemsC, Int.reduceToNat, Nat.reducePow])); repeat ((first | (simp (disch := (first | omega | (simp only [AL, List.length_map]; omega))) only [AR, AL, ifT, ifF, take_all, List.length_cons, List.length_nil, Int.reduceToNat, Int.reducePow, Nat.reducePow]) | (refine wk_intro (by kernel_rfl) ?_) | (refine vp_draw (id := 11) (l := []) (by kernel_rfl) ?_)); try (simp only [go_sem, Nat.reduceEqDiff, Nat.reduceAdd, Nat.reduceSub, Nat.reduceMul, Nat.reduceLeDiff, Nat.reduceLT, reduceIte, reduceCtorEq, Nat.succ_ne_zero, elemsC, Int.reduceToNat, Nat.reducePow]))
    refine vf_of (hmuch) ?_; (try (simp only [go_sem, Nat.reduceEqDiff, Nat.reduceAdd, Nat.reduceSub, Nat.reduceMul, Nat.reduceLeDiff, Nat.reduceLT, reduceIte, reduceCtorEq, Nat.succ_ne_zero, elemsC, Int.reduceToNat, Nat.reducePow])); repeat ((first | (simp (disch := (first | omega | (simp only [AL, List.length_map]; omega))) only [AR, AL, ifT, ifF, take_all, List.length_cons, List.length_nil, Int.reduceToNat, Int.reducePow, Nat.reducePow]) | (refine wk_intro (by kernel_rfl) ?_) | (refine vp_draw (id := 11) (l := []) (by kernel_rfl) ?_)); try (simp only [go_sem, Nat.reduceEqDiff, Nat.reduceAdd, Nat.reduceSub, Nat.reduceMul, Nat.reduceLeDiff, Nat.reduceLT, reduceIte, reduceCtorEq, Nat.succ_ne_zero, elemsC, Int.reduceToNat, Nat.reducePow]))
    refine vf_of (s1) ?_; (try (simp only [go_sem, Nat.reduceEqDiff, Nat.reduceAdd, Nat.reduceSub, Nat.reduceMul, Nat.reduceLeDiff, Nat.reduceLT, reduceIte, reduceCtorEq, Nat.succ_ne_zero, elemsC, Int.reduceToNat, Nat.reducePow])); repeat ((first | (simp (disch := (first | omega | (simp only [AL, List.length_map]; omega))) only [AR, AL, ifT, ifF, take_all, List.length_cons, List.length_nil, Int.reduceToNat, Int.reducePow, Nat.reducePow]) | (refine wk_intro (by kernel_rfl) ?_) | (refine vp_draw (id := 11) (l := []) (by kernel_rfl) ?_)); try (simp only [go_sem, Nat.reduceEqDiff, Nat.reduceAdd, Nat.reduceSub, Nat.reduceMul, Nat.reduceLeDiff, Nat.reduceLT, reduceIte, reduceCtorEq, Nat.succ_ne_zero, elemsC, Int.reduceToNat, Nat.reducePow]))
    refine vf_of (s2) ?_; (try (simp only [go_sem, Nat.reduceEqDiff, Nat.reduceAdd, Nat.reduceSub, Nat.reduceMul, Nat.reduceLeDiff, Nat.reduceLT, reduceIte, reduceCtorEq, Nat.succ_ne_zero, elemsC, Int.reduceToNat, Nat.reducePow])); repeat ((first | (simp (disch := (first | omega | (simp only [AL, List.length_map]; omega))) only [AR, AL, ifT, ifF, take_all, List.length_cons, List.length_nil, Int.reduceToNat, Int.reducePow, Nat.reducePow]) | (refine wk_intro (by kernel_rfl) ?_) | (refine vp_draw (id := 11) (l := []) (by kernel_rfl) ?_)); try (simp only [go_sem, Nat.reduceEqDiff, Nat.reduceAdd, Nat.reduceSub, Nat.reduceMul, Nat.reduceLeDiff, Nat.reduceLT, reduceIte, reduceCtorEq, Nat.succ_ne_zero, elemsC, Int.reduceToNat, Nat.reducePow]))
    refine vf_of (s3) ?_; (try (simp only [go_sem, Nat.reduceEqDiff, Nat.reduceAdd, Nat.reduceSub, Nat.reduceMul, Nat.reduceLeDiff, Nat.reduceLT, reduceIte, reduceCtorEq, Nat.succ_ne_zero, elemsC, Int.reduceToNat, Nat.reducePow])); repeat ((first | (simp (disch := (first | omega | (simp only [AL, List.length_map]; omega))) only [AR, AL, ifT, ifF, take_all, List.length_cons, List.length_nil, Int.reduceToNat, Int.reducePow, Nat.reducePow]) | (refine wk_intro (by kernel_rfl) ?_) | (refine vp_draw (id := 11) (l := []) (by kernel_rfl) ?_)); try (simp only [go_sem, Nat.reduceEqDiff, Nat.reduceAdd, Nat.reduceSub, Nat.reduceMul, Nat.reduceLeDiff, Nat.reduceLT, reduceIte, reduceCtorEq, Nat.succ_ne_zero, elemsC, Int.reduceToNat, Nat.reducePow]))
    refine vf_of (s4) ?_; (try (simp only [go_sem, Nat.reduceEqDiff, Nat.reduceAdd, Nat.reduceSub, Nat.reduceMul, Nat.reduceLeDiff, Nat.reduceLT, reduceIte, reduceCtorEq, Nat.succ_ne_zero, elemsC, Int.reduceToNat, Nat.reducePow, bne_self_eq_false, Bool.not_true, beq_self_eq_true])); repeat ((first | (simp (disch := (first | omega | (simp only [AL, List.length_map]; omega))) only [AR, AL, ifT, ifF, take_all, List.length_cons, List.length_nil, Int.reduceToNat, Int.reducePow, Nat.reducePow, bne_self_eq_false, Bool.not_true, beq_self_eq_true]) | (refine wk_intro (by kernel_rfl) ?_) | (refine vp_draw (id := 11) (l := []) (by kernel_rfl) ?_)); try (simp only [go_sem, Nat.reduceEqDiff, Nat.reduceAdd, Nat.reduceSub, Nat.reduceMul, Nat.reduceLeDiff, Nat.reduceLT, reduceIte, reduceCtorEq, Nat.succ_ne_zero, elemsC, Int.reduceToNat, Nat.reducePow, bne_self_eq_false, Bool.not_true, beq_self_eq_true]))
    refine vf_of (e1) ?_; (try (simp only [go_sem, Nat.reduceEqDiff, Nat.reduceAdd, Nat.reduceSub, Nat.reduceMul, Nat.reduceLeDiff, Nat.reduceLT, reduceIte, reduceCtorEq, Nat.succ_ne_zero, elemsC, Int.reduceToNat, Nat.reducePow, bne_self_eq_false, Bool.not_true, beq_self_eq_true])); repeat ((first | (simp (disch := (first | omega | (simp only [AL, List.length_map]; omega))) only [AR, AL, ifT, ifF, take_all, List.length_cons, List.length_nil, Int.reduceToNat, Int.reducePow, Nat.reducePow, bne_self_eq_false, Bool.not_true, beq_self_eq_true]) | (refine wk_intro (by kernel_rfl) ?_) | (refine vp_draw (id := 11) (l := []) (by kernel_rfl) ?_)); try (simp only [go_sem, Nat.reduceEqDiff, Nat.reduceAdd, Nat.reduceSub, Nat.reduceMul, Nat.reduceLeDiff, Nat.reduceLT, reduceIte, reduceCtorEq, Nat.succ_ne_zero, elemsC, Int.reduceToNat, Nat.reducePow, bne_self_eq_false, Bool.not_true, beq_self_eq_true]))
    refine vf_of (e2) ?_; (try (simp only [go_sem, Nat.reduceEqDiff, Nat.reduceAdd, Nat.reduceSub, Nat.reduceMul, Nat.reduceLeDiff, Nat.reduceLT, reduceIte, reduceCtorEq, Nat.succ_ne_zero, elemsC, Int.reduceToNat, Nat.reducePow, bne_self_eq_false, Bool.not_true, beq_self_eq_true])); repeat ((first | (simp (disch := (first | omega | (simp only [AL, List.length_map]; omega))) only [AR, AL, ifT, ifF, take_all, List.length_cons, List.length_nil, Int.reduceToNat, Int.reducePow, Nat.reducePow, bne_self_eq_false, Bool.not_true, beq_self_eq_true]) | (refine wk_intro (by kernel_rfl) ?_) | (refine vp_draw (id := 11) (l := []) (by kernel_rfl) ?_)); try (simp only [go_sem, Nat.reduceEqDiff, Nat.reduceAdd, Nat.reduceSub, Nat.reduceMul, Nat.reduceLeDiff, Nat.reduceLT, reduceIte, reduceCtorEq, Nat.succ_ne_zero, elemsC, Int.reduceToNat, Nat.reducePow, bne_self_eq_false, Bool.not_true, beq_self_eq_true]))
    refine vf_of (law19_known) ?_; (try (simp only [go_sem, Nat.reduceEqDiff, Nat.reduceAdd, Nat.reduceSub, Nat.reduceMul, Nat.reduceLeDiff, Nat.reduceLT, reduceIte, reduceCtorEq, Nat.succ_ne_zero, elemsC, Int.reduceToNat, Nat.reducePow])); repeat ((first | (simp (disch := (first | omega | (simp only [AL, List.length_map]; omega))) only [AR, AL, ifT, ifF, take_all, List.length_cons, List.length_nil, Int.reduceToNat, Int.reducePow, Nat.reducePow]) | (refine wk_intro (by kernel_rfl) ?_) | (refine vp_draw (id := 11) (l := []) (by kernel_rfl) ?_)); try (simp only [go_sem, Nat.reduceEqDiff, Nat.reduceAdd, Nat.reduceSub, Nat.reduceMul, Nat.reduceLeDiff, Nat.reduceLT, reduceIte, reduceCtorEq, Nat.succ_ne_zero, elemsC, Int.reduceToNat, Nat.reducePow]))
  · have p1 := ref2_Mul (RatA_rv z3) (RatA_rv z4) (by omega) (by omega) (by omega)
    rw [hq] at p1
    have i1 := ref2_Int 1 (by omega)
    have e3 := ref2_Same (RatA_rv (int_szR (n := 1) (by omega))) (RatA_rv (int_szR (n := 1) (by omega))) (by omega) (by omega) (by omega)
    rw [decide_eq_true rfl] at e3
    rw [show ((1 : Int) : Rat) = 1 from rfl] at i1 e3
    clear hR hS z3 z4 hq
    have n1 : ((l.length : Int) - 1 == (l.length : Int) - 1) = true := beq_self_eq_true _
    have n2 : ((m.length : Int) - 1 == (m.length : Int) - 1) = true := beq_self_eq_true _
    generalize (l.length : Int) - 1 = x at *
    generalize (m.length : Int) - 1 = y at *
    refine Go.Ev.Fn.intro (fn := Try.f6) (body := (Try.f6).body.get!) (by kernel_rfl) (by kernel_rfl) (by kernel_rfl) (fun _ => rfl) (Nat.le_of_ble_eq_true (by kernel_rfl)) ?_; unfold Try.f6; simp only [Option.get!_some]
    (try (simp only [go_sem, Nat.reduceEqDiff, Nat.reduceAdd, Nat.reduceSub, Nat.reduceMul, Nat.reduceLeDiff, Nat.reduceLT, reduceIte, reduceCtorEq, Nat.succ_ne_zero, elemsC, Int.reduceToNat, Nat.reducePow])); repeat ((first | (simp (disch := (first | omega | (simp only [AL, List.length_map]; omega))) only [AR, AL, ifT, ifF, take_all, List.length_cons, List.length_nil, Int.reduceToNat, Int.reducePow, Nat.reducePow]) | (refine wk_intro (by kernel_rfl) ?_) | (refine vp_draw (id := 11) (l := []) (by kernel_rfl) ?_)); try (simp only [go_sem, Nat.reduceEqDiff, Nat.reduceAdd, Nat.reduceSub, Nat.reduceMul, Nat.reduceLeDiff, Nat.reduceLT, reduceIte, reduceCtorEq, Nat.succ_ne_zero, elemsC, Int.reduceToNat, Nat.reducePow]))
    refine vf_of (hmuch) ?_; (try (simp only [go_sem, Nat.reduceEqDiff, Nat.reduceAdd, Nat.reduceSub, Nat.reduceMul, Nat.reduceLeDiff, Nat.reduceLT, reduceIte, reduceCtorEq, Nat.succ_ne_zero, elemsC, Int.reduceToNat, Nat.reducePow])); repeat ((first | (simp (disch := (first | omega | (simp only [AL, List.length_map]; omega))) only [AR, AL, ifT, ifF, take_all, List.length_cons, List.length_nil, Int.reduceToNat, Int.reducePow, Nat.reducePow]) | (refine wk_intro (by kernel_rfl) ?_) | (refine vp_draw (id := 11) (l := []) (by kernel_rfl) ?_)); try (simp only [go_sem, Nat.reduceEqDiff, Nat.reduceAdd, Nat.reduceSub, Nat.reduceMul, Nat.reduceLeDiff, Nat.reduceLT, reduceIte, reduceCtorEq, Nat.succ_ne_zero, elemsC, Int.reduceToNat, Nat.reducePow]))
    refine vf_of (s1) ?_; (try (simp only [go_sem, Nat.reduceEqDiff, Nat.reduceAdd, Nat.reduceSub, Nat.reduceMul, Nat.reduceLeDiff, Nat.reduceLT, reduceIte, reduceCtorEq, Nat.succ_ne_zero, elemsC, Int.reduceToNat, Nat.reducePow])); repeat ((first | (simp (disch := (first | omega | (simp only [AL, List.length_map]; omega))) only [AR, AL, ifT, ifF, take_all, List.length_cons, List.length_nil, Int.reduceToNat, Int.reducePow, Nat.reducePow]) | (refine wk_intro (by kernel_rfl) ?_) | (refine vp_draw (id := 11) (l := []) (by kernel_rfl) ?_)); try (simp only [go_sem, Nat.reduceEqDiff, Nat.reduceAdd, Nat.reduceSub, Nat.reduceMul, Nat.reduceLeDiff, Nat.reduceLT, reduceIte, reduceCtorEq, Nat.succ_ne_zero, elemsC, Int.reduceToNat, Nat.reducePow]))
    refine vf_of (s2) ?_; (try (simp only [go_sem, Nat.reduceEqDiff, Nat.reduceAdd, Nat.reduceSub, Nat.reduceMul, Nat.reduceLeDiff, Nat.reduceLT, reduceIte, reduceCtorEq, Nat.succ_ne_zero, elemsC, Int.reduceToNat, Nat.reducePow])); repeat ((first | (simp (disch := (first | omega | (simp only [AL, List.length_map]; omega))) only [AR, AL, ifT, ifF, take_all, List.length_cons, List.length_nil, Int.reduceToNat, Int.reducePow, Nat.reducePow]) | (refine wk_intro (by kernel_rfl) ?_) | (refine vp_draw (id := 11) (l := []) (by kernel_rfl) ?_)); try (simp only [go_sem, Nat.reduceEqDiff, Nat.reduceAdd, Nat.reduceSub, Nat.reduceMul, Nat.reduceLeDiff, Nat.reduceLT, reduceIte, reduceCtorEq, Nat.succ_ne_zero, elemsC, Int.reduceToNat, Nat.reducePow]))
    refine vf_of (s3) ?_; (try (simp only [go_sem, Nat.reduceEqDiff, Nat.reduceAdd, Nat.reduceSub, Nat.reduceMul, Nat.reduceLeDiff, Nat.reduceLT, reduceIte, reduceCtorEq, Nat.succ_ne_zero, elemsC, Int.reduceToNat, Nat.reducePow])); repeat ((first | (simp (disch := (first | omega | (simp only [AL, List.length_map]; omega))) only [AR, AL, ifT, ifF, take_all, List.length_cons, List.length_nil, Int.reduceToNat, Int.reducePow, Nat.reducePow]) | (refine wk_intro (by kernel_rfl) ?_) | (refine vp_draw (id := 11) (l := []) (by kernel_rfl) ?_)); try (simp only [go_sem, Nat.reduceEqDiff, Nat.reduceAdd, Nat.reduceSub, Nat.reduceMul, Nat.reduceLeDiff, Nat.reduceLT, reduceIte, reduceCtorEq, Nat.succ_ne_zero, elemsC, Int.reduceToNat, Nat.reducePow]))
    refine vf_of (s4) ?_; (try (simp only [go_sem, Nat.reduceEqDiff, Nat.reduceAdd, Nat.reduceSub, Nat.reduceMul, Nat.reduceLeDiff, Nat.reduceLT, reduceIte, reduceCtorEq, Nat.succ_ne_zero, elemsC, Int.reduceToNat, Nat.reducePow, bne_self_eq_false, Bool.not_true, beq_self_eq_true])); repeat ((first | (simp (disch := (first | omega | (simp only [AL, List.length_map]; omega))) only [AR, AL, ifT, ifF, take_all, List.length_cons, List.length_nil, Int.reduceToNat, Int.reducePow, Nat.reducePow, bne_self_eq_false, Bool.not_true, beq_self_eq_true]) | (refine wk_intro (by kernel_rfl) ?_) | (refine vp_draw (id := 11) (l := []) (by kernel_rfl) ?_)); try (simp only [go_sem, Nat.reduceEqDiff, Nat.reduceAdd, Nat.reduceSub, Nat.reduceMul, Nat.reduceLeDiff, Nat.reduceLT, reduceIte, reduceCtorEq, Nat.succ_ne_zero, elemsC, Int.reduceToNat, Nat.reducePow, bne_self_eq_false, Bool.not_true, beq_self_eq_true]))
    refine vf_of (e1) ?_; (try (simp only [go_sem, Nat.reduceEqDiff, Nat.reduceAdd, Nat.reduceSub, Nat.reduceMul, Nat.reduceLeDiff, Nat.reduceLT, reduceIte, reduceCtorEq, Nat.succ_ne_zero, elemsC, Int.reduceToNat, Nat.reducePow, bne_self_eq_false, Bool.not_true, beq_self_eq_true])); repeat ((first | (simp (disch := (first | omega | (simp only [AL, List.length_map]; omega))) only [AR, AL, ifT, ifF, take_all, List.length_cons, List.length_nil, Int.reduceToNat, Int.reducePow, Nat.reducePow, bne_self_eq_false, Bool.not_true, beq_self_eq_true]) | (refine wk_intro (by kernel_rfl) ?_) | (refine vp_draw (id := 11) (l := []) (by kernel_rfl) ?_)); try (simp only [go_sem, Nat.reduceEqDiff, Nat.reduceAdd, Nat.reduceSub, Nat.reduceMul, Nat.reduceLeDiff, Nat.reduceLT, reduceIte, reduceCtorEq, Nat.succ_ne_zero, elemsC, Int.reduceToNat, Nat.reducePow, bne_self_eq_false, Bool.not_true, beq_self_eq_true]))
    refine vf_of (e2) ?_; (try (simp only [go_sem, Nat.reduceEqDiff, Nat.reduceAdd, Nat.reduceSub, Nat.reduceMul, Nat.reduceLeDiff, Nat.reduceLT, reduceIte, reduceCtorEq, Nat.succ_ne_zero, elemsC, Int.reduceToNat, Nat.reducePow, n1, n2, bne_self_eq_false, Bool.not_true, beq_self_eq_true])); repeat ((first | (simp (disch := (first | omega | (simp only [AL, List.length_map]; omega))) only [AR, AL, ifT, ifF, take_all, List.length_cons, List.length_nil, Int.reduceToNat, Int.reducePow, Nat.reducePow, n1, n2, bne_self_eq_false, Bool.not_true, beq_self_eq_true]) | (refine wk_intro (by kernel_rfl) ?_) | (refine vp_draw (id := 11) (l := []) (by kernel_rfl) ?_)); try (simp only [go_sem, Nat.reduceEqDiff, Nat.reduceAdd, Nat.reduceSub, Nat.reduceMul, Nat.reduceLeDiff, Nat.reduceLT, reduceIte, reduceCtorEq, Nat.succ_ne_zero, elemsC, Int.reduceToNat, Nat.reducePow, n1, n2, bne_self_eq_false, Bool.not_true, beq_self_eq_true]))
    refine vf_of (p1) ?_; (try (simp only [go_sem, Nat.reduceEqDiff, Nat.reduceAdd, Nat.reduceSub, Nat.reduceMul, Nat.reduceLeDiff, Nat.reduceLT, reduceIte, reduceCtorEq, Nat.succ_ne_zero, elemsC, Int.reduceToNat, Nat.reducePow, n1, n2])); repeat ((first | (simp (disch := (first | omega | (simp only [AL, List.length_map]; omega))) only [AR, AL, ifT, ifF, take_all, List.length_cons, List.length_nil, Int.reduceToNat, Int.reducePow, Nat.reducePow, n1, n2]) | (refine wk_intro (by kernel_rfl) ?_) | (refine vp_draw (id := 11) (l := []) (by kernel_rfl) ?_)); try (simp only [go_sem, Nat.reduceEqDiff, Nat.reduceAdd, Nat.reduceSub, Nat.reduceMul, Nat.reduceLeDiff, Nat.reduceLT, reduceIte, reduceCtorEq, Nat.succ_ne_zero, elemsC, Int.reduceToNat, Nat.reducePow, n1, n2]))
    refine vf_of (i1) ?_; (try (simp only [go_sem, Nat.reduceEqDiff, Nat.reduceAdd, Nat.reduceSub, Nat.reduceMul, Nat.reduceLeDiff, Nat.reduceLT, reduceIte, reduceCtorEq, Nat.succ_ne_zero, elemsC, Int.reduceToNat, Nat.reducePow])); repeat ((first | (simp (disch := (first | omega | (simp only [AL, List.length_map]; omega))) only [AR, AL, ifT, ifF, take_all, List.length_cons, List.length_nil, Int.reduceToNat, Int.reducePow, Nat.reducePow]) | (refine wk_intro (by kernel_rfl) ?_) | (refine vp_draw (id := 11) (l := []) (by kernel_rfl) ?_)); try (simp only [go_sem, Nat.reduceEqDiff, Nat.reduceAdd, Nat.reduceSub, Nat.reduceMul, Nat.reduceLeDiff, Nat.reduceLT, reduceIte, reduceCtorEq, Nat.succ_ne_zero, elemsC, Int.reduceToNat, Nat.reducePow]))
    refine vf_of (e3) ?_; (try (simp only [go_sem, Nat.reduceEqDiff, Nat.reduceAdd, Nat.reduceSub, Nat.reduceMul, Nat.reduceLeDiff, Nat.reduceLT, reduceIte, reduceCtorEq, Nat.succ_ne_zero, elemsC, Int.reduceToNat, Nat.reducePow])); repeat ((first | (simp (disch := (first | omega | (simp only [AL, List.length_map]; omega))) only [AR, AL, ifT, ifF, take_all, List.length_cons, List.length_nil, Int.reduceToNat, Int.reducePow, Nat.reducePow]) | (refine wk_intro (by kernel_rfl) ?_) | (refine vp_draw (id := 11) (l := []) (by kernel_rfl) ?_)); try (simp only [go_sem, Nat.reduceEqDiff, Nat.reduceAdd, Nat.reduceSub, Nat.reduceMul, Nat.reduceLeDiff, Nat.reduceLT, reduceIte, reduceCtorEq, Nat.succ_ne_zero, elemsC, Int.reduceToNat, Nat.reducePow]))
    refine vf_of (law19_known) ?_; (try (simp only [go_sem, Nat.reduceEqDiff, Nat.reduceAdd, Nat.reduceSub, Nat.reduceMul, Nat.reduceLeDiff, Nat.reduceLT, reduceIte, reduceCtorEq, Nat.succ_ne_zero, elemsC, Int.reduceToNat, Nat.reducePow])); repeat ((first | (simp (disch := (first | omega | (simp only [AL, List.length_map]; omega))) only [AR, AL, ifT, ifF, take_all, List.length_cons, List.length_nil, Int.reduceToNat, Int.reducePow, Nat.reducePow]) | (refine wk_intro (by kernel_rfl) ?_) | (refine vp_draw (id := 11) (l := []) (by kernel_rfl) ?_)); try (simp only [go_sem, Nat.reduceEqDiff, Nat.reduceAdd, Nat.reduceSub, Nat.reduceMul, Nat.reduceLeDiff, Nat.reduceLT, reduceIte, reduceCtorEq, Nat.succ_ne_zero, elemsC, Int.reduceToNat, Nat.reducePow]))
end
theorem test_pairs (x : SV) (shx : ShpT Try.prog 7 39 [x]) (y : SV) (shy : ShpT Try.prog 7 39 [y]) :
    Go.Ev.Fn CX 7 [x, y] (.bool true) := by
  obtain ⟨ps, e, hp, hok⟩ := shp_rats (n := 3) shx
  obtain ⟨qs, e', hq, hok'⟩ := shp_rats (n := 3) shy
  injection e with e
  injection e' with e'
  subst e
  subst e'
  have hmuch := two_much hp hq
  have hp2 : ps.length ≤ 9223372036854775807 := Nat.le_trans hp (by decide)
  have hq2 : qs.length ≤ 9223372036854775807 := Nat.le_trans hq (by decide)
  by_cases hb : (bigR ps || bigR qs) = true
  · exact pairs_out hp2 hq2 hmuch (.inl hb)
  by_cases hpq : ps.length = qs.length
  · have hb := Bool.eq_false_iff.2 hb
    rw [Bool.or_eq_false_iff] at hb
    obtain ⟨hR, hl⟩ := bigR_row hb.1 hok
    obtain ⟨hS, hm⟩ := bigR_row hb.2 hok'
    rw [hb.1, hb.2, Bool.or_false] at hmuch
    have h1 : (ps.map InR.q).length = ps.length := List.length_map _
    have h2 : (qs.map InR.q).length = qs.length := List.length_map _
    rw [show rowV ps = .sl (ps.map InR.q).length (ratsC ps) by rw [h1], show rowV qs = .sl (qs.map InR.q).length (ratsC qs) by rw [h2]]
    rw [← h1, ← h2] at hmuch
    exact pairs_main hmuch hR hS (by omega) (by omega)
  · exact pairs_out hp2 hq2 hmuch (.inr hpq)
theorem test_turns (x : SV) (shx : ShpT Try.prog 7 39 [x]) (y : SV) (shy : ShpT Try.prog 7 39 [y]) :
    Go.Ev.Fn CX 6 [x, y] (.bool true) := by
  obtain ⟨ps, e, hp, hok⟩ := shp_rats (n := 3) shx
  obtain ⟨qs, e', hq, hok'⟩ := shp_rats (n := 3) shy
  injection e with e
  injection e' with e'
  subst e
  subst e'
  have hmuch := two_much hp hq
  by_cases hb : (bigR ps || bigR qs) = true
  · rw [hb] at hmuch
    exact turns_out hmuch
  · have hb := Bool.eq_false_iff.2 hb
    rw [Bool.or_eq_false_iff] at hb
    obtain ⟨hR, hl⟩ := bigR_row hb.1 hok
    obtain ⟨hS, hm⟩ := bigR_row hb.2 hok'
    rw [hb.1, hb.2, Bool.or_false] at hmuch
    have h1 : (ps.map InR.q).length = ps.length := List.length_map _
    have h2 : (qs.map InR.q).length = qs.length := List.length_map _
    rw [show rowV ps = .sl (ps.map InR.q).length (ratsC ps) by rw [h1], show rowV qs = .sl (qs.map InR.q).length (ratsC qs) by rw [h2]]
    rw [← h1, ← h2] at hmuch
    exact turns_main hmuch hR hS (by omega) (by omega)
end Go.Proofs.Ytdnmhnjblgkjaaa
