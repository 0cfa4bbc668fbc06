/- Part 9 of the proof: the evaluator, contracts of functions and their plain laws (joined by program). No condition. -/
import Derived.Test.YtdnmhnjblgkjaaaGreatPart8
/- vernierlaw19: TestMoves, TestPairs, TestTurns, in the evaluator. -/
namespace Go.Proofs.YtdnmhnjblgkjaaaGreat
set_option linter.unusedSimpArgs false
set_option linter.unusedVariables false
set_option maxRecDepth 8000
open Go.Ev
theorem sz_stu {l : List Rat} {mu : Rat} (h : ∀ x ∈ l, szR x 10) (hm : szR mu 10) (hl : l.length ≤ 12) : szR (stuR l mu).1 1000000 := by
  unfold stuR
  by_cases c1 : l.length < 2
  · rw [if_pos c1]; exact szR_zero (by omega)
  rw [if_neg c1]
  by_cases c2 : varR l = 0
  · rw [if_pos c2]; exact szR_zero (by omega)
  rw [if_neg c2]
  have zd := szR_sub (sz_mean (by omega) h hl) hm (by omega)
  exact szR_mono (szR_div (szR_mul (int_szR (n := (l.length : Int)) (by omega)) (szR_mul zd zd (by omega)) (by omega)) (sz_var (by omega) h hl) (by omega) (by omega)) (by omega)
theorem sz_pool {l m : List Rat} (h : ∀ x ∈ l, szR x 10) (h2 : ∀ x ∈ m, szR x 10) (hl : l.length ≤ 12) (hm : m.length ≤ 12) : szR (poolR l m).1 1000000 := by
  unfold poolR
  split
  · exact szR_zero (by omega)
  split
  · exact szR_zero (by omega)
  have zd := szR_sub (sz_mean (by omega) h hl) (sz_mean (by omega) h2 hm) (by omega)
  have hlm := Nat.mul_le_mul hl hm
  have elm : (l.length : Int) * (m.length : Int) = ((l.length * m.length : Nat) : Int) := (Int.natCast_mul _ _).symm
  have zv := szR_div (M := 2) (szR_add (sz_sq (by omega) h hl) (sz_sq (by omega) h2 hm) (by omega)) (int_szR (n := (l.length : Int) + (m.length : Int) - 2) (by omega)) (by omega) (by omega)
  have zw := szR_div (M := 2) (int_szR (n := (l.length : Int) + (m.length : Int)) (by omega)) (int_szR (n := (l.length : Int) * (m.length : Int)) (by rw [elm]; omega)) (by omega) (by omega)
  exact szR_mono (szR_div (szR_mul zd zd (by omega)) (szR_mul zv zw (by omega)) (by omega) (by omega)) (by omega)
theorem sz_fis {l m : List Rat} (h : ∀ x ∈ l, szR x 10) (h2 : ∀ x ∈ m, szR x 10) (hl : l.length ≤ 12) (hm : m.length ≤ 12) : szR (fisR l m).1 1000000 := by
  unfold fisR
  split
  · exact szR_zero (by omega)
  split
  · exact szR_zero (by omega)
  exact szR_mono (szR_div (sz_var (by omega) h hl) (sz_var (by omega) h2 hm) (by omega) (by omega)) (by omega)
theorem statR_stu {kind : Int} {l : List Rat} {mu : Rat} (hl : l.length ≤ 12) (hk : kind = 2 ∨ kind = 3) : statR kind (stuR l mu) = stuR l mu := by
  unfold stuR
  by_cases c1 : l.length < 2
  · rw [if_pos c1]; rfl
  rw [if_neg c1]
  by_cases c2 : varR l = 0
  · rw [if_pos c2]; rfl
  rw [if_neg c2]
  unfold statR
  simp only
  rw [if_neg (by simp), if_neg (by simp; omega), if_neg (fun h => by omega)]
theorem statR_pool {l m : List Rat} (hl : l.length ≤ 12) (hm : m.length ≤ 12) : statR 4 (poolR l m) = poolR l m := by
  unfold poolR
  split
  · rfl
  split
  · rfl
  unfold statR
  simp only
  rw [if_neg (by simp), if_neg (by simp; omega), if_neg (fun h => by omega)]
theorem statR_fis {l m : List Rat} (hl : l.length ≤ 12) (hm : m.length ≤ 12) : statR 5 (fisR l m) = fisR l m := by
  unfold fisR
  split
  · rfl
  split
  · rfl
  unfold statR
  simp only
  rw [if_neg (by simp), if_neg (by simp; omega), if_neg (fun h => by omega)]
theorem deg_stu {l : List Rat} {mu : Rat} : (stuR l mu).2.1.length ≤ 1000 := by
  unfold stuR
  split
  · simp
  split <;> simp
theorem deg_pool {l m : List Rat} : (poolR l m).2.1.length ≤ 1000 := by
  unfold poolR
  split
  · simp
  split <;> simp
theorem deg_fis {l m : List Rat} : (fisR l m).2.1.length ≤ 1000 := by
  unfold fisR
  split
  · simp
  split <;> simp
theorem row_sz10 {l : List Rat} {cs : List SV} (h : RowC cs l 1) : ∀ x ∈ l, szR x 10 := fun x hx => szR_mono (row_sz (by omega) h x hx) (by omega)
/-- A row's test is told. -/
theorem stat_T {xs : List SV} {l : List Rat} {M : Nat} {sm : Bool} {nm dm : List Nat} {mu : Rat} (h : RowC xs l M) (hM : 1 ≤ M) (hM2 : M ≤ 10) (hm : RatA (ratV sm nm dm) mu 10) (hl : l.length ≤ 12) :
    Go.Ev.Fn CX 6 [testV 2 (.sl l.length xs) (.sl 0 []) (.sl 0 []) sm nm dm false [] [] 0 0] (resV (stuR l mu)) := by
  have h1 := raw_T (Y := 0) (ys := []) (tn := 0) (tc := []) (ss := false) (ns := []) (ds := []) (k := 0) (n := 0) h hM (by omega) hm (by omega) (by omega) hl (by omega)
  have h2 := test_Statistic h1 (sz_stu (fun x hx => szR_mono (row_sz hM h x hx) hM2) (szR_of hm (by omega)) hl) deg_stu
  rw [statR_stu hl (.inl rfl)] at h2
  exact h2
theorem stat_paired {xs ys : List SV} {l m : List Rat} (h : RowC xs l 1) (h2 : RowC ys m 1) (hl : l.length ≤ 12) (hm : m.length = l.length) :
    Go.Ev.Fn CX 6 [testV 3 (.sl l.length xs) (.sl m.length ys) (.sl 0 []) false [] [] false [] [] 0 0] (resV (stuR (List.zipWith (fun a b => a - b) l m) 0)) := by
  have h1 := raw_paired (tn := 0) (tc := []) (sm := false) (nm := []) (dm := []) (ss := false) (ns := []) (ds := []) (k := 0) (n := 0) h h2 hl (by omega)
  rw [if_neg (by omega)] at h1
  have hz : ∀ x ∈ List.zipWith (fun a b => a - b) l m, szR x 10 := by
    intro x hx
    obtain ⟨i, hi, rfl⟩ := List.getElem_of_mem hx
    rw [List.getElem_zipWith]
    exact szR_mono (szR_sub (row_sz (by omega) h _ (List.getElem_mem _)) (row_sz (by omega) h2 _ (List.getElem_mem _)) (by omega)) (by omega)
  have h3 := test_Statistic h1 (sz_stu hz (szR_zero (by omega)) (by rw [List.length_zipWith]; omega)) deg_stu
  rw [statR_stu (by rw [List.length_zipWith]; omega) (.inr rfl)] at h3
  exact h3
theorem stat_pooled {xs ys : List SV} {l m : List Rat} (h : RowC xs l 1) (h2 : RowC ys m 1) (hl : l.length ≤ 12) (hm : m.length ≤ 12) :
    Go.Ev.Fn CX 6 [testV 4 (.sl l.length xs) (.sl m.length ys) (.sl 0 []) false [] [] false [] [] 0 0] (resV (poolR l m)) := by
  have h1 := raw_pooled (tn := 0) (tc := []) (sm := false) (nm := []) (dm := []) (ss := false) (ns := []) (ds := []) (k := 0) (n := 0) h h2 hl hm
  have h3 := test_Statistic h1 (sz_pool (row_sz10 h) (row_sz10 h2) hl hm) deg_pool
  rw [statR_pool hl hm] at h3
  exact h3
theorem stat_fisher {xs ys : List SV} {l m : List Rat} (h : RowC xs l 1) (h2 : RowC ys m 1) (hl : l.length ≤ 12) (hm : m.length ≤ 12) :
    Go.Ev.Fn CX 6 [testV 5 (.sl l.length xs) (.sl m.length ys) (.sl 0 []) false [] [] false [] [] 0 0] (resV (fisR l m)) := by
  have h1 := raw_fisher (tn := 0) (tc := []) (sm := false) (nm := []) (dm := []) (ss := false) (ns := []) (ds := []) (k := 0) (n := 0) h h2 hl hm
  have h3 := test_Statistic h1 (sz_fis (row_sz10 h) (row_sz10 h2) hl hm) deg_fis
  rw [statR_fis hl hm] at h3
  exact h3
theorem stu_known : stuR [((1 : Int) : Rat), ((2 : Int) : Rat), ((3 : Int) : Rat)] 0 = (((12 : Int) : Rat), [2], 0) := by decide +kernel
theorem law19_known : Go.Ev.Fn CX 13 [] (.bool true) := by
  have i1 := ref2_Int 1 (by omega)
  have i2 := ref2_Int 2 (by omega)
  have i3 := ref2_Int 3 (by omega)
  have i12 := ref2_Int 12 (by omega)
  have hr : RowC (rvsC [((1 : Int) : Rat), ((2 : Int) : Rat), ((3 : Int) : Rat)]) [((1 : Int) : Rat), ((2 : Int) : Rat), ((3 : Int) : Rat)] 2 := rvsC_row _ (by
    intro x hx
    simp only [List.mem_cons, List.not_mem_nil, or_false] at hx
    rcases hx with rfl | rfl | rfl <;> exact int_szR (by omega))
  have s1 := stat_T (M := 2) (sm := false) (nm := []) (dm := []) (mu := 0) hr (by omega) (by omega) ⟨_, _, _, rfl, okL_nil, okL_nil, by simp, by simp, rfl⟩ (by simp)
  rw [stu_known] at s1
  have n1 := law19_numbers [2] [2] (by simp) (by simp)
  rw [decide_eq_true rfl] at n1
  have e1 := ref2_Same (RatA_rv (int_szR (n := 12) (by omega))) (RatA_rv (int_szR (n := 12) (by omega))) (by omega) (by omega) (by omega)
  rw [decide_eq_true rfl] at e1
  clear hr
  refine Go.Ev.Fn.intro (fn := Tryz.f13) (body := (Tryz.f13).body.get!) (by kernel_rfl) (by kernel_rfl) (by kernel_rfl) (fun _ => rfl) (Nat.le_of_ble_eq_true (by kernel_rfl)) ?_; unfold Tryz.f13; simp only [Option.get!_some]
  repeat (first | (simp only [go_sem, Nat.reduceEqDiff, Nat.reduceAdd, Nat.reduceSub, Nat.reduceMul, Nat.reduceLeDiff, Nat.reduceLT, reduceIte, reduceCtorEq, Nat.succ_ne_zero, elemsC, Int.reduceToNat, Nat.reducePow]) | (simp (disch := (first | omega | (simp only [AL, List.length_map]; omega))) only [AR, AL, ifT, ifF, take_all, List.length_cons, List.length_nil, Int.reduceToNat, Int.reducePow, Nat.reducePow]) | (refine wk_intro (by kernel_rfl) ?_) | (refine vp_draw (id := 2) (l := [2, 18]) (by kernel_rfl) ?_) | (refine vf_of (by first | exact i1 | exact i2 | exact i3 | exact s1 | exact n1 | exact i12 | exact e1) ?_))
end Go.Proofs.YtdnmhnjblgkjaaaGreat

/- vernierlaw19.TestSums, in the evaluator. -/
namespace Go.Proofs.YtdnmhnjblgkjaaaGreat
set_option linter.unusedSimpArgs false
set_option linter.unusedVariables false
set_option maxRecDepth 8000
open Go.Ev
/-- A table's numbers. -/
def tabQ (ts : List (List InR)) : List (List Rat) := ts.map fun ps => ps.map InR.q
theorem tabQ_len (ts : List (List InR)) : (tabQ ts).length = ts.length := List.length_map _
theorem tabQ_tab {L : Nat} : ∀ ts : List (List InR), (∀ ps ∈ ts, ∀ p ∈ ps, p.ok ∧ p.2.1.length ≤ L ∧ p.2.2.length ≤ L) → TabC (ts.map rowV) (tabQ ts) L
  | [], _ => rfl
  | ps :: ts, h => by
    refine ⟨ratsC ps, ts.map rowV, ?_, ratsC_row ps (h ps List.mem_cons_self), tabQ_tab ts fun x hx => h x (List.mem_cons_of_mem _ hx)⟩
    show SV.sl ps.length (ratsC ps) :: _ = SV.sl (List.map InR.q ps).length (ratsC ps) :: _
    rw [List.length_map]
theorem bigT_small {xs ys : List InR} {mu sg : InR} {ts : List (List InR)} {n : Int} (h : bigT xs ys mu sg ts n = false) :
    bigR xs = false ∧ bigR ys = false ∧ bigR [mu, sg] = false ∧ ts.length ≤ 4 ∧ (n ≤ 8 ∨ 256 < n) ∧ ∀ ps ∈ ts, ps.length ≤ 4 ∧ bigR ps = false := by
  unfold bigT at h
  simp only [Bool.or_eq_false_iff, Bool.and_eq_false_iff, decide_eq_false_iff_not] at h
  obtain ⟨⟨h1, h2, h3⟩, h4, h5, h6⟩ := h
  refine ⟨h1, h2, h3, by omega, by omega, fun ps hp => ?_⟩
  have := List.any_eq_false.1 h6 ps hp
  simp only [Bool.or_eq_true, decide_eq_true_eq, not_or] at this
  exact ⟨by omega, Bool.eq_false_iff.2 this.2⟩
theorem tabQ_small {ts : List (List InR)} (hok : ∀ ps ∈ ts, ∀ p ∈ ps, p.ok) (h : ∀ ps ∈ ts, ps.length ≤ 4 ∧ bigR ps = false) : TabC (ts.map rowV) (tabQ ts) 1 ∧ ∀ r ∈ tabQ ts, r.length ≤ 4 := by
  refine ⟨tabQ_tab ts fun ps hps p hp => ⟨hok ps hps p hp, (bigR_small (h ps hps).2).2 p hp⟩, fun r hr => ?_⟩
  obtain ⟨ps, hps, rfl⟩ := List.mem_map.1 hr
  rw [List.length_map]
  exact (h ps hps).1
theorem expR_sz {cs : List SV} {T : List (List Rat)} (h : TabC cs T 1) (hn : T.length ≤ 4) (hl : ∀ r ∈ T, r.length ≤ 4) : ∀ r ∈ (expR T).1, ∀ x ∈ r, szR x 400 := by
  have hz := tab_szall (by omega) h
  intro r hr x hx
  unfold expR at hr
  split at hr
  · cases hr
  split at hr
  · cases hr
  obtain ⟨a, ha, rfl⟩ := List.mem_map.1 hr
  obtain ⟨b, hb, rfl⟩ := List.mem_map.1 hx
  have zS := sz_sum12 (L := 25) (by omega) (rowR_sz hz hl) (by rw [rowR_len]; omega)
  exact szR_mono (szR_div (szR_mul (rowR_sz hz hl _ ha) (colR_sz hz hn _ hb) (by omega)) zS (by omega) (by omega)) (by omega)
theorem tabsC_at (X : List (List Rat)) {i : Nat} (h : i < X.length) : ((tabsC X).drop i).head? = some (.sl (X.getD i []).length (rvsC (X.getD i []))) := by
  rw [List.head?_drop, tabsC, List.getElem?_map, List.getD_eq_getElem?_getD, List.getElem?_eq_getElem h]
  rfl
section
variable {cs : List SV} {n : Nat}
theorem sums_large (hL : Go.Ev.Fn CX 5 [testV 0 (.sl 0 []) (.sl 0 []) (.sl n cs) false [] [] false [] [] 0 0] (.bool true)) : Go.Ev.Fn CX 4 [.sl n cs] (.bool true) := by
  refine Go.Ev.Fn.intro (fn := Tryz.f4) (body := (Tryz.f4).body.get!) (by kernel_rfl) (by kernel_rfl) (by kernel_rfl) (fun _ => rfl) (Nat.le_of_ble_eq_true (by kernel_rfl)) ?_; unfold Tryz.f4; simp only [Option.get!_some]
  repeat (first | (simp only [go_sem, Nat.reduceEqDiff, Nat.reduceAdd, Nat.reduceSub, Nat.reduceMul, Nat.reduceLeDiff, Nat.reduceLT, reduceIte, reduceCtorEq, Nat.succ_ne_zero, elemsC, Int.reduceToNat, Nat.reducePow]) | (simp (disch := (first | omega | (simp only [AL, List.length_map]; omega))) only [AR, AL, ifT, ifF, take_all, List.length_cons, List.length_nil, Int.reduceToNat, Int.reducePow, Nat.reducePow]) | (refine wk_intro (by kernel_rfl) ?_) | (refine vp_draw (id := 12) (l := [60, 65]) (by kernel_rfl) ?_) | (refine vf_of (by first | exact hL) ?_))
theorem sums_err {e : Int} (hL : Go.Ev.Fn CX 5 [testV 0 (.sl 0 []) (.sl 0 []) (.sl n cs) false [] [] false [] [] 0 0] (.bool false)) (he : ¬ e = 0)
    (hE : Go.Ev.Fn CX 8 [.sl n cs] (.tup [.sl 0 [], .int .i64 e])) (hR : Go.Ev.Fn CX 9 [.sl n cs] (.tup [.sl 0 [], .int .i64 e])) :
    Go.Ev.Fn CX 4 [.sl n cs] (.bool true) := by
  refine Go.Ev.Fn.intro (fn := Tryz.f4) (body := (Tryz.f4).body.get!) (by kernel_rfl) (by kernel_rfl) (by kernel_rfl) (fun _ => rfl) (Nat.le_of_ble_eq_true (by kernel_rfl)) ?_; unfold Tryz.f4; simp only [Option.get!_some]
  repeat (first | (simp only [go_sem, Nat.reduceEqDiff, Nat.reduceAdd, Nat.reduceSub, Nat.reduceMul, Nat.reduceLeDiff, Nat.reduceLT, reduceIte, reduceCtorEq, Nat.succ_ne_zero, elemsC, Int.reduceToNat, Nat.reducePow]) | (simp (disch := (first | omega | (simp only [AL, List.length_map]; omega))) only [AR, AL, ifT, ifF, take_all, List.length_cons, List.length_nil, Int.reduceToNat, Int.reducePow, Nat.reducePow]) | (refine wk_intro (by kernel_rfl) ?_) | (refine vp_draw (id := 12) (l := [60, 65]) (by kernel_rfl) ?_) | (refine vf_of (by first | exact hL | exact hE | exact hR | exact law19_known) ?_))
theorem sums_main {T X : List (List Rat)} (hL : Go.Ev.Fn CX 5 [testV 0 (.sl 0 []) (.sl 0 []) (.sl T.length cs) false [] [] false [] [] 0 0] (.bool false))
    (hE : Go.Ev.Fn CX 8 [.sl T.length cs] (.tup [.sl X.length (tabsC X), .int .i64 0])) (h : TabC cs T 1) (hn : T.length ≤ 4) (hl : ∀ r ∈ T, r.length ≤ 4)
    (hX : X.length = T.length) (hz : ∀ r ∈ X, ∀ x ∈ r, szR x 400) (hs : ∀ i, i < T.length → (X.getD i []).length = (T.getD i []).length ∧ sumR (X.getD i []) = sumR (T.getD i [])) :
    Go.Ev.Fn CX 4 [.sl T.length cs] (.bool true) := by
  have hlen := tab_len h
  have hat := fun {i : Nat} (hi : i < T.length) => tabC_at (i := i) h hi
  have hxt := fun {i : Nat} (hi : i < X.length) => tabsC_at X hi
  have hxl := tabsC_len X
  have h4 := tab_ok hl
  have hzx : ∀ i, i < X.length → ∀ x ∈ X.getD i [], szR x 400 := fun i hi => hz _ (getD_mem' hi)
  rw [hX] at hE hxl
  generalize hcx : tabsC X = cx at *
  refine Go.Ev.Fn.intro (fn := Tryz.f4) (body := (Tryz.f4).body.get!) (by kernel_rfl) (by kernel_rfl) (by kernel_rfl) (fun _ => rfl) (Nat.le_of_ble_eq_true (by kernel_rfl)) ?_; unfold Tryz.f4; simp only [Option.get!_some]
  repeat (first | (simp only [go_sem, Nat.reduceEqDiff, Nat.reduceAdd, Nat.reduceSub, Nat.reduceMul, Nat.reduceLeDiff, Nat.reduceLT, reduceIte, reduceCtorEq, Nat.succ_ne_zero, elemsC, Int.reduceToNat, Nat.reducePow]) | (simp (disch := (first | omega | (simp only [AL, List.length_map]; omega))) only [AR, AL, ifT, ifF, take_all, List.length_cons, List.length_nil, Int.reduceToNat, Int.reducePow, Nat.reducePow]) | (refine wk_intro (by kernel_rfl) ?_) | (refine vp_draw (id := 12) (l := [60, 65]) (by kernel_rfl) ?_) | (refine vf_of (by first | exact hL | exact hE) ?_))
  refine vp_loop_inv (fun s => s.tmp 0 = .sv (.sl T.length cs) ∧ s.tmp 3 = .sv (.sl T.length cx) ∧ ((s.tmp 60 = .undef ∧ s.tmp 65 = .undef) ∨ ∃ u v, s.tmp 60 = .sv u ∧ s.tmp 65 = .sv v) ∧
      ∃ i : Nat, s.tmp 7 = .sv (.int .i64 (i : Int)) ∧ i ≤ T.length)
    (fun s => match s.tmp 7 with | .sv (.int _ i) => T.length - i.toNat | _ => 0) ⟨rfl, rfl, .inl ⟨rfl, rfl⟩, 0, rfl, by omega⟩ ?_
  rintro s2 ⟨i0, i3, hu, i, i7, hi⟩
  by_cases hend : i = T.length
  · subst hend
    repeat (first | (simp only [go_sem, Nat.reduceEqDiff, Nat.reduceAdd, Nat.reduceSub, Nat.reduceMul, Nat.reduceLeDiff, Nat.reduceLT, reduceIte, reduceCtorEq, Nat.succ_ne_zero, elemsC, Int.reduceToNat, Nat.reducePow, i0, i3, i7]) | (simp (disch := (first | omega | (simp only [AL, List.length_map]; omega))) only [AR, AL, ifT, ifF, take_all, List.length_cons, List.length_nil, Int.reduceToNat, Int.reducePow, Nat.reducePow, i0, i3, i7]) | (refine wk_intro (by kernel_rfl) ?_) | (refine vp_draw (id := 12) (l := [60, 65]) (by kernel_rfl) ?_) | (refine vf_of (by first | exact law19_known) ?_))
  · obtain ⟨rc, a1, hr⟩ := hat (i := i) (by omega)
    have b1 := hxt (i := i) (by omega)
    obtain ⟨e1, e2⟩ := hs i (by omega)
    have h4i := h4 i
    have zx := hzx i (by omega)
    have zt := row_sz (by omega) hr
    have q1 := ref17_Sum (rvsC_row _ zx) (by omega) (by omega) (by omega)
    have q2 := ref17_Sum hr (by omega) (by omega) (by omega)
    have q3 := ref2_Same (RatA_rv (sz_sum12 (by omega) zx (by omega))) (RatA_rv (sz_sum12 (by omega) zt (by omega))) (by omega) (by omega) (by omega)
    rw [decide_eq_true e2] at q3
    rw [e1] at b1 q1
    generalize sumR (X.getD i []) = p at *
    generalize sumR (T.getD i []) = q at *
    generalize rvsC (X.getD i []) = xc at *
    generalize (T.getD i []).length = w at *
    clear hat hxt hs h4 hzx zx zt hz hr e2
    rcases hu with ⟨u1, u2⟩ | ⟨u, v, u1, u2⟩
    · repeat (first | (simp only [go_sem, Nat.reduceEqDiff, Nat.reduceAdd, Nat.reduceSub, Nat.reduceMul, Nat.reduceLeDiff, Nat.reduceLT, reduceIte, reduceCtorEq, Nat.succ_ne_zero, elemsC, Int.reduceToNat, Nat.reducePow, i0, i3, i7, u1, u2, a1, b1, hlen, hxl]) | (simp (disch := (first | omega | (simp only [AL, List.length_map]; omega))) only [AR, AL, ifT, ifF, take_all, List.length_cons, List.length_nil, Int.reduceToNat, Int.reducePow, Nat.reducePow, i0, i3, i7, u1, u2, a1, b1, hlen, hxl]) | (refine wk_intro (by kernel_rfl) ?_) | (refine vp_draw (id := 12) (l := [60, 65]) (by kernel_rfl) ?_))
      repeat (first | (simp only [go_sem, Nat.reduceEqDiff, Nat.reduceAdd, Nat.reduceSub, Nat.reduceMul, Nat.reduceLeDiff, Nat.reduceLT, reduceIte, reduceCtorEq, Nat.succ_ne_zero, elemsC, Int.reduceToNat, Nat.reducePow, i0, i3, i7, a1, b1, hlen, hxl, Bool.not_true]) | (simp (disch := (first | omega | (simp only [AL, List.length_map]; omega))) only [AR, AL, ifT, ifF, take_all, List.length_cons, List.length_nil, Int.reduceToNat, Int.reducePow, Nat.reducePow, i0, i3, i7, a1, b1, hlen, hxl, Bool.not_true]) | (refine wk_intro (by kernel_rfl) ?_) | (refine vp_draw (id := 12) (l := [60, 65]) (by kernel_rfl) ?_) | (refine vf_of (by first | exact q1 | exact q2 | exact q3) ?_))
      exact ⟨⟨.inr ⟨_, _, rfl, rfl⟩, i + 1, rfl, by omega⟩, by omega⟩
    · repeat (first | (simp only [go_sem, Nat.reduceEqDiff, Nat.reduceAdd, Nat.reduceSub, Nat.reduceMul, Nat.reduceLeDiff, Nat.reduceLT, reduceIte, reduceCtorEq, Nat.succ_ne_zero, elemsC, Int.reduceToNat, Nat.reducePow, i0, i3, i7, u1, u2, a1, b1, hlen, hxl]) | (simp (disch := (first | omega | (simp only [AL, List.length_map]; omega))) only [AR, AL, ifT, ifF, take_all, List.length_cons, List.length_nil, Int.reduceToNat, Int.reducePow, Nat.reducePow, i0, i3, i7, u1, u2, a1, b1, hlen, hxl]) | (refine wk_intro (by kernel_rfl) ?_) | (refine vp_draw (id := 12) (l := [60, 65]) (by kernel_rfl) ?_))
      repeat (first | (simp only [go_sem, Nat.reduceEqDiff, Nat.reduceAdd, Nat.reduceSub, Nat.reduceMul, Nat.reduceLeDiff, Nat.reduceLT, reduceIte, reduceCtorEq, Nat.succ_ne_zero, elemsC, Int.reduceToNat, Nat.reducePow, i0, i3, i7, a1, b1, hlen, hxl, Bool.not_true]) | (simp (disch := (first | omega | (simp only [AL, List.length_map]; omega))) only [AR, AL, ifT, ifF, take_all, List.length_cons, List.length_nil, Int.reduceToNat, Int.reducePow, Nat.reducePow, i0, i3, i7, a1, b1, hlen, hxl, Bool.not_true]) | (refine wk_intro (by kernel_rfl) ?_) | (refine vp_draw (id := 12) (l := [60, 65]) (by kernel_rfl) ?_) | (refine vf_of (by first | exact q1 | exact q2 | exact q3) ?_))
      exact ⟨⟨.inr ⟨_, _, rfl, rfl⟩, i + 1, rfl, by omega⟩, by omega⟩
end
theorem test_sums (x : SV) (shx : ShpT Tryz.prog 7 23 [x]) : Go.Ev.Fn CX 4 [x] (.bool true) := by
  obtain ⟨ts, e, ht, hts⟩ := shp_tabs (n := 2) shx
  injection e with e
  subst e
  have hL := law19_large (xs := []) (ys := []) (sm := false) (ss := false) (nm := []) (dm := []) (ns := []) (ds := []) (ts := ts) (kind := 0) (k := 0) (n := 0) (by simp) (by simp) ht (fun ps hp => (hts ps hp).1) (by omega)
  have hL : Go.Ev.Fn CX 5 [testV 0 (.sl 0 []) (.sl 0 []) (.sl ts.length (ts.map rowV)) false [] [] false [] [] 0 0] (.bool (bigT [] [] (false, [], []) (false, [], []) ts 0)) := hL
  show Go.Ev.Fn CX 4 [.sl ts.length (ts.map rowV)] _
  cases hb : bigT [] [] (false, [], []) (false, [], []) ts 0
  · rw [hb] at hL
    obtain ⟨-, -, -, s4, -, s6⟩ := bigT_small hb
    obtain ⟨hT, hl⟩ := tabQ_small (fun ps hp => (hts ps hp).2) s6
    have hn : (tabQ ts).length ≤ 4 := by rw [tabQ_len]; exact s4
    have hE := test_Expected hT hn hl
    have hR := ref19_Expected hT hn hl
    have hz := expR_sz hT hn hl
    have hlen := tabQ_len ts
    generalize ts.map rowV = cs at *
    rw [← hlen] at hL ⊢
    by_cases he : (expR (tabQ ts)).2 = 0
    · obtain ⟨g1, g2⟩ := expR_sums he
      rw [he] at hE
      exact sums_main hL hE hT hn hl g1 hz g2
    · have h0 : (expR (tabQ ts)).1 = [] := by
        unfold expR at he ⊢
        by_cases c1 : tabE (tabQ ts) ≠ 0
        · rw [if_pos c1]
        rw [if_neg c1] at he ⊢
        by_cases c2 : (rowR (tabQ ts) ++ colR (tabQ ts)).any (fun x => decide (x = 0)) = true
        · rw [if_pos c2]
        · rw [if_neg c2] at he; exact absurd rfl he
      rw [h0] at hE hR
      exact sums_err hL he hE hR
  · rw [hb] at hL
    exact sums_large hL
end Go.Proofs.YtdnmhnjblgkjaaaGreat

/- vernierref17: by, Mean, power, Off of 2, Variance, in the evaluator. -/
namespace Go.Proofs.YtdnmhnjblgkjaaaGreat
set_option linter.unusedSimpArgs false
set_option linter.unusedVariables false
set_option maxRecDepth 8000
open Go.Ev
theorem ref17_by {v : SV} {q : Rat} {n : Int} {L : Nat} (hv : RatA v q L) (hL : 1 ≤ L) (hL2 : L ≤ 1000000) (hn : -9223372036854775808 ≤ n ∧ n < 9223372036854775808) :
    Go.Ev.Fn CX 107 [v, .int .i64 n] (rv (q / (n : Rat))) := by
  have r := ref2_Int n hn
  have d := ref2_Div hv (RatA_rv (int_szR (n := n) (by omega))) hL (by omega) (by omega)
  generalize decide ((n : Rat) ≠ 0) = b at *
  obtain ⟨s, y, d', rfl, -⟩ := hv
  refine Go.Ev.Fn.intro (fn := Tryz.f107) (body := (Tryz.f107).body.get!) (by kernel_rfl) (by kernel_rfl) (by kernel_rfl) (fun _ => rfl) (Nat.le_of_ble_eq_true (by kernel_rfl)) ?_; unfold Tryz.f107; simp only [Option.get!_some]
  repeat (first | (simp only [go_sem, Nat.reduceEqDiff, Nat.reduceAdd, Nat.reduceSub, Nat.reduceMul, Nat.reduceLeDiff, Nat.reduceLT, reduceIte, reduceCtorEq, Nat.succ_ne_zero, elemsC, Int.reduceToNat, Nat.reducePow]) | (simp (disch := (first | omega | (simp only [AL, List.length_map]; omega))) only [AR, AL, ifT, ifF, take_all, List.length_cons, List.length_nil, Int.reduceToNat, Int.reducePow, Nat.reducePow]) | (refine wk_intro (by kernel_rfl) ?_) | (refine vp_draw (id := 1) (l := []) (by kernel_rfl) ?_) | (refine vf_of (by first | exact r | exact d) ?_))
theorem ref17_Mean {cs : List SV} {l : List Rat} {L : Nat} (h : RowC cs l L) (hL : 1 ≤ L) (hL2 : L ≤ 10000) (hl : l.length ≤ 12) :
    Go.Ev.Fn CX 83 [.sl l.length cs] (if l.length = 0 then numE 0 5 else numE (meanR l) 0) := by
  have r0 := ref2_Int 0 (by omega)
  by_cases h0 : l.length = 0
  · rw [if_pos h0]
    refine Go.Ev.Fn.intro (fn := Tryz.f83) (body := (Tryz.f83).body.get!) (by kernel_rfl) (by kernel_rfl) (by kernel_rfl) (fun _ => rfl) (Nat.le_of_ble_eq_true (by kernel_rfl)) ?_; unfold Tryz.f83; simp only [Option.get!_some]
    repeat (first | (simp only [go_sem, Nat.reduceEqDiff, Nat.reduceAdd, Nat.reduceSub, Nat.reduceMul, Nat.reduceLeDiff, Nat.reduceLT, reduceIte, reduceCtorEq, Nat.succ_ne_zero, elemsC, Int.reduceToNat, Nat.reducePow]) | (simp (disch := (first | omega | (simp only [AL, List.length_map]; omega))) only [AR, AL, ifT, ifF, take_all, List.length_cons, List.length_nil, Int.reduceToNat, Int.reducePow, Nat.reducePow]) | (refine wk_intro (by kernel_rfl) ?_) | (refine vf_of (by first | exact r0) ?_))
    rfl
  · rw [if_neg h0]
    have s1 := ref17_Sum h hL (by omega) hl
    have b1 := ref17_by (n := (l.length : Int)) (RatA_rv (sz_sum12 hL (row_sz hL h) hl)) (by omega) (by omega) (by omega)
    rw [show sumR l / ((l.length : Int) : Rat) = meanR l from rfl] at b1
    clear h
    refine Go.Ev.Fn.intro (fn := Tryz.f83) (body := (Tryz.f83).body.get!) (by kernel_rfl) (by kernel_rfl) (by kernel_rfl) (fun _ => rfl) (Nat.le_of_ble_eq_true (by kernel_rfl)) ?_; unfold Tryz.f83; simp only [Option.get!_some]
    repeat (first | (simp only [go_sem, Nat.reduceEqDiff, Nat.reduceAdd, Nat.reduceSub, Nat.reduceMul, Nat.reduceLeDiff, Nat.reduceLT, reduceIte, reduceCtorEq, Nat.succ_ne_zero, elemsC, Int.reduceToNat, Nat.reducePow]) | (simp (disch := (first | omega | (simp only [AL, List.length_map]; omega))) only [AR, AL, ifT, ifF, take_all, List.length_cons, List.length_nil, Int.reduceToNat, Int.reducePow, Nat.reducePow]) | (refine wk_intro (by kernel_rfl) ?_) | (refine vf_of (by first | exact s1 | exact b1) ?_))
theorem ref17_power {q : Rat} {L : Nat} (hq : szR q L) (hL : 1 ≤ L) (hL2 : L ≤ 1000000) : Go.Ev.Fn CX 108 [rv q, .int .i64 2] (rv (q * q)) := by
  have r1 := ref2_Int 1 (by omega)
  have m1 := ref2_Mul (RatA_rv (int_szR (n := 1) (by omega))) (RatA_rv hq) (by omega) hL (by omega)
  rw [show ((1 : Int) : Rat) * q = q by show (1 : Rat) * q = q; exact Rat.one_mul q] at m1
  have m2 := ref2_Mul (RatA_rv hq) (RatA_rv hq) hL hL (by omega)
  refine Go.Ev.Fn.intro (fn := Tryz.f108) (body := (Tryz.f108).body.get!) (by kernel_rfl) (by kernel_rfl) (by kernel_rfl) (fun _ => rfl) (Nat.le_of_ble_eq_true (by kernel_rfl)) ?_; unfold Tryz.f108; simp only [Option.get!_some]
  repeat (first | (simp only [go_sem, Nat.reduceEqDiff, Nat.reduceAdd, Nat.reduceSub, Nat.reduceMul, Nat.reduceLeDiff, Nat.reduceLT, reduceIte, reduceCtorEq, Nat.succ_ne_zero, elemsC, Int.reduceToNat, Nat.reducePow]) | (simp (disch := (first | omega | (simp only [AL, List.length_map]; omega))) only [AR, AL, ifT, ifF, take_all, List.length_cons, List.length_nil, Int.reduceToNat, Int.reducePow, Nat.reducePow]) | (refine wk_intro (by kernel_rfl) ?_) | (refine vf_of (by first | exact r1) ?_))
  refine vp_loop_inv (fun s => s.tmp 1 = .sv (.int .i64 2) ∧ s.tmp 2 = .ptr 2 0 0 ∧ s.obj 2 0 = some (rvC q) ∧ s.tmp 4 = .ptr 4 0 0 ∧ s.obj 4 0 = some [.bool false, .sl 0 [], .sl 0 []] ∧ s.tmp 5 = .ptr 5 0 0 ∧
      ((s.tmp 6 = .sv (.int .i64 0) ∧ s.obj 5 0 = some (rvC ((1 : Int) : Rat))) ∨ (s.tmp 6 = .sv (.int .i64 1) ∧ s.obj 5 0 = some (rvC q)) ∨ (s.tmp 6 = .sv (.int .i64 2) ∧ s.obj 5 0 = some (rvC (q * q)))))
    (fun s => match s.tmp 6 with | .sv (.int _ i) => 2 - i.toNat | _ => 0) ⟨rfl, rfl, rfl, rfl, rfl, rfl, .inl ⟨rfl, rfl⟩⟩ ?_
  rintro s2 ⟨i1, i2, o2, i4, o4, i5, h6⟩
  rcases h6 with ⟨i6, o5⟩ | ⟨i6, o5⟩ | ⟨i6, o5⟩
  · repeat (first | (simp only [go_sem, Nat.reduceEqDiff, Nat.reduceAdd, Nat.reduceSub, Nat.reduceMul, Nat.reduceLeDiff, Nat.reduceLT, reduceIte, reduceCtorEq, Nat.succ_ne_zero, elemsC, Int.reduceToNat, Nat.reducePow, i1, i2, o2, i4, o4, i5, i6, o5, rvC]) | (simp (disch := (first | omega | (simp only [AL, List.length_map]; omega))) only [AR, AL, ifT, ifF, take_all, List.length_cons, List.length_nil, Int.reduceToNat, Int.reducePow, Nat.reducePow, i1, i2, o2, i4, o4, i5, i6, o5, rvC]) | (refine wk_intro (by kernel_rfl) ?_))
    refine vf_of (m1) ?_; repeat (first | (simp only [go_sem, Nat.reduceEqDiff, Nat.reduceAdd, Nat.reduceSub, Nat.reduceMul, Nat.reduceLeDiff, Nat.reduceLT, reduceIte, reduceCtorEq, Nat.succ_ne_zero, elemsC, Int.reduceToNat, Nat.reducePow, i1, i2, o2, i4, o4, i5, i6, o5, rvC]) | (simp (disch := (first | omega | (simp only [AL, List.length_map]; omega))) only [AR, AL, ifT, ifF, take_all, List.length_cons, List.length_nil, Int.reduceToNat, Int.reducePow, Nat.reducePow, i1, i2, o2, i4, o4, i5, i6, o5, rvC]) | (refine wk_intro (by kernel_rfl) ?_))
    exact ⟨.inr (.inl rfl), by omega⟩
  · repeat (first | (simp only [go_sem, Nat.reduceEqDiff, Nat.reduceAdd, Nat.reduceSub, Nat.reduceMul, Nat.reduceLeDiff, Nat.reduceLT, reduceIte, reduceCtorEq, Nat.succ_ne_zero, elemsC, Int.reduceToNat, Nat.reducePow, i1, i2, o2, i4, o4, i5, i6, o5, rvC]) | (simp (disch := (first | omega | (simp only [AL, List.length_map]; omega))) only [AR, AL, ifT, ifF, take_all, List.length_cons, List.length_nil, Int.reduceToNat, Int.reducePow, Nat.reducePow, i1, i2, o2, i4, o4, i5, i6, o5, rvC]) | (refine wk_intro (by kernel_rfl) ?_))
    refine vf_of (m2) ?_; repeat (first | (simp only [go_sem, Nat.reduceEqDiff, Nat.reduceAdd, Nat.reduceSub, Nat.reduceMul, Nat.reduceLeDiff, Nat.reduceLT, reduceIte, reduceCtorEq, Nat.succ_ne_zero, elemsC, Int.reduceToNat, Nat.reducePow, i1, i2, o2, i4, o4, i5, i6, o5, rvC]) | (simp (disch := (first | omega | (simp only [AL, List.length_map]; omega))) only [AR, AL, ifT, ifF, take_all, List.length_cons, List.length_nil, Int.reduceToNat, Int.reducePow, Nat.reducePow, i1, i2, o2, i4, o4, i5, i6, o5, rvC]) | (refine wk_intro (by kernel_rfl) ?_))
    exact ⟨.inr (.inr rfl), by omega⟩
  · repeat (first | (simp only [go_sem, Nat.reduceEqDiff, Nat.reduceAdd, Nat.reduceSub, Nat.reduceMul, Nat.reduceLeDiff, Nat.reduceLT, reduceIte, reduceCtorEq, Nat.succ_ne_zero, elemsC, Int.reduceToNat, Nat.reducePow, i1, i2, o2, i4, o4, i5, i6, o5, rvC]) | (simp (disch := (first | omega | (simp only [AL, List.length_map]; omega))) only [AR, AL, ifT, ifF, take_all, List.length_cons, List.length_nil, Int.reduceToNat, Int.reducePow, Nat.reducePow, i1, i2, o2, i4, o4, i5, i6, o5, rvC]) | (refine wk_intro (by kernel_rfl) ?_))
theorem ref17_Off {cs : List SV} {l : List Rat} {L : Nat} (h : RowC cs l L) (hL : 1 ≤ L) (hL2 : L ≤ 1000) (hl : l.length ≤ 12) (h0 : 1 ≤ l.length) :
    Go.Ev.Fn CX 86 [.sl l.length cs, .int .i64 2] (rv (sqR l)) := by
  have r0 := ref2_Int 0 (by omega)
  have m1 := ref17_Mean h hL (by omega) hl
  rw [if_neg (by omega)] at m1
  have hz := row_sz hL h
  have zm := sz_mean hL hz hl
  have zo := sz_off hL hz hl
  have hlen := row_len h
  have zs := fun i => sz_take12 (by omega) (sz_map (f := fun x => x * x) zo (fun x hx => szR_mul hx hx (by omega))) (by rw [List.length_map]; unfold offR; rw [List.length_map]; omega) i
  have hst := fun {i : Nat} (hi : i < l.length) => sumR_take ((offR l).map fun x => x * x) (i := i) (by rw [List.length_map]; unfold offR; rw [List.length_map]; omega)
  have hgd : ∀ {i : Nat}, i < l.length → ((offR l).map fun x => x * x).getD i 0 = (l.getD i 0 - meanR l) * (l.getD i 0 - meanR l) := by
    intro i hi
    rw [getD_map (offR l) (fun x => x * x) (by unfold offR; rw [List.length_map]; omega)]
    unfold offR
    rw [getD_map l _ hi]
  have hall : sumR (((offR l).map fun x => x * x).take l.length) = sqR l := by rw [List.take_of_length_le (by rw [List.length_map]; unfold offR; rw [List.length_map]; omega)]; rfl
  have hsum0 : sumR (((offR l).map fun x => x * x).take 0) = 0 := rfl
  generalize hS : (fun i => sumR (((offR l).map fun x => x * x).take i)) = S at *
  have hSi : ∀ i, sumR (((offR l).map fun x => x * x).take i) = S i := fun i => by rw [← hS]
  simp only [hSi] at zs hst hall hsum0
  generalize sqR l = q at *
  refine Go.Ev.Fn.intro (fn := Tryz.f86) (body := (Tryz.f86).body.get!) (by kernel_rfl) (by kernel_rfl) (by kernel_rfl) (fun _ => rfl) (Nat.le_of_ble_eq_true (by kernel_rfl)) ?_; unfold Tryz.f86; simp only [Option.get!_some]
  repeat (first | (simp only [go_sem, Nat.reduceEqDiff, Nat.reduceAdd, Nat.reduceSub, Nat.reduceMul, Nat.reduceLeDiff, Nat.reduceLT, reduceIte, reduceCtorEq, Nat.succ_ne_zero, elemsC, Int.reduceToNat, Nat.reducePow]) | (simp (disch := (first | omega | (simp only [AL, List.length_map]; omega))) only [AR, AL, ifT, ifF, take_all, List.length_cons, List.length_nil, Int.reduceToNat, Int.reducePow, Nat.reducePow]) | (refine wk_intro (by kernel_rfl) ?_) | (refine vp_draw (id := 6) (l := []) (by kernel_rfl) ?_) | (refine vf_of (by first | exact m1 | exact r0) ?_))
  refine vp_loop_inv (fun s => s.tmp 0 = .sv (.sl l.length cs) ∧ s.tmp 1 = .sv (.int .i64 2) ∧ s.tmp 4 = .ptr 4 0 0 ∧ s.obj 4 0 = some [.bool false, .sl 0 [], .sl 0 []] ∧ s.tmp 5 = .ptr 5 0 0 ∧ s.obj 5 0 = some (rvC (meanR l)) ∧ s.tmp 7 = .ptr 7 0 0 ∧
      ∃ i : Nat, s.tmp 8 = .sv (.int .i64 (i : Int)) ∧ i ≤ l.length ∧ s.obj 7 0 = some (rvC (S i)))
    (fun s => match s.tmp 8 with | .sv (.int _ i) => l.length - i.toNat | _ => 0) ⟨rfl, rfl, rfl, rfl, rfl, rfl, rfl, 0, rfl, by omega, by rw [hsum0]; rfl⟩ ?_
  rintro s2 ⟨i0, i1, i4, o4, i5, o5, i7, i, i8, hi, iP⟩
  by_cases hend : i = l.length
  · subst hend
    rw [hall] at iP
    repeat (first | (simp only [go_sem, Nat.reduceEqDiff, Nat.reduceAdd, Nat.reduceSub, Nat.reduceMul, Nat.reduceLeDiff, Nat.reduceLT, reduceIte, reduceCtorEq, Nat.succ_ne_zero, elemsC, Int.reduceToNat, Nat.reducePow, i0, i1, i4, o4, i5, o5, i7, i8, iP, rvC]) | (simp (disch := (first | omega | (simp only [AL, List.length_map]; omega))) only [AR, AL, ifT, ifF, take_all, List.length_cons, List.length_nil, Int.reduceToNat, Int.reducePow, Nat.reducePow, i0, i1, i4, o4, i5, o5, i7, i8, iP, rvC]) | (refine wk_intro (by kernel_rfl) ?_) | (refine vp_draw (id := 6) (l := []) (by kernel_rfl) ?_))
  · obtain ⟨s, n, d, rest, hat, hA⟩ := row_at (i := i) h (by omega)
    have e1 := hst (i := i) (by omega)
    rw [hgd (by omega)] at e1
    have a := ref2_Sub hA (RatA_rv zm) hL (by omega) (by omega)
    have zx := szR_sub (szR_of hA hL) zm hL
    have pw := ref17_power zx (by omega) (by omega)
    have a2 := ref2_Add (RatA_rv (zs i)) (RatA_rv (szR_mul zx zx (by omega))) (by omega) (by omega) (by omega)
    rw [← e1] at a2
    generalize l.getD i 0 - meanR l = x at *
    clear hz zm zo h hA hst hgd hall hsum0 e1 zx
    repeat (first | (simp only [go_sem, Nat.reduceEqDiff, Nat.reduceAdd, Nat.reduceSub, Nat.reduceMul, Nat.reduceLeDiff, Nat.reduceLT, reduceIte, reduceCtorEq, Nat.succ_ne_zero, elemsC, Int.reduceToNat, Nat.reducePow, i0, i1, i4, o4, i5, o5, i7, i8, iP, rvC, hat, hlen]) | (simp (disch := (first | omega | (simp only [AL, List.length_map]; omega))) only [AR, AL, ifT, ifF, take_all, List.length_cons, List.length_nil, Int.reduceToNat, Int.reducePow, Nat.reducePow, i0, i1, i4, o4, i5, o5, i7, i8, iP, rvC, hat, hlen]) | (refine wk_intro (by kernel_rfl) ?_) | (refine vp_draw (id := 6) (l := []) (by kernel_rfl) ?_) | (refine vf_of (by first | exact a | exact pw | exact a2) ?_))
    exact ⟨⟨i + 1, rfl, by omega, rfl⟩, by omega⟩
theorem ref17_Variance {cs : List SV} {l : List Rat} {L : Nat} (h : RowC cs l L) (hL : 1 ≤ L) (hL2 : L ≤ 1000) (hl : l.length ≤ 12) :
    Go.Ev.Fn CX 85 [.sl l.length cs] (if l.length < 2 then numE 0 5 else numE (varR l) 0) := by
  have r0 := ref2_Int 0 (by omega)
  by_cases h0 : l.length < 2
  · rw [if_pos h0]
    refine Go.Ev.Fn.intro (fn := Tryz.f85) (body := (Tryz.f85).body.get!) (by kernel_rfl) (by kernel_rfl) (by kernel_rfl) (fun _ => rfl) (Nat.le_of_ble_eq_true (by kernel_rfl)) ?_; unfold Tryz.f85; simp only [Option.get!_some]
    repeat (first | (simp only [go_sem, Nat.reduceEqDiff, Nat.reduceAdd, Nat.reduceSub, Nat.reduceMul, Nat.reduceLeDiff, Nat.reduceLT, reduceIte, reduceCtorEq, Nat.succ_ne_zero, elemsC, Int.reduceToNat, Nat.reducePow]) | (simp (disch := (first | omega | (simp only [AL, List.length_map]; omega))) only [AR, AL, ifT, ifF, take_all, List.length_cons, List.length_nil, Int.reduceToNat, Int.reducePow, Nat.reducePow]) | (refine wk_intro (by kernel_rfl) ?_) | (refine vf_of (by first | exact r0) ?_))
    rfl
  · rw [if_neg h0]
    have s1 := ref17_Off h hL hL2 hl (by omega)
    have b1 := ref17_by (n := (l.length : Int) - 1) (RatA_rv (sz_sq hL (row_sz hL h) hl)) (by omega) (by omega) (by omega)
    rw [show sqR l / (((l.length : Int) - 1 : Int) : Rat) = varR l from rfl, show (l.length : Int) - 1 = ((l.length - 1 : Nat) : Int) by omega] at b1
    clear h
    refine Go.Ev.Fn.intro (fn := Tryz.f85) (body := (Tryz.f85).body.get!) (by kernel_rfl) (by kernel_rfl) (by kernel_rfl) (fun _ => rfl) (Nat.le_of_ble_eq_true (by kernel_rfl)) ?_; unfold Tryz.f85; simp only [Option.get!_some]
    repeat (first | (simp only [go_sem, Nat.reduceEqDiff, Nat.reduceAdd, Nat.reduceSub, Nat.reduceMul, Nat.reduceLeDiff, Nat.reduceLT, reduceIte, reduceCtorEq, Nat.succ_ne_zero, elemsC, Int.reduceToNat, Nat.reducePow]) | (simp (disch := (first | omega | (simp only [AL, List.length_map]; omega))) only [AR, AL, ifT, ifF, take_all, List.length_cons, List.length_nil, Int.reduceToNat, Int.reducePow, Nat.reducePow]) | (refine wk_intro (by kernel_rfl) ?_) | (refine vf_of (by first | exact s1 | exact b1) ?_))
theorem ref19_square {v : SV} {q : Rat} {L : Nat} (hv : RatA v q L) (hL : 1 ≤ L) (h : L ≤ 1000000) : Go.Ev.Fn CX 84 [v] (rv (q * q)) := by
  have d := ref2_Mul hv hv hL hL (by omega)
  obtain ⟨s, n, d', rfl, -⟩ := hv
  refine Go.Ev.Fn.intro (fn := Tryz.f84) (body := (Tryz.f84).body.get!) (by kernel_rfl) (by kernel_rfl) (by kernel_rfl) (fun _ => rfl) (Nat.le_of_ble_eq_true (by kernel_rfl)) ?_; unfold Tryz.f84; simp only [Option.get!_some]
  repeat (first | (simp only [go_sem, Nat.reduceEqDiff, Nat.reduceAdd, Nat.reduceSub, Nat.reduceMul, Nat.reduceLeDiff, Nat.reduceLT, reduceIte, reduceCtorEq, Nat.succ_ne_zero, elemsC, Int.reduceToNat, Nat.reducePow]) | (simp (disch := (first | omega | (simp only [AL, List.length_map]; omega))) only [AR, AL, ifT, ifF, take_all, List.length_cons, List.length_nil, Int.reduceToNat, Int.reducePow, Nat.reducePow]) | (refine wk_intro (by kernel_rfl) ?_) | (refine vf_of (by first | exact d) ?_))
theorem ref19_off {v w : SV} {q r : Rat} {L M : Nat} (hv : RatA v q L) (hw : RatA w r M) (hL : 1 ≤ L) (hM : 1 ≤ M) (h : L + M ≤ 100000) : Go.Ev.Fn CX 87 [v, w] (rv ((q - r) * (q - r) / r)) := by
  have a := ref2_Sub hv hw hL hM (by omega)
  have z := szR_sub (szR_of hv hL) (szR_of hw hM) hL
  have s := ref19_square (RatA_rv z) (by omega) (by omega)
  have b := ref19_by (RatA_rv (szR_mul z z (by omega))) hw (by omega) hM (by omega)
  clear z
  generalize q - r = x at *
  obtain ⟨s', n, d', rfl, -⟩ := hv
  obtain ⟨s'', n', d'', rfl, -⟩ := hw
  refine Go.Ev.Fn.intro (fn := Tryz.f87) (body := (Tryz.f87).body.get!) (by kernel_rfl) (by kernel_rfl) (by kernel_rfl) (fun _ => rfl) (Nat.le_of_ble_eq_true (by kernel_rfl)) ?_; unfold Tryz.f87; simp only [Option.get!_some]
  repeat (first | (simp only [go_sem, Nat.reduceEqDiff, Nat.reduceAdd, Nat.reduceSub, Nat.reduceMul, Nat.reduceLeDiff, Nat.reduceLT, reduceIte, reduceCtorEq, Nat.succ_ne_zero, elemsC, Int.reduceToNat, Nat.reducePow]) | (simp (disch := (first | omega | (simp only [AL, List.length_map]; omega))) only [AR, AL, ifT, ifF, take_all, List.length_cons, List.length_nil, Int.reduceToNat, Int.reducePow, Nat.reducePow]) | (refine wk_intro (by kernel_rfl) ?_) | (refine vp_draw (id := 1) (l := []) (by kernel_rfl) ?_) | (refine vf_of (by first | exact a | exact s | exact b) ?_))
theorem ref19_student {cs : List SV} {l : List Rat} {v : SV} {mu : Rat} {L M : Nat} (h : RowC cs l L) (hm : RatA v mu M) (hL : 1 ≤ L) (hL2 : L ≤ 100) (hM : 1 ≤ M) (hM2 : M ≤ 100) (hl : l.length ≤ 12) :
    Go.Ev.Fn CX 50 [.sl l.length cs, v] (resV (stuR l mu)) := by
  have r0 := ref19_zero
  have v1 := ref17_Variance h hL (by omega) hl
  have hz := row_sz hL h
  have zv := sz_var hL hz hl
  have zm := sz_mean hL hz hl
  unfold stuR
  by_cases h0 : l.length < 2
  · rw [if_pos h0] at v1 ⊢
    clear hz zv zm
    obtain ⟨s, n, d, rfl, -⟩ := hm
    refine Go.Ev.Fn.intro (fn := Tryz.f50) (body := (Tryz.f50).body.get!) (by kernel_rfl) (by kernel_rfl) (by kernel_rfl) (fun _ => rfl) (Nat.le_of_ble_eq_true (by kernel_rfl)) ?_; unfold Tryz.f50; simp only [Option.get!_some]
    repeat (first | (simp only [go_sem, Nat.reduceEqDiff, Nat.reduceAdd, Nat.reduceSub, Nat.reduceMul, Nat.reduceLeDiff, Nat.reduceLT, reduceIte, reduceCtorEq, Nat.succ_ne_zero, elemsC, Int.reduceToNat, Nat.reducePow]) | (simp (disch := (first | omega | (simp only [AL, List.length_map]; omega))) only [AR, AL, ifT, ifF, take_all, List.length_cons, List.length_nil, Int.reduceToNat, Int.reducePow, Nat.reducePow]) | (refine wk_intro (by kernel_rfl) ?_) | (refine vp_draw (id := 7) (l := []) (by kernel_rfl) ?_) | (refine vf_of (by first | exact v1 | exact r0) ?_))
  · rw [if_neg h0] at v1 ⊢
    have zz := ref2_Zero (RatA_rv zv) (by omega) (by omega)
    by_cases hv : varR l = 0
    · rw [if_pos hv]
      rw [decide_eq_true hv] at zz
      clear hz zv zm
      obtain ⟨s, n, d, rfl, -⟩ := hm
      refine Go.Ev.Fn.intro (fn := Tryz.f50) (body := (Tryz.f50).body.get!) (by kernel_rfl) (by kernel_rfl) (by kernel_rfl) (fun _ => rfl) (Nat.le_of_ble_eq_true (by kernel_rfl)) ?_; unfold Tryz.f50; simp only [Option.get!_some]
      repeat (first | (simp only [go_sem, Nat.reduceEqDiff, Nat.reduceAdd, Nat.reduceSub, Nat.reduceMul, Nat.reduceLeDiff, Nat.reduceLT, reduceIte, reduceCtorEq, Nat.succ_ne_zero, elemsC, Int.reduceToNat, Nat.reducePow]) | (simp (disch := (first | omega | (simp only [AL, List.length_map]; omega))) only [AR, AL, ifT, ifF, take_all, List.length_cons, List.length_nil, Int.reduceToNat, Int.reducePow, Nat.reducePow]) | (refine wk_intro (by kernel_rfl) ?_) | (refine vp_draw (id := 7) (l := []) (by kernel_rfl) ?_) | (refine vf_of (by first | exact v1 | exact zz | exact r0) ?_))
    · rw [if_neg hv]
      rw [decide_eq_false hv] at zz
      have m1 := ref17_Mean h hL (by omega) hl
      rw [if_neg (by omega)] at m1
      have i1 := ref2_Int (l.length : Int) (by omega)
      have zi := int_szR (n := (l.length : Int)) (by omega)
      have d1 := ref2_Sub (RatA_rv zm) hm (by omega) (by omega) (by omega)
      have zd := szR_sub zm (szR_of hm hM) (by omega)
      have s1 := ref19_square (RatA_rv zd) (by omega) (by omega)
      have zs := szR_mul zd zd (by omega)
      have p1 := ref2_Mul (RatA_rv zi) (RatA_rv zs) (by omega) (by omega) (by omega)
      have o1 := ref19_by (RatA_rv (szR_mul zi zs (by omega))) (RatA_rv zv) (by omega) (by omega) (by omega)
      clear hz zv zm zi zd zs h
      obtain ⟨s, n, d, rfl, -⟩ := hm
      generalize meanR l = m at *
      generalize varR l = w at *
      refine Go.Ev.Fn.intro (fn := Tryz.f50) (body := (Tryz.f50).body.get!) (by kernel_rfl) (by kernel_rfl) (by kernel_rfl) (fun _ => rfl) (Nat.le_of_ble_eq_true (by kernel_rfl)) ?_; unfold Tryz.f50; simp only [Option.get!_some]
      repeat (first | (simp only [go_sem, Nat.reduceEqDiff, Nat.reduceAdd, Nat.reduceSub, Nat.reduceMul, Nat.reduceLeDiff, Nat.reduceLT, reduceIte, reduceCtorEq, Nat.succ_ne_zero, elemsC, Int.reduceToNat, Nat.reducePow]) | (simp (disch := (first | omega | (simp only [AL, List.length_map]; omega))) only [AR, AL, ifT, ifF, take_all, List.length_cons, List.length_nil, Int.reduceToNat, Int.reducePow, Nat.reducePow]) | (refine wk_intro (by kernel_rfl) ?_) | (refine vp_draw (id := 7) (l := []) (by kernel_rfl) ?_) | (refine vf_of (by first | exact v1 | exact zz | exact m1 | exact i1 | exact d1 | exact s1 | exact p1 | exact o1) ?_))
end Go.Proofs.YtdnmhnjblgkjaaaGreat

/- vernierref19: paired, pooled, fisher, z; test.z, in the evaluator. -/
namespace Go.Proofs.YtdnmhnjblgkjaaaGreat
set_option linter.unusedSimpArgs false
set_option linter.unusedVariables false
set_option maxRecDepth 8000
open Go.Ev
/-- A mean whose deviation is known. -/
def zR (l : List Rat) (mu sg : Rat) : Res :=
  if sg ≤ 0 then (0, [], 4) else if l.length = 0 then (0, [], 5) else (lenR l * ((meanR l - mu) * (meanR l - mu)) / (sg * sg), [1], 0)
theorem zR_alt {n d s : Rat} : n * ((d / s) * (d / s)) = n * (d * d) / (s * s) := by
  rw [Rat.div_def, Rat.div_def, Rat.inv_mul_rev]
  grind
section
variable {kind k n : Int} {tn : Nat} {xs ys tc : List SV} {sm ss : Bool} {nm dm ns ds : List Nat} {l m : List Rat}
theorem ref19_paired (h : RowC xs l 1) (h2 : RowC ys m 1) (hl : l.length ≤ 12) (hm : m.length ≤ 12) :
    Go.Ev.Fn CX 51 [testV kind (.sl l.length xs) (.sl m.length ys) (.sl tn tc) sm nm dm ss ns ds k n] (resV (if l.length ≠ m.length then (0, [], 1) else stuR (List.zipWith (fun a b => a - b) l m) 0)) := by
  have r0 := ref19_zero
  by_cases hlm : l.length = m.length
  · rw [if_neg (not_not_intro hlm)]
    have hzl : (List.zipWith (fun a b => a - b) l m).length = l.length := by rw [List.length_zipWith]; omega
    have hzg : ∀ i, i < l.length → (List.zipWith (fun a b => a - b) l m).getD i 0 = l.getD i 0 - m.getD i 0 := by
      intro i hi
      rw [List.getD_eq_getElem?_getD, List.getD_eq_getElem?_getD, List.getD_eq_getElem?_getD, List.getElem?_eq_getElem (by omega), List.getElem?_eq_getElem hi, List.getElem?_eq_getElem (by omega), List.getElem_zipWith]
      rfl
    have hlen := row_len h
    have hlen2 := row_len h2
    have hzz : ∀ x ∈ List.zipWith (fun a b => a - b) l m, szR x 3 := by
      intro x hx
      obtain ⟨i, hi, rfl⟩ := List.getElem_of_mem hx
      rw [List.getElem_zipWith]
      exact szR_sub (row_sz (by omega) h _ (List.getElem_mem _)) (row_sz (by omega) h2 _ (List.getElem_mem _)) (by omega)
    generalize hZ : List.zipWith (fun a b => a - b) l m = z at *
    have t1 := ref19_student (rvsC_row z hzz) (RatA_rv (szR_zero (L := 1) (by omega))) (by omega) (by omega) (by omega) (by omega) (by omega)
    rw [hzl] at t1
    have hrl := rvsC_len z
    rw [hzl] at hrl
    refine Go.Ev.Fn.intro (fn := Tryz.f51) (body := (Tryz.f51).body.get!) (by kernel_rfl) (by kernel_rfl) (by kernel_rfl) (fun _ => rfl) (Nat.le_of_ble_eq_true (by kernel_rfl)) ?_; unfold Tryz.f51; simp only [Option.get!_some]
    repeat (first | (simp only [go_sem, Nat.reduceEqDiff, Nat.reduceAdd, Nat.reduceSub, Nat.reduceMul, Nat.reduceLeDiff, Nat.reduceLT, reduceIte, reduceCtorEq, Nat.succ_ne_zero, elemsC, Int.reduceToNat, Nat.reducePow]) | (simp (disch := (first | omega | (simp only [AL, List.length_map]; omega))) only [AR, AL, ifT, ifF, take_all, List.length_cons, List.length_nil, Int.reduceToNat, Int.reducePow, Nat.reducePow]) | (refine wk_intro (by kernel_rfl) ?_) | (refine vp_draw (id := 7) (l := []) (by kernel_rfl) ?_))
    refine vp_loop_inv (fun s => s.tmp 1 = .ptr 1 0 0 ∧ s.obj 1 0 = some [.int .i64 kind, .sl l.length xs, .sl m.length ys, .sl tn tc, .bool sm, natV nm, natV dm, .bool ss, natV ns, natV ds, .int .i64 k, .int .i64 n] ∧ s.tmp 2 = .ptr 2 0 0 ∧ s.obj 2 0 = some [.bool false, .sl 0 [], .sl 0 []] ∧
        ∃ i : Nat, s.tmp 6 = .sv (.int .i64 (i : Int)) ∧ i ≤ l.length ∧ ((i = 0 ∧ s.tmp 5 = .nil ∧ s.gen 35 = 0) ∨ (0 < i ∧ s.tmp 5 = .ref 35 0 3 0 i ∧ s.obj 35 0 = some (rvsC (z.take i)))))
      (fun s => match s.tmp 6 with | .sv (.int _ i) => l.length - i.toNat | _ => 0) ⟨rfl, rfl, rfl, rfl, 0, rfl, by omega, .inl ⟨rfl, rfl, rfl⟩⟩ ?_
    rintro s2 ⟨i1, o1, i2, o2, i, i6, hi, hc⟩
    by_cases hend : i = l.length
    · subst hend
      rcases hc with ⟨h00, i5, _⟩ | ⟨_, i5, iP⟩
      · rw [h00] at t1 hzl i6 o1
        have hz0 : z = [] := List.length_eq_zero_iff.1 hzl
        subst hz0
        rw [rvsC_nil] at t1
        have hm0 : m.length = 0 := by omega
        repeat (first | (simp only [go_sem, Nat.reduceEqDiff, Nat.reduceAdd, Nat.reduceSub, Nat.reduceMul, Nat.reduceLeDiff, Nat.reduceLT, reduceIte, reduceCtorEq, Nat.succ_ne_zero, elemsC, Int.reduceToNat, Nat.reducePow, i1, o1, i2, o2, i6, i5, hm0]) | (simp (disch := (first | omega | (simp only [AL, List.length_map]; omega))) only [AR, AL, ifT, ifF, take_all, List.length_cons, List.length_nil, Int.reduceToNat, Int.reducePow, Nat.reducePow, i1, o1, i2, o2, i6, i5, hm0]) | (refine wk_intro (by kernel_rfl) ?_) | (refine vp_draw (id := 7) (l := []) (by kernel_rfl) ?_) | (refine vf_of (by first | exact r0 | exact t1) ?_))
      · rw [List.take_of_length_le (by omega)] at iP
        have htk : (rvsC z).take (l.length * 3) = rvsC z := List.take_of_length_le (by omega)
        repeat (first | (simp only [go_sem, Nat.reduceEqDiff, Nat.reduceAdd, Nat.reduceSub, Nat.reduceMul, Nat.reduceLeDiff, Nat.reduceLT, reduceIte, reduceCtorEq, Nat.succ_ne_zero, elemsC, Int.reduceToNat, Nat.reducePow, i1, o1, i2, o2, i6, i5, iP, htk, List.drop_zero, N0]) | (simp (disch := (first | omega | (simp only [AL, List.length_map]; omega))) only [AR, AL, ifT, ifF, take_all, List.length_cons, List.length_nil, Int.reduceToNat, Int.reducePow, Nat.reducePow, i1, o1, i2, o2, i6, i5, iP, htk, List.drop_zero, N0]) | (refine wk_intro (by kernel_rfl) ?_) | (refine vp_draw (id := 7) (l := []) (by kernel_rfl) ?_) | (refine vf_of (by first | exact r0 | exact t1) ?_))
    · obtain ⟨s, n', d, rest, hat, hA⟩ := row_at (i := i) h (by omega)
      obtain ⟨s', n'', d', rest2, hat2, hA2⟩ := row_at (i := i) h2 (by omega)
      have a := ref2_Sub hA hA2 (by omega) (by omega) (by omega)
      have hsn := rvs_snoc (l := z) (i := i) (by omega)
      rw [← hzg i (by omega)] at a
      have hrl2 := rvsC_len (z.take i)
      rw [List.length_take, hzl, Nat.min_eq_left (by omega)] at hrl2
      clear hzz h h2 hA hA2 t1 r0 hzg
      rcases hc with ⟨h00, i5, ig⟩ | ⟨h00, i5, iP⟩
      · subst h00
        rw [List.take_zero, rvsC_nil, List.nil_append] at hsn
        rw [Nat.zero_mul, List.drop_zero] at hat hat2
        subst hat hat2
        repeat (first | (simp only [go_sem, Nat.reduceEqDiff, Nat.reduceAdd, Nat.reduceSub, Nat.reduceMul, Nat.reduceLeDiff, Nat.reduceLT, reduceIte, reduceCtorEq, Nat.succ_ne_zero, elemsC, Int.reduceToNat, Nat.reducePow, i1, o1, i2, o2, i6, i5, ig, N0]) | (simp (disch := (first | omega | (simp only [AL, List.length_map]; omega))) only [AR, AL, ifT, ifF, take_all, List.length_cons, List.length_nil, Int.reduceToNat, Int.reducePow, Nat.reducePow, i1, o1, i2, o2, i6, i5, ig, N0]) | (refine wk_intro (by kernel_rfl) ?_) | (refine vp_draw (id := 7) (l := []) (by kernel_rfl) ?_) | (refine vf_of (by first | exact a) ?_))
        exact ⟨⟨1, rfl, by omega, .inr ⟨by omega, rfl, by first | exact hsn | (rw [← hsn]; rfl) | rw [← hsn]⟩⟩, by omega⟩
      · unfold rvC at hsn
        repeat (first | (simp only [go_sem, Nat.reduceEqDiff, Nat.reduceAdd, Nat.reduceSub, Nat.reduceMul, Nat.reduceLeDiff, Nat.reduceLT, reduceIte, reduceCtorEq, Nat.succ_ne_zero, elemsC, Int.reduceToNat, Nat.reducePow, i1, o1, i2, o2, i6, i5, iP, hat, hat2, hlen, hlen2, N0, hsn, hrl2]) | (simp (disch := (first | omega | (simp only [AL, List.length_map]; omega))) only [AR, AL, ifT, ifF, take_all, List.length_cons, List.length_nil, Int.reduceToNat, Int.reducePow, Nat.reducePow, i1, o1, i2, o2, i6, i5, iP, hat, hat2, hlen, hlen2, N0, hsn, hrl2]) | (refine wk_intro (by kernel_rfl) ?_) | (refine vp_draw (id := 7) (l := []) (by kernel_rfl) ?_) | (refine vf_of (by first | exact a) ?_))
        exact ⟨⟨i + 1, rfl, by omega, .inr ⟨by omega, rfl, by first | exact hsn | (rw [← hsn]; rfl) | rw [← hsn]⟩⟩, by omega⟩
  · rw [if_pos hlm]
    clear h h2
    refine Go.Ev.Fn.intro (fn := Tryz.f51) (body := (Tryz.f51).body.get!) (by kernel_rfl) (by kernel_rfl) (by kernel_rfl) (fun _ => rfl) (Nat.le_of_ble_eq_true (by kernel_rfl)) ?_; unfold Tryz.f51; simp only [Option.get!_some]
    repeat (first | (simp only [go_sem, Nat.reduceEqDiff, Nat.reduceAdd, Nat.reduceSub, Nat.reduceMul, Nat.reduceLeDiff, Nat.reduceLT, reduceIte, reduceCtorEq, Nat.succ_ne_zero, elemsC, Int.reduceToNat, Nat.reducePow]) | (simp (disch := (first | omega | (simp only [AL, List.length_map]; omega))) only [AR, AL, ifT, ifF, take_all, List.length_cons, List.length_nil, Int.reduceToNat, Int.reducePow, Nat.reducePow]) | (refine wk_intro (by kernel_rfl) ?_) | (refine vp_draw (id := 7) (l := []) (by kernel_rfl) ?_) | (refine vf_of (by first | exact r0) ?_))
theorem pool_ref (l m : List Rat) (h1 : l.length ≠ 0) (h2 : m.length ≠ 0) : ((1 : Int) : Rat) / ((l.length : Int) : Rat) + ((1 : Int) : Rat) / ((m.length : Int) : Rat) = (((l.length : Int) + (m.length : Int) : Int) : Rat) / (((l.length : Int) * (m.length : Int) : Int) : Rat) := by
  have e1 := lenR_ne (l := l) (by rintro rfl; exact h1 rfl)
  have e2 := lenR_ne (l := m) (by rintro rfl; exact h2 rfl)
  rw [Rat.intCast_add, Rat.intCast_mul]
  show _ / lenR l + _ / lenR m = (lenR l + lenR m) / (lenR l * lenR m)
  generalize lenR l = x at *
  generalize lenR m = y at *
  have e3 : x * y ≠ 0 := fun e => by rcases Rat.mul_eq_zero.1 e with h | h <;> contradiction
  symm
  refine div_uniq e3 ?_
  have a := div_cancel' (x := ((1 : Int) : Rat)) e1
  have b := div_cancel' (x := ((1 : Int) : Rat)) e2
  generalize ((1 : Int) : Rat) / x = p at *
  generalize ((1 : Int) : Rat) / y = q at *
  have o : ((1 : Int) : Rat) = 1 := rfl
  rw [o] at a b
  have : (p + q) * (x * y) = (p * x) * y + (q * y) * x := by grind
  rw [this, a, b]
  grind
set_option maxHeartbeats 1000000 in
theorem ref19_pooled (h : RowC xs l 1) (h2 : RowC ys m 1) (hl : l.length ≤ 12) (hm : m.length ≤ 12) :
    Go.Ev.Fn CX 52 [testV kind (.sl l.length xs) (.sl m.length ys) (.sl tn tc) sm nm dm ss ns ds k n] (resV (poolR l m)) := by
  have r0 := ref19_zero
  unfold poolR
  by_cases c1 : l.length = 0
  · rw [if_pos (.inl c1)]
    clear h h2
    refine Go.Ev.Fn.intro (fn := Tryz.f52) (body := (Tryz.f52).body.get!) (by kernel_rfl) (by kernel_rfl) (by kernel_rfl) (fun _ => rfl) (Nat.le_of_ble_eq_true (by kernel_rfl)) ?_; unfold Tryz.f52; simp only [Option.get!_some]
    repeat (first | (simp only [go_sem, Nat.reduceEqDiff, Nat.reduceAdd, Nat.reduceSub, Nat.reduceMul, Nat.reduceLeDiff, Nat.reduceLT, reduceIte, reduceCtorEq, Nat.succ_ne_zero, elemsC, Int.reduceToNat, Nat.reducePow]) | (simp (disch := (first | omega | (simp only [AL, List.length_map]; omega))) only [AR, AL, ifT, ifF, take_all, List.length_cons, List.length_nil, Int.reduceToNat, Int.reducePow, Nat.reducePow]) | (refine wk_intro (by kernel_rfl) ?_) | (refine vp_draw (id := 1) (l := []) (by kernel_rfl) ?_) | (refine vp_draw (id := 4) (l := [34, 37]) (by kernel_rfl) ?_) | (refine vp_draw (id := 10) (l := []) (by kernel_rfl) ?_) | (refine vp_draw (id := 11) (l := []) (by kernel_rfl) ?_) | (refine vf_of (by first | exact r0) ?_))
  by_cases c2 : m.length = 0
  · rw [if_pos (.inr (.inl c2))]
    clear h h2
    refine Go.Ev.Fn.intro (fn := Tryz.f52) (body := (Tryz.f52).body.get!) (by kernel_rfl) (by kernel_rfl) (by kernel_rfl) (fun _ => rfl) (Nat.le_of_ble_eq_true (by kernel_rfl)) ?_; unfold Tryz.f52; simp only [Option.get!_some]
    repeat (first | (simp only [go_sem, Nat.reduceEqDiff, Nat.reduceAdd, Nat.reduceSub, Nat.reduceMul, Nat.reduceLeDiff, Nat.reduceLT, reduceIte, reduceCtorEq, Nat.succ_ne_zero, elemsC, Int.reduceToNat, Nat.reducePow]) | (simp (disch := (first | omega | (simp only [AL, List.length_map]; omega))) only [AR, AL, ifT, ifF, take_all, List.length_cons, List.length_nil, Int.reduceToNat, Int.reducePow, Nat.reducePow]) | (refine wk_intro (by kernel_rfl) ?_) | (refine vp_draw (id := 1) (l := []) (by kernel_rfl) ?_) | (refine vp_draw (id := 4) (l := [34, 37]) (by kernel_rfl) ?_) | (refine vp_draw (id := 10) (l := []) (by kernel_rfl) ?_) | (refine vp_draw (id := 11) (l := []) (by kernel_rfl) ?_) | (refine vf_of (by first | exact r0) ?_))
  by_cases c3 : l.length + m.length < 3
  · rw [if_pos (.inr (.inr c3))]
    clear h h2
    refine Go.Ev.Fn.intro (fn := Tryz.f52) (body := (Tryz.f52).body.get!) (by kernel_rfl) (by kernel_rfl) (by kernel_rfl) (fun _ => rfl) (Nat.le_of_ble_eq_true (by kernel_rfl)) ?_; unfold Tryz.f52; simp only [Option.get!_some]
    repeat (first | (simp only [go_sem, Nat.reduceEqDiff, Nat.reduceAdd, Nat.reduceSub, Nat.reduceMul, Nat.reduceLeDiff, Nat.reduceLT, reduceIte, reduceCtorEq, Nat.succ_ne_zero, elemsC, Int.reduceToNat, Nat.reducePow]) | (simp (disch := (first | omega | (simp only [AL, List.length_map]; omega))) only [AR, AL, ifT, ifF, take_all, List.length_cons, List.length_nil, Int.reduceToNat, Int.reducePow, Nat.reducePow]) | (refine wk_intro (by kernel_rfl) ?_) | (refine vp_draw (id := 1) (l := []) (by kernel_rfl) ?_) | (refine vp_draw (id := 4) (l := [34, 37]) (by kernel_rfl) ?_) | (refine vp_draw (id := 10) (l := []) (by kernel_rfl) ?_) | (refine vp_draw (id := 11) (l := []) (by kernel_rfl) ?_) | (refine vf_of (by first | exact r0) ?_))
  rw [if_neg (by omega)]
  have s1 := ref17_Off h (by omega) (by omega) hl (by omega)
  have s2 := ref17_Off h2 (by omega) (by omega) hm (by omega)
  have z1 := sz_sq (by omega) (row_sz (by omega) h) hl
  have z2 := sz_sq (by omega) (row_sz (by omega) h2) hm
  have y1 := sz_mean (by omega) (row_sz (by omega) h) hl
  have y2 := sz_mean (by omega) (row_sz (by omega) h2) hm
  have m1 := ref17_Mean h (by omega) (by omega) hl
  have m2 := ref17_Mean h2 (by omega) (by omega) hm
  rw [if_neg c1] at m1
  rw [if_neg c2] at m2
  have a1 := ref2_Add (RatA_rv z1) (RatA_rv z2) (by omega) (by omega) (by omega)
  have za := szR_add z1 z2 (by omega)
  have e2 : (l.length : Int) + (m.length : Int) - 2 = ((l.length + m.length - 2 : Nat) : Int) := by omega
  have i1 := ref2_Int ((l.length : Int) + (m.length : Int) - 2) (by omega)
  have zi1 := int_szR (n := (l.length : Int) + (m.length : Int) - 2) (by omega)
  have o1 := ref19_by (RatA_rv za) (RatA_rv zi1) (by omega) (by omega) (by omega)
  have zo := szR_div za zi1 (by omega) (by omega)
  have zz := ref2_Zero (RatA_rv zo) (by omega) (by omega)
  have j0 := ref2_Int 1 (by omega)
  have j1 := ref2_Int (l.length : Int) (by omega)
  have j2 := ref2_Int (m.length : Int) (by omega)
  have zj0 := int_szR (n := 1) (by omega)
  have zj1 := int_szR (n := (l.length : Int)) (by omega)
  have zj2 := int_szR (n := (m.length : Int)) (by omega)
  have b1 := ref19_by (RatA_rv zj0) (RatA_rv zj1) (by omega) (by omega) (by omega)
  have b2 := ref19_by (RatA_rv zj0) (RatA_rv zj2) (by omega) (by omega) (by omega)
  have zb1 := szR_div zj0 zj1 (by omega) (by omega)
  have zb2 := szR_div zj0 zj2 (by omega) (by omega)
  have a2 := ref2_Add (RatA_rv zb1) (RatA_rv zb2) (by omega) (by omega) (by omega)
  have zw := szR_add zb1 zb2 (by omega)
  rw [pool_ref l m c1 c2] at a2 zw
  have d1 := ref2_Sub (RatA_rv y1) (RatA_rv y2) (by omega) (by omega) (by omega)
  have zd := szR_sub y1 y2 (by omega)
  have q1 := ref19_square (RatA_rv zd) (by omega) (by omega)
  have zq := szR_mul zd zd (by omega)
  have p1 := ref2_Mul (RatA_rv zo) (RatA_rv zw) (by omega) (by omega) (by omega)
  have o3 := ref19_by (RatA_rv zq) (RatA_rv (szR_mul zo zw (by omega))) (by omega) (by omega) (by omega)
  clear z1 z2 za zi1 h h2 zj0 zj1 zj2 zb1 zb2 zw zd zq zo y1 y2
  generalize meanR l = x at *
  generalize meanR m = y at *
  by_cases hv : (sqR l + sqR m) / (((l.length : Int) + (m.length : Int) - 2 : Int) : Rat) = 0
  · rw [if_pos hv]
    rw [decide_eq_true hv] at zz
    clear hv o3 p1 q1 d1 a2 b1 b2
    generalize (sqR l + sqR m) / (((l.length : Int) + (m.length : Int) - 2 : Int) : Rat) = v at *
    refine Go.Ev.Fn.intro (fn := Tryz.f52) (body := (Tryz.f52).body.get!) (by kernel_rfl) (by kernel_rfl) (by kernel_rfl) (fun _ => rfl) (Nat.le_of_ble_eq_true (by kernel_rfl)) ?_; unfold Tryz.f52; simp only [Option.get!_some]
    repeat (first | (simp only [go_sem, Nat.reduceEqDiff, Nat.reduceAdd, Nat.reduceSub, Nat.reduceMul, Nat.reduceLeDiff, Nat.reduceLT, reduceIte, reduceCtorEq, Nat.succ_ne_zero, elemsC, Int.reduceToNat, Nat.reducePow]) | (simp (disch := (first | omega | (simp only [AL, List.length_map]; omega))) only [AR, AL, ifT, ifF, take_all, List.length_cons, List.length_nil, Int.reduceToNat, Int.reducePow, Nat.reducePow]) | (refine wk_intro (by kernel_rfl) ?_) | (refine vp_draw (id := 1) (l := []) (by kernel_rfl) ?_) | (refine vp_draw (id := 4) (l := [34, 37]) (by kernel_rfl) ?_) | (refine vp_draw (id := 10) (l := []) (by kernel_rfl) ?_) | (refine vp_draw (id := 11) (l := []) (by kernel_rfl) ?_) | (refine vf_of (by first | exact s1 | exact s2 | exact a1 | exact i1 | exact o1 | exact zz | exact r0) ?_))
  · rw [if_neg hv]
    rw [decide_eq_false hv] at zz
    clear hv
    generalize (sqR l + sqR m) / (((l.length : Int) + (m.length : Int) - 2 : Int) : Rat) = v at *
    generalize sqR l + sqR m = v2 at *
    generalize (((l.length : Int) + (m.length : Int) : Int) : Rat) / (((l.length : Int) * (m.length : Int) : Int) : Rat) = w at *
    generalize ((1 : Int) : Rat) / ((l.length : Int) : Rat) = u1 at *
    generalize ((1 : Int) : Rat) / ((m.length : Int) : Rat) = u2 at *
    refine Go.Ev.Fn.intro (fn := Tryz.f52) (body := (Tryz.f52).body.get!) (by kernel_rfl) (by kernel_rfl) (by kernel_rfl) (fun _ => rfl) (Nat.le_of_ble_eq_true (by kernel_rfl)) ?_; unfold Tryz.f52; simp only [Option.get!_some]
    repeat (first | (simp only [go_sem, Nat.reduceEqDiff, Nat.reduceAdd, Nat.reduceSub, Nat.reduceMul, Nat.reduceLeDiff, Nat.reduceLT, reduceIte, reduceCtorEq, Nat.succ_ne_zero, elemsC, Int.reduceToNat, Nat.reducePow]) | (simp (disch := (first | omega | (simp only [AL, List.length_map]; omega))) only [AR, AL, ifT, ifF, take_all, List.length_cons, List.length_nil, Int.reduceToNat, Int.reducePow, Nat.reducePow]) | (refine wk_intro (by kernel_rfl) ?_) | (refine vp_draw (id := 1) (l := []) (by kernel_rfl) ?_) | (refine vp_draw (id := 4) (l := [34, 37]) (by kernel_rfl) ?_) | (refine vp_draw (id := 10) (l := []) (by kernel_rfl) ?_) | (refine vp_draw (id := 11) (l := []) (by kernel_rfl) ?_) | (refine vf_of (by first | exact s1 | exact s2 | exact a1 | exact i1 | exact o1 | exact zz | exact m1 | exact m2 | exact j0 | exact j1 | exact b1 | exact j2 | exact b2 | exact a2 | exact d1 | exact q1 | exact p1 | exact o3) ?_))
set_option maxHeartbeats 1000000 in
theorem ref19_fisher (h : RowC xs l 1) (h2 : RowC ys m 1) (hl : l.length ≤ 12) (hm : m.length ≤ 12) :
    Go.Ev.Fn CX 53 [testV kind (.sl l.length xs) (.sl m.length ys) (.sl tn tc) sm nm dm ss ns ds k n] (resV (fisR l m)) := by
  have r0 := ref19_zero
  have v1 := ref17_Variance h (by omega) (by omega) hl
  have v2 := ref17_Variance h2 (by omega) (by omega) hm
  have z1 := sz_var (by omega) (row_sz (by omega) h) hl
  have z2 := sz_var (by omega) (row_sz (by omega) h2) hm
  have q1 := ref2_Zero (RatA_rv z1) (by omega) (by omega)
  have q2 := ref2_Zero (RatA_rv z2) (by omega) (by omega)
  have o1 := ref19_by (RatA_rv z1) (RatA_rv z2) (by omega) (by omega) (by omega)
  unfold fisR
  clear h h2 z1 z2
  by_cases c1 : l.length < 2
  · rw [if_pos (.inl c1)]
    rw [if_pos c1] at v1
    refine Go.Ev.Fn.intro (fn := Tryz.f53) (body := (Tryz.f53).body.get!) (by kernel_rfl) (by kernel_rfl) (by kernel_rfl) (fun _ => rfl) (Nat.le_of_ble_eq_true (by kernel_rfl)) ?_; unfold Tryz.f53; simp only [Option.get!_some]
    repeat (first | (simp only [go_sem, Nat.reduceEqDiff, Nat.reduceAdd, Nat.reduceSub, Nat.reduceMul, Nat.reduceLeDiff, Nat.reduceLT, reduceIte, reduceCtorEq, Nat.succ_ne_zero, elemsC, Int.reduceToNat, Nat.reducePow]) | (simp (disch := (first | omega | (simp only [AL, List.length_map]; omega))) only [AR, AL, ifT, ifF, take_all, List.length_cons, List.length_nil, Int.reduceToNat, Int.reducePow, Nat.reducePow]) | (refine wk_intro (by kernel_rfl) ?_) | (refine vp_draw (id := 9) (l := []) (by kernel_rfl) ?_) | (refine vf_of (by first | exact v1 | exact r0) ?_))
  rw [if_neg c1] at v1
  by_cases c2 : m.length < 2
  · rw [if_pos (.inr c2)]
    rw [if_pos c2] at v2
    refine Go.Ev.Fn.intro (fn := Tryz.f53) (body := (Tryz.f53).body.get!) (by kernel_rfl) (by kernel_rfl) (by kernel_rfl) (fun _ => rfl) (Nat.le_of_ble_eq_true (by kernel_rfl)) ?_; unfold Tryz.f53; simp only [Option.get!_some]
    repeat (first | (simp only [go_sem, Nat.reduceEqDiff, Nat.reduceAdd, Nat.reduceSub, Nat.reduceMul, Nat.reduceLeDiff, Nat.reduceLT, reduceIte, reduceCtorEq, Nat.succ_ne_zero, elemsC, Int.reduceToNat, Nat.reducePow]) | (simp (disch := (first | omega | (simp only [AL, List.length_map]; omega))) only [AR, AL, ifT, ifF, take_all, List.length_cons, List.length_nil, Int.reduceToNat, Int.reducePow, Nat.reducePow]) | (refine wk_intro (by kernel_rfl) ?_) | (refine vp_draw (id := 9) (l := []) (by kernel_rfl) ?_) | (refine vf_of (by first | exact v1 | exact v2 | exact r0) ?_))
  rw [if_neg c2] at v2
  rw [if_neg (by omega)]
  generalize varR l = a at *
  generalize varR m = b at *
  by_cases c3 : a = 0
  · rw [if_pos (.inl c3)]
    rw [decide_eq_true c3] at q1
    refine Go.Ev.Fn.intro (fn := Tryz.f53) (body := (Tryz.f53).body.get!) (by kernel_rfl) (by kernel_rfl) (by kernel_rfl) (fun _ => rfl) (Nat.le_of_ble_eq_true (by kernel_rfl)) ?_; unfold Tryz.f53; simp only [Option.get!_some]
    repeat (first | (simp only [go_sem, Nat.reduceEqDiff, Nat.reduceAdd, Nat.reduceSub, Nat.reduceMul, Nat.reduceLeDiff, Nat.reduceLT, reduceIte, reduceCtorEq, Nat.succ_ne_zero, elemsC, Int.reduceToNat, Nat.reducePow]) | (simp (disch := (first | omega | (simp only [AL, List.length_map]; omega))) only [AR, AL, ifT, ifF, take_all, List.length_cons, List.length_nil, Int.reduceToNat, Int.reducePow, Nat.reducePow]) | (refine wk_intro (by kernel_rfl) ?_) | (refine vp_draw (id := 9) (l := []) (by kernel_rfl) ?_) | (refine vf_of (by first | exact v1 | exact v2 | exact q1 | exact r0) ?_))
  rw [decide_eq_false c3] at q1
  by_cases c4 : b = 0
  · rw [if_pos (.inr c4)]
    rw [decide_eq_true c4] at q2
    refine Go.Ev.Fn.intro (fn := Tryz.f53) (body := (Tryz.f53).body.get!) (by kernel_rfl) (by kernel_rfl) (by kernel_rfl) (fun _ => rfl) (Nat.le_of_ble_eq_true (by kernel_rfl)) ?_; unfold Tryz.f53; simp only [Option.get!_some]
    repeat (first | (simp only [go_sem, Nat.reduceEqDiff, Nat.reduceAdd, Nat.reduceSub, Nat.reduceMul, Nat.reduceLeDiff, Nat.reduceLT, reduceIte, reduceCtorEq, Nat.succ_ne_zero, elemsC, Int.reduceToNat, Nat.reducePow]) | (simp (disch := (first | omega | (simp only [AL, List.length_map]; omega))) only [AR, AL, ifT, ifF, take_all, List.length_cons, List.length_nil, Int.reduceToNat, Int.reducePow, Nat.reducePow]) | (refine wk_intro (by kernel_rfl) ?_) | (refine vp_draw (id := 9) (l := []) (by kernel_rfl) ?_) | (refine vf_of (by first | exact v1 | exact v2 | exact q1 | exact q2 | exact r0) ?_))
  rw [decide_eq_false c4] at q2
  rw [if_neg (fun h => h.elim c3 c4)]
  refine Go.Ev.Fn.intro (fn := Tryz.f53) (body := (Tryz.f53).body.get!) (by kernel_rfl) (by kernel_rfl) (by kernel_rfl) (fun _ => rfl) (Nat.le_of_ble_eq_true (by kernel_rfl)) ?_; unfold Tryz.f53; simp only [Option.get!_some]
  repeat (first | (simp only [go_sem, Nat.reduceEqDiff, Nat.reduceAdd, Nat.reduceSub, Nat.reduceMul, Nat.reduceLeDiff, Nat.reduceLT, reduceIte, reduceCtorEq, Nat.succ_ne_zero, elemsC, Int.reduceToNat, Nat.reducePow]) | (simp (disch := (first | omega | (simp only [AL, List.length_map]; omega))) only [AR, AL, ifT, ifF, take_all, List.length_cons, List.length_nil, Int.reduceToNat, Int.reducePow, Nat.reducePow]) | (refine wk_intro (by kernel_rfl) ?_) | (refine vp_draw (id := 9) (l := []) (by kernel_rfl) ?_) | (refine vf_of (by first | exact v1 | exact v2 | exact q1 | exact q2 | exact o1) ?_))
end
end Go.Proofs.YtdnmhnjblgkjaaaGreat

/- test.z, misses, fit; vernierref19.z, fit, in the evaluator. -/
namespace Go.Proofs.YtdnmhnjblgkjaaaGreat
set_option linter.unusedSimpArgs false
set_option linter.unusedVariables false
set_option maxRecDepth 8000
open Go.Ev
section
variable {kind k n : Int} {tn Y : Nat} {xs ys tc : List SV} {sm ss : Bool} {nm dm ns ds : List Nat} {l : List Rat} {mu sg : Rat} {M : Nat}
theorem test_z (h : RowC xs l 1) (hl : l.length ≤ 12) (hm : RatA (ratV sm nm dm) mu M) (hs : RatA (ratV ss ns ds) sg M) (hM : 1 ≤ M) (hM2 : M ≤ 100) :
    Go.Ev.Fn CX 39 [testV kind (.sl l.length xs) (.sl Y ys) (.sl tn tc) sm nm dm ss ns ds k n] (resV (zR l mu sg)) := by
  have r0 := rat_Int 0 (by omega)
  have c0 := rat_Cmp hs (RatA_rv (int_szR (n := 0) (by omega))) hM (by omega) (by omega)
  have e0 : decide (cmpR sg ((0 : Int) : Rat) ≤ 0) = decide (sg ≤ 0) := cmpR_le
  unfold zR
  by_cases c1 : sg ≤ 0
  · rw [if_pos c1]
    rw [decide_eq_true c1] at e0
    clear h hm hs c1
    refine Go.Ev.Fn.intro (fn := Tryz.f39) (body := (Tryz.f39).body.get!) (by kernel_rfl) (by kernel_rfl) (by kernel_rfl) (fun _ => rfl) (Nat.le_of_ble_eq_true (by kernel_rfl)) ?_; unfold Tryz.f39; simp only [Option.get!_some]
    repeat (first | (simp only [go_sem, Nat.reduceEqDiff, Nat.reduceAdd, Nat.reduceSub, Nat.reduceMul, Nat.reduceLeDiff, Nat.reduceLT, reduceIte, reduceCtorEq, Nat.succ_ne_zero, elemsC, Int.reduceToNat, Nat.reducePow, e0]) | (simp (disch := (first | omega | (simp only [AL, List.length_map]; omega))) only [AR, AL, ifT, ifF, take_all, List.length_cons, List.length_nil, Int.reduceToNat, Int.reducePow, Nat.reducePow, e0]) | (refine wk_intro (by kernel_rfl) ?_) | (refine vp_draw (id := 1) (l := []) (by kernel_rfl) ?_) | (refine vp_draw (id := 6) (l := []) (by kernel_rfl) ?_) | (refine vp_draw (id := 7) (l := []) (by kernel_rfl) ?_) | (refine vf_of (by first | exact r0 | exact c0) ?_))
    rfl
  rw [if_neg c1]
  rw [decide_eq_false c1] at e0
  have m1 := stat_Mean h (by omega) (by omega) hl
  by_cases c2 : l.length = 0
  · rw [if_pos c2] at m1 ⊢
    clear h hm hs c1
    refine Go.Ev.Fn.intro (fn := Tryz.f39) (body := (Tryz.f39).body.get!) (by kernel_rfl) (by kernel_rfl) (by kernel_rfl) (fun _ => rfl) (Nat.le_of_ble_eq_true (by kernel_rfl)) ?_; unfold Tryz.f39; simp only [Option.get!_some]
    repeat (first | (simp only [go_sem, Nat.reduceEqDiff, Nat.reduceAdd, Nat.reduceSub, Nat.reduceMul, Nat.reduceLeDiff, Nat.reduceLT, reduceIte, reduceCtorEq, Nat.succ_ne_zero, elemsC, Int.reduceToNat, Nat.reducePow, e0]) | (simp (disch := (first | omega | (simp only [AL, List.length_map]; omega))) only [AR, AL, ifT, ifF, take_all, List.length_cons, List.length_nil, Int.reduceToNat, Int.reducePow, Nat.reducePow, e0]) | (refine wk_intro (by kernel_rfl) ?_) | (refine vp_draw (id := 1) (l := []) (by kernel_rfl) ?_) | (refine vp_draw (id := 6) (l := []) (by kernel_rfl) ?_) | (refine vp_draw (id := 7) (l := []) (by kernel_rfl) ?_) | (refine vf_of (by first | exact r0 | exact c0 | exact m1) ?_))
    rfl
  rw [if_neg c2] at m1 ⊢
  have zm := sz_mean (by omega) (row_sz (by omega) h) hl
  have d1 := rat_Sub (RatA_rv zm) hm (by omega) (by omega) (by omega)
  have zd := szR_sub zm (szR_of hm hM) (by omega)
  have o1 := test_over (RatA_rv zd) hs (by omega) (by omega) (by omega)
  have zo := szR_div zd (szR_of hs hM) (by omega) (by omega)
  have s1 := test_square (RatA_rv zo) (by omega) (by omega)
  have i1 := rat_Int (l.length : Int) (by omega)
  have p1 := rat_Mul (RatA_rv (int_szR (n := (l.length : Int)) (by omega))) (RatA_rv (szR_mul zo zo (by omega))) (by omega) (by omega) (by omega)
  rw [zR_alt] at p1
  clear h hm hs c1 zm zd zo
  generalize meanR l = x at *
  generalize (x - mu) / sg = y at *
  generalize ((l.length : Int) : Rat) * ((x - mu) * (x - mu)) / (sg * sg) = w at *
  show Go.Ev.Fn CX 39 _ (resV (w, [1], 0))
  refine Go.Ev.Fn.intro (fn := Tryz.f39) (body := (Tryz.f39).body.get!) (by kernel_rfl) (by kernel_rfl) (by kernel_rfl) (fun _ => rfl) (Nat.le_of_ble_eq_true (by kernel_rfl)) ?_; unfold Tryz.f39; simp only [Option.get!_some]
  repeat (first | (simp only [go_sem, Nat.reduceEqDiff, Nat.reduceAdd, Nat.reduceSub, Nat.reduceMul, Nat.reduceLeDiff, Nat.reduceLT, reduceIte, reduceCtorEq, Nat.succ_ne_zero, elemsC, Int.reduceToNat, Nat.reducePow, e0]) | (simp (disch := (first | omega | (simp only [AL, List.length_map]; omega))) only [AR, AL, ifT, ifF, take_all, List.length_cons, List.length_nil, Int.reduceToNat, Int.reducePow, Nat.reducePow, e0]) | (refine wk_intro (by kernel_rfl) ?_) | (refine vp_draw (id := 1) (l := []) (by kernel_rfl) ?_) | (refine vp_draw (id := 6) (l := []) (by kernel_rfl) ?_) | (refine vp_draw (id := 7) (l := []) (by kernel_rfl) ?_) | (refine vf_of (by first | exact r0 | exact c0 | exact m1 | exact d1 | exact o1 | exact s1 | exact i1 | exact p1) ?_))
theorem ref19_z (h : RowC xs l 1) (hl : l.length ≤ 12) (hm : RatA (ratV sm nm dm) mu M) (hs : RatA (ratV ss ns ds) sg M) (hM : 1 ≤ M) (hM2 : M ≤ 100) :
    Go.Ev.Fn CX 49 [testV kind (.sl l.length xs) (.sl Y ys) (.sl tn tc) sm nm dm ss ns ds k n] (resV (zR l mu sg)) := by
  have r0 := ref19_zero
  have c0 := ref2_Cmp hs (RatA_rv (szR_zero (L := 1) (by omega))) hM (by omega) (by omega)
  have e0 : decide (cmpR sg 0 ≤ 0) = decide (sg ≤ 0) := cmpR_le
  unfold zR
  by_cases c1 : sg ≤ 0
  · rw [if_pos c1]
    rw [decide_eq_true c1] at e0
    clear h hm hs c1
    refine Go.Ev.Fn.intro (fn := Tryz.f49) (body := (Tryz.f49).body.get!) (by kernel_rfl) (by kernel_rfl) (by kernel_rfl) (fun _ => rfl) (Nat.le_of_ble_eq_true (by kernel_rfl)) ?_; unfold Tryz.f49; simp only [Option.get!_some]
    repeat (first | (simp only [go_sem, Nat.reduceEqDiff, Nat.reduceAdd, Nat.reduceSub, Nat.reduceMul, Nat.reduceLeDiff, Nat.reduceLT, reduceIte, reduceCtorEq, Nat.succ_ne_zero, elemsC, Int.reduceToNat, Nat.reducePow, e0]) | (simp (disch := (first | omega | (simp only [AL, List.length_map]; omega))) only [AR, AL, ifT, ifF, take_all, List.length_cons, List.length_nil, Int.reduceToNat, Int.reducePow, Nat.reducePow, e0]) | (refine wk_intro (by kernel_rfl) ?_) | (refine vp_draw (id := 1) (l := []) (by kernel_rfl) ?_) | (refine vp_draw (id := 7) (l := []) (by kernel_rfl) ?_) | (refine vf_of (by first | exact r0 | exact c0) ?_))
  rw [if_neg c1]
  rw [decide_eq_false c1] at e0
  have m1 := ref17_Mean h (by omega) (by omega) hl
  by_cases c2 : l.length = 0
  · rw [if_pos c2] at m1 ⊢
    clear h hm hs c1
    refine Go.Ev.Fn.intro (fn := Tryz.f49) (body := (Tryz.f49).body.get!) (by kernel_rfl) (by kernel_rfl) (by kernel_rfl) (fun _ => rfl) (Nat.le_of_ble_eq_true (by kernel_rfl)) ?_; unfold Tryz.f49; simp only [Option.get!_some]
    repeat (first | (simp only [go_sem, Nat.reduceEqDiff, Nat.reduceAdd, Nat.reduceSub, Nat.reduceMul, Nat.reduceLeDiff, Nat.reduceLT, reduceIte, reduceCtorEq, Nat.succ_ne_zero, elemsC, Int.reduceToNat, Nat.reducePow, e0]) | (simp (disch := (first | omega | (simp only [AL, List.length_map]; omega))) only [AR, AL, ifT, ifF, take_all, List.length_cons, List.length_nil, Int.reduceToNat, Int.reducePow, Nat.reducePow, e0]) | (refine wk_intro (by kernel_rfl) ?_) | (refine vp_draw (id := 1) (l := []) (by kernel_rfl) ?_) | (refine vp_draw (id := 7) (l := []) (by kernel_rfl) ?_) | (refine vf_of (by first | exact r0 | exact c0 | exact m1) ?_))
  rw [if_neg c2] at m1 ⊢
  have zm := sz_mean (by omega) (row_sz (by omega) h) hl
  have d1 := ref2_Sub (RatA_rv zm) hm (by omega) (by omega) (by omega)
  have zd := szR_sub zm (szR_of hm hM) (by omega)
  have s1 := ref19_square (RatA_rv zd) (by omega) (by omega)
  have zs := szR_mul zd zd (by omega)
  have i1 := ref2_Int (l.length : Int) (by omega)
  have zi := int_szR (n := (l.length : Int)) (by omega)
  have p1 := ref2_Mul (RatA_rv zi) (RatA_rv zs) (by omega) (by omega) (by omega)
  have s2 := ref19_square hs hM (by omega)
  have zg := szR_of hs hM
  have o1 := ref19_by (RatA_rv (szR_mul zi zs (by omega))) (RatA_rv (szR_mul zg zg (by omega))) (by omega) (by omega) (by omega)
  clear h hm hs c1 zm zd zi zs zg
  generalize meanR l = x at *
  generalize ((l.length : Int) : Rat) * ((x - mu) * (x - mu)) / (sg * sg) = w at *
  show Go.Ev.Fn CX 49 _ (resV (w, [1], 0))
  refine Go.Ev.Fn.intro (fn := Tryz.f49) (body := (Tryz.f49).body.get!) (by kernel_rfl) (by kernel_rfl) (by kernel_rfl) (fun _ => rfl) (Nat.le_of_ble_eq_true (by kernel_rfl)) ?_; unfold Tryz.f49; simp only [Option.get!_some]
  repeat (first | (simp only [go_sem, Nat.reduceEqDiff, Nat.reduceAdd, Nat.reduceSub, Nat.reduceMul, Nat.reduceLeDiff, Nat.reduceLT, reduceIte, reduceCtorEq, Nat.succ_ne_zero, elemsC, Int.reduceToNat, Nat.reducePow, e0]) | (simp (disch := (first | omega | (simp only [AL, List.length_map]; omega))) only [AR, AL, ifT, ifF, take_all, List.length_cons, List.length_nil, Int.reduceToNat, Int.reducePow, Nat.reducePow, e0]) | (refine wk_intro (by kernel_rfl) ?_) | (refine vp_draw (id := 1) (l := []) (by kernel_rfl) ?_) | (refine vp_draw (id := 7) (l := []) (by kernel_rfl) ?_) | (refine vf_of (by first | exact r0 | exact c0 | exact m1 | exact i1 | exact d1 | exact s1 | exact p1 | exact s2 | exact o1) ?_))
end
/-- What numbers are off others, squared, by these. -/
def missL (l m : List Rat) : List Rat := List.zipWith (fun x y => (x - y) * (x - y) / y) l m
def missR (l m : List Rat) : Rat := sumR (missL l m)
theorem missL_len {l m : List Rat} (h : l.length = m.length) : (missL l m).length = l.length := by unfold missL; rw [List.length_zipWith]; omega
theorem missL_at {l m : List Rat} (h : l.length = m.length) {i : Nat} (hi : i < l.length) : (missL l m).getD i 0 = (l.getD i 0 - m.getD i 0) * (l.getD i 0 - m.getD i 0) / m.getD i 0 := by
  unfold missL
  rw [List.getD_eq_getElem?_getD, List.getD_eq_getElem?_getD, List.getD_eq_getElem?_getD, List.getElem?_eq_getElem (by rw [List.length_zipWith]; omega), List.getElem?_eq_getElem hi, List.getElem?_eq_getElem (by omega), List.getElem_zipWith]
  rfl
theorem missL_sz {l m : List Rat} {L M : Nat} (hl : ∀ x ∈ l, szR x L) (hm : ∀ x ∈ m, szR x M) (hL : 1 ≤ L) (hM : 1 ≤ M) : ∀ x ∈ missL l m, szR x (2 * L + 3 * M + 2) := by
  intro x hx
  unfold missL at hx
  obtain ⟨i, hi, rfl⟩ := List.getElem_of_mem hx
  rw [List.getElem_zipWith]
  have a := hl _ (List.getElem_mem (l := l) (n := i) (by rw [List.length_zipWith] at hi; omega))
  have b := hm _ (List.getElem_mem (l := m) (n := i) (by rw [List.length_zipWith] at hi; omega))
  have d := szR_sub a b hL
  exact szR_mono (szR_div (szR_mul d d (by omega)) b (by omega) hM) (by omega)
theorem test_misses {cs ds : List SV} {l m : List Rat} {L M : Nat} (h : RowC cs l L) (h2 : RowC ds m M) (hL : 1 ≤ L) (hL2 : L ≤ 1000) (hM : 1 ≤ M) (hM2 : M ≤ 1000) (hl : l.length ≤ 12) (hlm : l.length = m.length) :
    Go.Ev.Fn CX 79 [.sl l.length cs, .sl m.length ds] (rv (missR l m)) := by
  have r0 := rat_Int 0 (by omega)
  have hlen := row_len h
  have hlen2 := row_len h2
  have hml := missL_len hlm
  have hmz := missL_sz (row_sz hL h) (row_sz hM h2) hL hM
  refine Go.Ev.Fn.intro (fn := Tryz.f79) (body := (Tryz.f79).body.get!) (by kernel_rfl) (by kernel_rfl) (by kernel_rfl) (fun _ => rfl) (Nat.le_of_ble_eq_true (by kernel_rfl)) ?_; unfold Tryz.f79; simp only [Option.get!_some]
  repeat (first | (simp only [go_sem, Nat.reduceEqDiff, Nat.reduceAdd, Nat.reduceSub, Nat.reduceMul, Nat.reduceLeDiff, Nat.reduceLT, reduceIte, reduceCtorEq, Nat.succ_ne_zero, elemsC, Int.reduceToNat, Nat.reducePow]) | (simp (disch := (first | omega | (simp only [AL, List.length_map]; omega))) only [AR, AL, ifT, ifF, take_all, List.length_cons, List.length_nil, Int.reduceToNat, Int.reducePow, Nat.reducePow]) | (refine wk_intro (by kernel_rfl) ?_) | (refine vp_draw (id := 5) (l := []) (by kernel_rfl) ?_) | (refine vf_of (by first | exact r0) ?_))
  refine vp_loop_inv (fun s => s.tmp 9 = .sv (.sl l.length cs) ∧ s.tmp 1 = .sv (.sl m.length ds) ∧ s.tmp 10 = .sv (.int .i64 (l.length : Int)) ∧ s.tmp 4 = .ptr 4 0 0 ∧ s.obj 4 0 = some [.bool false, .sl 0 [], .sl 0 []] ∧ s.tmp 5 = .ptr 5 0 0 ∧
      ∃ i : Nat, s.tmp 11 = .sv (.int .i64 (i : Int)) ∧ i ≤ l.length ∧ s.obj 5 0 = some (rvC (sumR ((missL l m).take i))))
    (fun s => match s.tmp 11 with | .sv (.int _ i) => l.length - i.toNat | _ => 0) ⟨rfl, rfl, rfl, rfl, rfl, rfl, 0, rfl, by omega, rfl⟩ ?_
  rintro s2 ⟨i9, i1, i10, i4, iO, i5, i, i11, hi, iP⟩
  by_cases hend : i = l.length
  · subst hend
    rw [List.take_of_length_le (by omega)] at iP
    have iP : s2.obj 5 0 = some (rvC (missR l m)) := iP
    repeat (first | (simp only [go_sem, Nat.reduceEqDiff, Nat.reduceAdd, Nat.reduceSub, Nat.reduceMul, Nat.reduceLeDiff, Nat.reduceLT, reduceIte, reduceCtorEq, Nat.succ_ne_zero, elemsC, Int.reduceToNat, Nat.reducePow, i9, i1, i10, i4, iO, i5, i11, iP, rvC]) | (simp (disch := (first | omega | (simp only [AL, List.length_map]; omega))) only [AR, AL, ifT, ifF, take_all, List.length_cons, List.length_nil, Int.reduceToNat, Int.reducePow, Nat.reducePow, i9, i1, i10, i4, iO, i5, i11, iP, rvC]) | (refine wk_intro (by kernel_rfl) ?_) | (refine vp_draw (id := 5) (l := []) (by kernel_rfl) ?_))
  · obtain ⟨s, n, d, rest, g1, hA⟩ := row_at (i := i) h (by omega)
    obtain ⟨s', n', d', rest', g2, hB⟩ := row_at (i := i) h2 (by omega)
    have hS := sumR_take (missL l m) (i := i) (by omega)
    rw [missL_at hlm (by omega)] at hS
    have sb := rat_Sub hA hB hL hM (by omega)
    have zs := szR_sub (szR_of hA hL) (szR_of hB hM) hL
    have sq := test_square (RatA_rv zs) (by omega) (by omega)
    have ov := test_over (RatA_rv (szR_mul zs zs (by omega))) hB (by omega) hM (by omega)
    have zo := szR_div (szR_mul zs zs (by omega)) (szR_of hB hM) (by omega) hM
    have a := rat_Add (RatA_rv (sz_take12 (by omega) hmz (by omega) i)) (RatA_rv zo) (by omega) (by omega) (by omega)
    rw [← hS] at a
    clear h h2 hA hB hmz zs zo hS
    generalize l.getD i 0 - m.getD i 0 = x at *
    generalize x * x / m.getD i 0 = y at *
    repeat (first | (simp only [go_sem, Nat.reduceEqDiff, Nat.reduceAdd, Nat.reduceSub, Nat.reduceMul, Nat.reduceLeDiff, Nat.reduceLT, reduceIte, reduceCtorEq, Nat.succ_ne_zero, elemsC, Int.reduceToNat, Nat.reducePow, i9, i1, i10, i4, iO, i5, i11, iP, rvC, g1, g2, hlen, hlen2]) | (simp (disch := (first | omega | (simp only [AL, List.length_map]; omega))) only [AR, AL, ifT, ifF, take_all, List.length_cons, List.length_nil, Int.reduceToNat, Int.reducePow, Nat.reducePow, i9, i1, i10, i4, iO, i5, i11, iP, rvC, g1, g2, hlen, hlen2]) | (refine wk_intro (by kernel_rfl) ?_) | (refine vp_draw (id := 5) (l := []) (by kernel_rfl) ?_) | (refine vf_of (by first | exact sb | exact sq | exact ov | exact a) ?_))
    exact ⟨⟨i + 1, rfl, by omega, rfl⟩, by omega⟩
end Go.Proofs.YtdnmhnjblgkjaaaGreat

/- test.fit, vernierref19.fit, in the evaluator. -/
namespace Go.Proofs.YtdnmhnjblgkjaaaGreat
set_option linter.unusedSimpArgs false
set_option linter.unusedVariables false
set_option maxRecDepth 8000
open Go.Ev
/-- May two counts not be? -/
def badF (l m : List Rat) (i : Nat) : Bool := decide (l.getD i 0 < 0) || decide (m.getD i 0 ≤ 0)
def wantR (l m : List Rat) : List Rat := m.map fun y => sumR l / sumR m * y
/-- Counts by weights. -/
def fitR (l m : List Rat) : Res :=
  if l.length ≠ m.length then (0, [], 1) else if (List.range l.length).any (badF l m) = true then (0, [], 4) else if l.length < 2 ∨ sumR l = 0 then (0, [], 5) else
  (missR l (wantR l m), [(l.length : Int) - 1], 0)
theorem le_split {x : Rat} : decide (x ≤ 0) = (decide (x < 0) || decide (x = 0)) := by
  by_cases h : x < 0
  · rw [decide_eq_true h, decide_eq_true (by grind), Bool.true_or]
  · by_cases h2 : x = 0
    · rw [decide_eq_true h2, decide_eq_true (by grind), Bool.or_true]
    · rw [decide_eq_false h, decide_eq_false h2, decide_eq_false (by grind)]; rfl
theorem want_len (l m : List Rat) : (wantR l m).length = m.length := List.length_map _
theorem want_at (l m : List Rat) {i : Nat} (h : i < m.length) : (wantR l m).getD i 0 = sumR l / sumR m * m.getD i 0 := getD_map m _ h
section
variable {kind k n : Int} {tn : Nat} {xs ys tc : List SV} {sm ss : Bool} {nm dm ns ds : List Nat} {l m : List Rat}
set_option maxHeartbeats 1000000 in
theorem test_fit (h : RowC xs l 1) (h2 : RowC ys m 1) (hl : l.length ≤ 12) (hm : m.length ≤ 12) :
    Go.Ev.Fn CX 44 [.sl l.length xs, .sl m.length ys] (resV (fitR l m)) := by
  have r0 := rat_Int 0 (by omega)
  have hlen := row_len h
  have hlen2 := row_len h2
  unfold fitR
  by_cases hlm : l.length = m.length
  rotate_left
  · rw [if_pos hlm]
    clear h h2
    refine Go.Ev.Fn.intro (fn := Tryz.f44) (body := (Tryz.f44).body.get!) (by kernel_rfl) (by kernel_rfl) (by kernel_rfl) (fun _ => rfl) (Nat.le_of_ble_eq_true (by kernel_rfl)) ?_; unfold Tryz.f44; simp only [Option.get!_some]
    repeat (first | (simp only [go_sem, Nat.reduceEqDiff, Nat.reduceAdd, Nat.reduceSub, Nat.reduceMul, Nat.reduceLeDiff, Nat.reduceLT, reduceIte, reduceCtorEq, Nat.succ_ne_zero, elemsC, Int.reduceToNat, Nat.reducePow]) | (simp (disch := (first | omega | (simp only [AL, List.length_map]; omega))) only [AR, AL, ifT, ifF, take_all, List.length_cons, List.length_nil, Int.reduceToNat, Int.reducePow, Nat.reducePow]) | (refine wk_intro (by kernel_rfl) ?_) | (refine vp_draw (id := 12) (l := [1]) (by kernel_rfl) ?_) | (refine vf_of (by first | exact r0) ?_))
    rfl
  rw [if_neg (not_not_intro hlm)]
  by_cases hbad : (List.range l.length).any (badF l m) = true
  · rw [if_pos hbad]
    obtain ⟨j, hj, hbj⟩ := List.any_eq_true.1 hbad
    rw [List.mem_range] at hj
    clear hbad
    refine Go.Ev.Fn.intro (fn := Tryz.f44) (body := (Tryz.f44).body.get!) (by kernel_rfl) (by kernel_rfl) (by kernel_rfl) (fun _ => rfl) (Nat.le_of_ble_eq_true (by kernel_rfl)) ?_; unfold Tryz.f44; simp only [Option.get!_some]
    repeat (first | (simp only [go_sem, Nat.reduceEqDiff, Nat.reduceAdd, Nat.reduceSub, Nat.reduceMul, Nat.reduceLeDiff, Nat.reduceLT, reduceIte, reduceCtorEq, Nat.succ_ne_zero, elemsC, Int.reduceToNat, Nat.reducePow]) | (simp (disch := (first | omega | (simp only [AL, List.length_map]; omega))) only [AR, AL, ifT, ifF, take_all, List.length_cons, List.length_nil, Int.reduceToNat, Int.reducePow, Nat.reducePow]) | (refine wk_intro (by kernel_rfl) ?_) | (refine vp_draw (id := 12) (l := [1]) (by kernel_rfl) ?_))
    refine vp_loop_inv (fun s => s.tmp 4 = .ptr 4 0 0 ∧ s.obj 4 0 = some [.bool false, .sl 0 [], .sl 0 []] ∧ s.tmp 1 = .sv (.sl m.length ys) ∧ s.tmp 20 = .sv (.sl l.length xs) ∧ s.tmp 21 = .sv (.int .i64 (l.length : Int)) ∧
        ∃ i : Nat, s.tmp 22 = .sv (.int .i64 (i : Int)) ∧ i ≤ l.length ∧ i ≤ j)
      (fun s => match s.tmp 22 with | .sv (.int _ i) => l.length - i.toNat | _ => 0) ⟨rfl, rfl, rfl, rfl, rfl, 0, rfl, by omega, by omega⟩ ?_
    rintro s2 ⟨i4, o4, i1, i20, i21, i, i22, hi, hij⟩
    have hil : i < l.length := by omega
    obtain ⟨s, n', d, rest, g1, hA⟩ := row_at (i := i) h (by omega)
    obtain ⟨s', n'', d', rest', g2, hB⟩ := row_at (i := i) h2 (by omega)
    have b1 := test_isBelow hA (by omega) (by omega)
    have b2 := test_isBelow hB (by omega) (by omega)
    have b3 := rat_Zero hB (by omega) (by omega)
    have hbi : i = j → (decide (l.getD i 0 < 0) || (decide (m.getD i 0 < 0) || decide (m.getD i 0 = 0))) = true := by
      rintro rfl
      rw [← le_split]
      exact hbj
    generalize l.getD i 0 = x at *
    generalize m.getD i 0 = y at *
    clear h h2 hA hB hbj
    by_cases cx : x < 0
    · rw [decide_eq_true cx] at b1
      clear hbi
      repeat (first | (simp only [go_sem, Nat.reduceEqDiff, Nat.reduceAdd, Nat.reduceSub, Nat.reduceMul, Nat.reduceLeDiff, Nat.reduceLT, reduceIte, reduceCtorEq, Nat.succ_ne_zero, elemsC, Int.reduceToNat, Nat.reducePow, i4, o4, i1, i20, i21, i22, g1, g2, hlen, hlen2]) | (simp (disch := (first | omega | (simp only [AL, List.length_map]; omega))) only [AR, AL, ifT, ifF, take_all, List.length_cons, List.length_nil, Int.reduceToNat, Int.reducePow, Nat.reducePow, i4, o4, i1, i20, i21, i22, g1, g2, hlen, hlen2]) | (refine wk_intro (by kernel_rfl) ?_) | (refine vp_draw (id := 12) (l := [1]) (by kernel_rfl) ?_) | (refine vf_of (by first | exact b1 | exact r0) ?_))
      rfl
    rw [decide_eq_false cx] at b1 hbi
    by_cases cy : y < 0
    · rw [decide_eq_true cy] at b2
      clear hbi
      repeat (first | (simp only [go_sem, Nat.reduceEqDiff, Nat.reduceAdd, Nat.reduceSub, Nat.reduceMul, Nat.reduceLeDiff, Nat.reduceLT, reduceIte, reduceCtorEq, Nat.succ_ne_zero, elemsC, Int.reduceToNat, Nat.reducePow, i4, o4, i1, i20, i21, i22, g1, g2, hlen, hlen2]) | (simp (disch := (first | omega | (simp only [AL, List.length_map]; omega))) only [AR, AL, ifT, ifF, take_all, List.length_cons, List.length_nil, Int.reduceToNat, Int.reducePow, Nat.reducePow, i4, o4, i1, i20, i21, i22, g1, g2, hlen, hlen2]) | (refine wk_intro (by kernel_rfl) ?_) | (refine vp_draw (id := 12) (l := [1]) (by kernel_rfl) ?_) | (refine vf_of (by first | exact b1 | exact b2 | exact r0) ?_))
      rfl
    rw [decide_eq_false cy] at b2 hbi
    by_cases cz : y = 0
    · rw [decide_eq_true cz] at b3
      clear hbi
      repeat (first | (simp only [go_sem, Nat.reduceEqDiff, Nat.reduceAdd, Nat.reduceSub, Nat.reduceMul, Nat.reduceLeDiff, Nat.reduceLT, reduceIte, reduceCtorEq, Nat.succ_ne_zero, elemsC, Int.reduceToNat, Nat.reducePow, i4, o4, i1, i20, i21, i22, g1, g2, hlen, hlen2]) | (simp (disch := (first | omega | (simp only [AL, List.length_map]; omega))) only [AR, AL, ifT, ifF, take_all, List.length_cons, List.length_nil, Int.reduceToNat, Int.reducePow, Nat.reducePow, i4, o4, i1, i20, i21, i22, g1, g2, hlen, hlen2]) | (refine wk_intro (by kernel_rfl) ?_) | (refine vp_draw (id := 12) (l := [1]) (by kernel_rfl) ?_) | (refine vf_of (by first | exact b1 | exact b2 | exact b3 | exact r0) ?_))
      rfl
    rw [decide_eq_false cz] at b3 hbi
    have hne : i ≠ j := fun e => by have := hbi e; cases this
    clear hbi cx cy cz
    repeat (first | (simp only [go_sem, Nat.reduceEqDiff, Nat.reduceAdd, Nat.reduceSub, Nat.reduceMul, Nat.reduceLeDiff, Nat.reduceLT, reduceIte, reduceCtorEq, Nat.succ_ne_zero, elemsC, Int.reduceToNat, Nat.reducePow, i4, o4, i1, i20, i21, i22, g1, g2, hlen, hlen2]) | (simp (disch := (first | omega | (simp only [AL, List.length_map]; omega))) only [AR, AL, ifT, ifF, take_all, List.length_cons, List.length_nil, Int.reduceToNat, Int.reducePow, Nat.reducePow, i4, o4, i1, i20, i21, i22, g1, g2, hlen, hlen2]) | (refine wk_intro (by kernel_rfl) ?_) | (refine vp_draw (id := 12) (l := [1]) (by kernel_rfl) ?_) | (refine vf_of (by first | exact b1 | exact b2 | exact b3) ?_))
    exact ⟨⟨i + 1, rfl, by omega, by omega⟩, by omega⟩
  rw [if_neg hbad]
  have hgood : ∀ i, i < l.length → (decide (l.getD i 0 < 0) || (decide (m.getD i 0 < 0) || decide (m.getD i 0 = 0))) = false := by
    intro i hi
    rw [← le_split]
    have := fun e => hbad (List.any_eq_true.2 ⟨i, List.mem_range.2 hi, e⟩)
    exact Bool.eq_false_iff.2 this
  clear hbad
  have s1 := stat_Sum h (by omega) (by omega) hl
  have s2 := stat_Sum h2 (by omega) (by omega) hm
  have zl := sz_sum12 (by omega) (row_sz (by omega) h) hl
  have zm := sz_sum12 (by omega) (row_sz (by omega) h2) hm
  have zz := rat_Zero (RatA_rv zl) (by omega) (by omega)
  have ov := test_over (RatA_rv zl) (RatA_rv zm) (by omega) (by omega) (by omega)
  have zo := szR_div zl zm (by omega) (by omega)
  have hwz : ∀ x ∈ wantR l m, szR x 51 := by
    intro x hx
    obtain ⟨y, hy, rfl⟩ := List.mem_map.1 hx
    exact szR_mono (szR_mul zo (row_sz (by omega) h2 y hy) (by omega)) (by omega)
  have hwl := want_len l m
  have ms := test_misses h (rvsC_row _ hwz) (by omega) (by omega) (by omega) (by omega) hl (by omega)
  have hwa := fun {i : Nat} (hi : i < m.length) => want_at l m hi
  refine Go.Ev.Fn.intro (fn := Tryz.f44) (body := (Tryz.f44).body.get!) (by kernel_rfl) (by kernel_rfl) (by kernel_rfl) (fun _ => rfl) (Nat.le_of_ble_eq_true (by kernel_rfl)) ?_; unfold Tryz.f44; simp only [Option.get!_some]
  repeat (first | (simp only [go_sem, Nat.reduceEqDiff, Nat.reduceAdd, Nat.reduceSub, Nat.reduceMul, Nat.reduceLeDiff, Nat.reduceLT, reduceIte, reduceCtorEq, Nat.succ_ne_zero, elemsC, Int.reduceToNat, Nat.reducePow]) | (simp (disch := (first | omega | (simp only [AL, List.length_map]; omega))) only [AR, AL, ifT, ifF, take_all, List.length_cons, List.length_nil, Int.reduceToNat, Int.reducePow, Nat.reducePow]) | (refine wk_intro (by kernel_rfl) ?_) | (refine vp_draw (id := 12) (l := [1]) (by kernel_rfl) ?_))
  refine vp_loop_inv (fun s => s.tmp 0 = .sv (.sl l.length xs) ∧ s.tmp 4 = .ptr 4 0 0 ∧ s.obj 4 0 = some [.bool false, .sl 0 [], .sl 0 []] ∧ s.tmp 1 = .sv (.sl m.length ys) ∧ s.tmp 20 = .sv (.sl l.length xs) ∧ s.tmp 21 = .sv (.int .i64 (l.length : Int)) ∧ s.gen 70 = 0 ∧
      ∃ i : Nat, s.tmp 22 = .sv (.int .i64 (i : Int)) ∧ i ≤ l.length)
    (fun s => match s.tmp 22 with | .sv (.int _ i) => l.length - i.toNat | _ => 0) ⟨rfl, rfl, rfl, rfl, rfl, rfl, rfl, 0, rfl, by omega⟩ ?_
  rintro s3 ⟨i0, i4, o4, i1, i20, i21, ig, i, i22, hi⟩
  by_cases hend : i = l.length
  rotate_left
  · obtain ⟨s, n', d, rest, g1, hA⟩ := row_at (i := i) h (by omega)
    obtain ⟨s', n'', d', rest', g2, hB⟩ := row_at (i := i) h2 (by omega)
    have b1 := test_isBelow hA (by omega) (by omega)
    have b2 := test_isBelow hB (by omega) (by omega)
    have b3 := rat_Zero hB (by omega) (by omega)
    have hgi := hgood i (by omega)
    simp only [Bool.or_eq_false_iff] at hgi
    rw [hgi.1] at b1
    rw [hgi.2.1] at b2
    rw [hgi.2.2] at b3
    clear h h2 hA hB hgood hgi s1 s2 zl zm zz ov zo hwz ms hwa
    repeat (first | (simp only [go_sem, Nat.reduceEqDiff, Nat.reduceAdd, Nat.reduceSub, Nat.reduceMul, Nat.reduceLeDiff, Nat.reduceLT, reduceIte, reduceCtorEq, Nat.succ_ne_zero, elemsC, Int.reduceToNat, Nat.reducePow, i0, i4, o4, i1, i20, i21, ig, i22, g1, g2, hlen, hlen2]) | (simp (disch := (first | omega | (simp only [AL, List.length_map]; omega))) only [AR, AL, ifT, ifF, take_all, List.length_cons, List.length_nil, Int.reduceToNat, Int.reducePow, Nat.reducePow, i0, i4, o4, i1, i20, i21, ig, i22, g1, g2, hlen, hlen2]) | (refine wk_intro (by kernel_rfl) ?_) | (refine vp_draw (id := 12) (l := [1]) (by kernel_rfl) ?_) | (refine vf_of (by first | exact b1 | exact b2 | exact b3) ?_))
    exact ⟨⟨i + 1, rfl, by omega⟩, by omega⟩
  subst hend
  clear hgood
  repeat (first | (simp only [go_sem, Nat.reduceEqDiff, Nat.reduceAdd, Nat.reduceSub, Nat.reduceMul, Nat.reduceLeDiff, Nat.reduceLT, reduceIte, reduceCtorEq, Nat.succ_ne_zero, elemsC, Int.reduceToNat, Nat.reducePow, i0, i4, o4, i1, i20, i21, ig, i22]) | (simp (disch := (first | omega | (simp only [AL, List.length_map]; omega))) only [AR, AL, ifT, ifF, take_all, List.length_cons, List.length_nil, Int.reduceToNat, Int.reducePow, Nat.reducePow, i0, i4, o4, i1, i20, i21, ig, i22]) | (refine wk_intro (by kernel_rfl) ?_) | (refine vp_draw (id := 12) (l := [1]) (by kernel_rfl) ?_) | (refine vf_of (by first | exact s1) ?_))
  by_cases c5 : l.length < 2
  · rw [if_pos (.inl c5)]
    clear h h2 zl zm zo hwz hwa
    repeat (first | (simp only [go_sem, Nat.reduceEqDiff, Nat.reduceAdd, Nat.reduceSub, Nat.reduceMul, Nat.reduceLeDiff, Nat.reduceLT, reduceIte, reduceCtorEq, Nat.succ_ne_zero, elemsC, Int.reduceToNat, Nat.reducePow, i0, i4, o4, i1, i20, i21, ig, i22]) | (simp (disch := (first | omega | (simp only [AL, List.length_map]; omega))) only [AR, AL, ifT, ifF, take_all, List.length_cons, List.length_nil, Int.reduceToNat, Int.reducePow, Nat.reducePow, i0, i4, o4, i1, i20, i21, ig, i22]) | (refine wk_intro (by kernel_rfl) ?_) | (refine vp_draw (id := 12) (l := [1]) (by kernel_rfl) ?_) | (refine vf_of (by first | exact r0) ?_))
    rfl
  by_cases c6 : sumR l = 0
  · rw [if_pos (.inr c6)]
    rw [decide_eq_true c6] at zz
    clear h h2 zl zm zo hwz hwa c6
    repeat (first | (simp only [go_sem, Nat.reduceEqDiff, Nat.reduceAdd, Nat.reduceSub, Nat.reduceMul, Nat.reduceLeDiff, Nat.reduceLT, reduceIte, reduceCtorEq, Nat.succ_ne_zero, elemsC, Int.reduceToNat, Nat.reducePow, i0, i4, o4, i1, i20, i21, ig, i22]) | (simp (disch := (first | omega | (simp only [AL, List.length_map]; omega))) only [AR, AL, ifT, ifF, take_all, List.length_cons, List.length_nil, Int.reduceToNat, Int.reducePow, Nat.reducePow, i0, i4, o4, i1, i20, i21, ig, i22]) | (refine wk_intro (by kernel_rfl) ?_) | (refine vp_draw (id := 12) (l := [1]) (by kernel_rfl) ?_) | (refine vf_of (by first | exact zz | exact r0) ?_))
    rfl
  rw [if_neg (fun h => h.elim c5 c6)]
  rw [decide_eq_false c6] at zz
  clear c6
  have hra := fun {i : Nat} (hi : i < m.length) => row_at (i := i) h2 hi
  generalize hE : sumR l / sumR m = e at *
  have mul := fun {y : Rat} {s : Bool} {n d : List Nat} (hy : RatA (ratV s n d) y 1) => rat_Mul (RatA_rv zo) hy (by omega) (by omega) (by omega)
  generalize hW : wantR l m = w at *
  generalize missR l w = q at *
  clear h h2 zl zm hwz hE hW
  repeat (first | (simp only [go_sem, Nat.reduceEqDiff, Nat.reduceAdd, Nat.reduceSub, Nat.reduceMul, Nat.reduceLeDiff, Nat.reduceLT, reduceIte, reduceCtorEq, Nat.succ_ne_zero, elemsC, Int.reduceToNat, Nat.reducePow, i0, i4, o4, i1, i20, i21, ig, i22]) | (simp (disch := (first | omega | (simp only [AL, List.length_map]; omega))) only [AR, AL, ifT, ifF, take_all, List.length_cons, List.length_nil, Int.reduceToNat, Int.reducePow, Nat.reducePow, i0, i4, o4, i1, i20, i21, ig, i22]) | (refine wk_intro (by kernel_rfl) ?_) | (refine vp_draw (id := 12) (l := [1]) (by kernel_rfl) ?_) | (refine vf_of (by first | exact zz | exact s2 | exact ov) ?_))
  refine vp_loop_inv (fun s => s.tmp 0 = .sv (.sl l.length xs) ∧ s.tmp 4 = .ptr 4 0 0 ∧ s.obj 4 0 = some [.bool false, .sl 0 [], .sl 0 []] ∧ s.tmp 10 = .ptr 10 (s3.gen 10) 0 ∧ s.obj 10 (s3.gen 10) = some (rvC e) ∧ s.tmp 59 = .sv (.sl m.length ys) ∧ s.tmp 60 = .sv (.int .i64 (m.length : Int)) ∧
      ∃ i : Nat, s.tmp 61 = .sv (.int .i64 (i : Int)) ∧ i ≤ m.length ∧ ((i = 0 ∧ s.tmp 11 = .nil ∧ s.gen 70 = 0) ∨ (0 < i ∧ s.tmp 11 = .ref 70 0 3 0 i ∧ s.obj 70 0 = some (rvsC (w.take i)))))
    (fun s => match s.tmp 61 with | .sv (.int _ i) => m.length - i.toNat | _ => 0) ⟨i0, i4, ?_, rfl, ?_, rfl, rfl, 0, rfl, by omega, .inl ⟨rfl, rfl, ?_⟩⟩ ?_
  · simp only [go_sem, Nat.reduceEqDiff, Nat.reduceAdd, Nat.reduceSub, Nat.reduceMul, Nat.reduceLeDiff, Nat.reduceLT, reduceIte, reduceCtorEq, Nat.succ_ne_zero, elemsC, Int.reduceToNat, Nat.reducePow, o4]
  · simp only [go_sem, Nat.reduceEqDiff, Nat.reduceAdd, Nat.reduceSub, Nat.reduceMul, Nat.reduceLeDiff, Nat.reduceLT, reduceIte, reduceCtorEq, Nat.succ_ne_zero, elemsC, Int.reduceToNat, Nat.reducePow, rvC]
  · simp only [go_sem, Nat.reduceEqDiff, Nat.reduceAdd, Nat.reduceSub, Nat.reduceMul, Nat.reduceLeDiff, Nat.reduceLT, reduceIte, reduceCtorEq, Nat.succ_ne_zero, elemsC, Int.reduceToNat, Nat.reducePow, ig]
  rintro s4 ⟨j0, j4, p4, j10, p10, j59, j60, i, j61, hi, hc⟩
  by_cases hend : i = m.length
  · subst hend
    rcases hc with ⟨h00, _⟩ | ⟨_, j11, iP⟩
    · omega
    · rw [List.take_of_length_le (by omega)] at iP
      have hrl := rvsC_len w
      have htk : (rvsC w).take (m.length * 3) = rvsC w := List.take_of_length_le (by omega)
      rw [hwl] at ms
      repeat (first | (simp only [go_sem, Nat.reduceEqDiff, Nat.reduceAdd, Nat.reduceSub, Nat.reduceMul, Nat.reduceLeDiff, Nat.reduceLT, reduceIte, reduceCtorEq, Nat.succ_ne_zero, elemsC, Int.reduceToNat, Nat.reducePow, j0, j4, p4, j10, p10, j59, j60, j61, j11, iP, htk, List.drop_zero, N0]) | (simp (disch := (first | omega | (simp only [AL, List.length_map]; omega))) only [AR, AL, ifT, ifF, take_all, List.length_cons, List.length_nil, Int.reduceToNat, Int.reducePow, Nat.reducePow, j0, j4, p4, j10, p10, j59, j60, j61, j11, iP, htk, List.drop_zero, N0]) | (refine wk_intro (by kernel_rfl) ?_) | (refine vp_draw (id := 12) (l := [1]) (by kernel_rfl) ?_) | (refine vf_of (by first | exact ms) ?_))
      refine ro_ref (cs := [.int .i64 ((l.length - 1 : Nat) : Int)]) (by decide) ?_ ?_
      · simp only [go_sem, Nat.reduceEqDiff, Nat.reduceAdd, Nat.reduceSub, Nat.reduceMul, Nat.reduceLeDiff, Nat.reduceLT, reduceIte, reduceCtorEq, Nat.succ_ne_zero, elemsC, Int.reduceToNat, Nat.reducePow]
      · rfl
  · obtain ⟨s, n', d, rest, g1, hA⟩ := hra (i := i) (by omega)
    have mu := mul hA
    have hg := hwa (i := i) (by omega)
    have hsn := rvs_snoc (l := w) (i := i) (by omega)
    rw [hg] at hsn
    have hrl := rvsC_len (w.take i)
    rw [List.length_take, hwl, Nat.min_eq_left (by omega)] at hrl
    generalize e * m.getD i 0 = z at *
    clear hra mul hwa hA ms s1 s2 zz ov zo
    rcases hc with ⟨h00, j11, jg⟩ | ⟨h00, j11, jP⟩
    · subst h00
      rw [List.take_zero, rvsC_nil, List.nil_append] at hsn
      rw [Nat.zero_mul, List.drop_zero] at g1
      subst g1
      repeat (first | (simp only [go_sem, Nat.reduceEqDiff, Nat.reduceAdd, Nat.reduceSub, Nat.reduceMul, Nat.reduceLeDiff, Nat.reduceLT, reduceIte, reduceCtorEq, Nat.succ_ne_zero, elemsC, Int.reduceToNat, Nat.reducePow, j0, j4, p4, j10, p10, j59, j60, j61, j11, jg, rvC, N0]) | (simp (disch := (first | omega | (simp only [AL, List.length_map]; omega))) only [AR, AL, ifT, ifF, take_all, List.length_cons, List.length_nil, Int.reduceToNat, Int.reducePow, Nat.reducePow, j0, j4, p4, j10, p10, j59, j60, j61, j11, jg, rvC, N0]) | (refine wk_intro (by kernel_rfl) ?_) | (refine vp_draw (id := 12) (l := [1]) (by kernel_rfl) ?_) | (refine vf_of (by first | exact mu) ?_))
      exact ⟨⟨1, rfl, by omega, .inr ⟨by omega, rfl, by first | exact hsn | exact congrArg some hsn⟩⟩, by omega⟩
    · unfold rvC at hsn
      repeat (first | (simp only [go_sem, Nat.reduceEqDiff, Nat.reduceAdd, Nat.reduceSub, Nat.reduceMul, Nat.reduceLeDiff, Nat.reduceLT, reduceIte, reduceCtorEq, Nat.succ_ne_zero, elemsC, Int.reduceToNat, Nat.reducePow, j0, j4, p4, j10, p10, j59, j60, j61, j11, jP, g1, hlen2, rvC, N0, hrl]) | (simp (disch := (first | omega | (simp only [AL, List.length_map]; omega))) only [AR, AL, ifT, ifF, take_all, List.length_cons, List.length_nil, Int.reduceToNat, Int.reducePow, Nat.reducePow, j0, j4, p4, j10, p10, j59, j60, j61, j11, jP, g1, hlen2, rvC, N0, hrl]) | (refine wk_intro (by kernel_rfl) ?_) | (refine vp_draw (id := 12) (l := [1]) (by kernel_rfl) ?_) | (refine vf_of (by first | exact mu) ?_))
      exact ⟨⟨i + 1, rfl, by omega, .inr ⟨by omega, rfl, by first | exact hsn | exact congrArg some hsn⟩⟩, by omega⟩
set_option maxHeartbeats 1000000 in
theorem ref19_fit (h : RowC xs l 1) (h2 : RowC ys m 1) (hl : l.length ≤ 12) (hm : m.length ≤ 12) :
    Go.Ev.Fn CX 54 [testV kind (.sl l.length xs) (.sl m.length ys) (.sl tn tc) sm nm dm ss ns ds k n] (resV (fitR l m)) := by
  have r0 := ref19_zero
  have hlen := row_len h
  have hlen2 := row_len h2
  unfold fitR
  by_cases hlm : l.length = m.length
  rotate_left
  · rw [if_pos hlm]
    clear h h2
    refine Go.Ev.Fn.intro (fn := Tryz.f54) (body := (Tryz.f54).body.get!) (by kernel_rfl) (by kernel_rfl) (by kernel_rfl) (fun _ => rfl) (Nat.le_of_ble_eq_true (by kernel_rfl)) ?_; unfold Tryz.f54; simp only [Option.get!_some]
    repeat (first | (simp only [go_sem, Nat.reduceEqDiff, Nat.reduceAdd, Nat.reduceSub, Nat.reduceMul, Nat.reduceLeDiff, Nat.reduceLT, reduceIte, reduceCtorEq, Nat.succ_ne_zero, elemsC, Int.reduceToNat, Nat.reducePow]) | (simp (disch := (first | omega | (simp only [AL, List.length_map]; omega))) only [AR, AL, ifT, ifF, take_all, List.length_cons, List.length_nil, Int.reduceToNat, Int.reducePow, Nat.reducePow]) | (refine wk_intro (by kernel_rfl) ?_) | (refine vp_draw (id := 6) (l := []) (by kernel_rfl) ?_) | (refine vp_draw (id := 11) (l := [58]) (by kernel_rfl) ?_) | (refine vp_draw (id := 16) (l := []) (by kernel_rfl) ?_) | (refine vp_draw (id := 17) (l := []) (by kernel_rfl) ?_) | (refine vf_of (by first | exact r0) ?_))
  rw [if_neg (not_not_intro hlm)]
  by_cases hbad : (List.range l.length).any (badF l m) = true
  · rw [if_pos hbad]
    obtain ⟨j, hj, hbj⟩ := List.any_eq_true.1 hbad
    rw [List.mem_range] at hj
    clear hbad
    refine Go.Ev.Fn.intro (fn := Tryz.f54) (body := (Tryz.f54).body.get!) (by kernel_rfl) (by kernel_rfl) (by kernel_rfl) (fun _ => rfl) (Nat.le_of_ble_eq_true (by kernel_rfl)) ?_; unfold Tryz.f54; simp only [Option.get!_some]
    repeat (first | (simp only [go_sem, Nat.reduceEqDiff, Nat.reduceAdd, Nat.reduceSub, Nat.reduceMul, Nat.reduceLeDiff, Nat.reduceLT, reduceIte, reduceCtorEq, Nat.succ_ne_zero, elemsC, Int.reduceToNat, Nat.reducePow]) | (simp (disch := (first | omega | (simp only [AL, List.length_map]; omega))) only [AR, AL, ifT, ifF, take_all, List.length_cons, List.length_nil, Int.reduceToNat, Int.reducePow, Nat.reducePow]) | (refine wk_intro (by kernel_rfl) ?_) | (refine vp_draw (id := 6) (l := []) (by kernel_rfl) ?_) | (refine vp_draw (id := 11) (l := [58]) (by kernel_rfl) ?_) | (refine vp_draw (id := 16) (l := []) (by kernel_rfl) ?_) | (refine vp_draw (id := 17) (l := []) (by kernel_rfl) ?_))
    refine vp_loop_inv (fun s => s.tmp 1 = .ptr 1 0 0 ∧ s.obj 1 0 = some [.int .i64 kind, .sl l.length xs, .sl m.length ys, .sl tn tc, .bool sm, natV nm, natV dm, .bool ss, natV ns, natV ds, .int .i64 k, .int .i64 n] ∧ s.tmp 2 = .ptr 2 0 0 ∧ s.obj 2 0 = some [.bool false, .sl 0 [], .sl 0 []] ∧
        ∃ i : Nat, s.tmp 5 = .sv (.int .i64 (i : Int)) ∧ i ≤ l.length ∧ i ≤ j)
      (fun s => match s.tmp 5 with | .sv (.int _ i) => l.length - i.toNat | _ => 0) ⟨rfl, rfl, rfl, rfl, 0, rfl, by omega, by omega⟩ ?_
    rintro s2 ⟨i1, o1, i2, o2, i, i5, hi, hij⟩
    have hil : i < l.length := by omega
    obtain ⟨s, n', d, rest, g1, hA⟩ := row_at (i := i) h (by omega)
    obtain ⟨s', n'', d', rest', g2, hB⟩ := row_at (i := i) h2 (by omega)
    have b1 := ref2_Cmp hA (RatA_rv (szR_zero (L := 1) (by omega))) (by omega) (by omega) (by omega)
    have b2 := ref2_Cmp hB (RatA_rv (szR_zero (L := 1) (by omega))) (by omega) (by omega) (by omega)
    have hbi : i = j → (decide (l.getD i 0 < 0) || decide (m.getD i 0 ≤ 0)) = true := by
      rintro rfl
      exact hbj
    generalize l.getD i 0 = x at *
    generalize m.getD i 0 = y at *
    have e1 : decide (cmpR x 0 < 0) = decide (x < 0) := cmpR_lt
    have e2 : decide (cmpR y 0 ≤ 0) = decide (y ≤ 0) := cmpR_le
    clear h h2 hA hB hbj
    by_cases cx : x < 0
    · rw [decide_eq_true cx] at e1
      clear hbi cx
      repeat (first | (simp only [go_sem, Nat.reduceEqDiff, Nat.reduceAdd, Nat.reduceSub, Nat.reduceMul, Nat.reduceLeDiff, Nat.reduceLT, reduceIte, reduceCtorEq, Nat.succ_ne_zero, elemsC, Int.reduceToNat, Nat.reducePow, i1, o1, i2, o2, i5, g1, g2, hlen, hlen2, e1]) | (simp (disch := (first | omega | (simp only [AL, List.length_map]; omega))) only [AR, AL, ifT, ifF, take_all, List.length_cons, List.length_nil, Int.reduceToNat, Int.reducePow, Nat.reducePow, i1, o1, i2, o2, i5, g1, g2, hlen, hlen2, e1]) | (refine wk_intro (by kernel_rfl) ?_) | (refine vp_draw (id := 6) (l := []) (by kernel_rfl) ?_) | (refine vp_draw (id := 11) (l := [58]) (by kernel_rfl) ?_) | (refine vp_draw (id := 16) (l := []) (by kernel_rfl) ?_) | (refine vp_draw (id := 17) (l := []) (by kernel_rfl) ?_) | (refine vf_of (by first | exact r0 | exact b1) ?_))
    rw [decide_eq_false cx] at e1 hbi
    by_cases cy : y ≤ 0
    · rw [decide_eq_true cy] at e2
      clear hbi cx cy
      repeat (first | (simp only [go_sem, Nat.reduceEqDiff, Nat.reduceAdd, Nat.reduceSub, Nat.reduceMul, Nat.reduceLeDiff, Nat.reduceLT, reduceIte, reduceCtorEq, Nat.succ_ne_zero, elemsC, Int.reduceToNat, Nat.reducePow, i1, o1, i2, o2, i5, g1, g2, hlen, hlen2, e1, e2]) | (simp (disch := (first | omega | (simp only [AL, List.length_map]; omega))) only [AR, AL, ifT, ifF, take_all, List.length_cons, List.length_nil, Int.reduceToNat, Int.reducePow, Nat.reducePow, i1, o1, i2, o2, i5, g1, g2, hlen, hlen2, e1, e2]) | (refine wk_intro (by kernel_rfl) ?_) | (refine vp_draw (id := 6) (l := []) (by kernel_rfl) ?_) | (refine vp_draw (id := 11) (l := [58]) (by kernel_rfl) ?_) | (refine vp_draw (id := 16) (l := []) (by kernel_rfl) ?_) | (refine vp_draw (id := 17) (l := []) (by kernel_rfl) ?_) | (refine vf_of (by first | exact r0 | exact b1 | exact b2) ?_))
    rw [decide_eq_false cy] at e2 hbi
    have hne : i ≠ j := fun e => by have := hbi e; cases this
    clear hbi cx cy
    repeat (first | (simp only [go_sem, Nat.reduceEqDiff, Nat.reduceAdd, Nat.reduceSub, Nat.reduceMul, Nat.reduceLeDiff, Nat.reduceLT, reduceIte, reduceCtorEq, Nat.succ_ne_zero, elemsC, Int.reduceToNat, Nat.reducePow, i1, o1, i2, o2, i5, g1, g2, hlen, hlen2, e1, e2]) | (simp (disch := (first | omega | (simp only [AL, List.length_map]; omega))) only [AR, AL, ifT, ifF, take_all, List.length_cons, List.length_nil, Int.reduceToNat, Int.reducePow, Nat.reducePow, i1, o1, i2, o2, i5, g1, g2, hlen, hlen2, e1, e2]) | (refine wk_intro (by kernel_rfl) ?_) | (refine vp_draw (id := 6) (l := []) (by kernel_rfl) ?_) | (refine vp_draw (id := 11) (l := [58]) (by kernel_rfl) ?_) | (refine vp_draw (id := 16) (l := []) (by kernel_rfl) ?_) | (refine vp_draw (id := 17) (l := []) (by kernel_rfl) ?_) | (refine vf_of (by first | exact r0 | exact b1 | exact b2) ?_))
    exact ⟨⟨i + 1, rfl, by omega, by omega⟩, by omega⟩
  rw [if_neg hbad]
  have hgood : ∀ i, i < l.length → (decide (l.getD i 0 < 0) || decide (m.getD i 0 ≤ 0)) = false := by
    intro i hi
    have := fun e => hbad (List.any_eq_true.2 ⟨i, List.mem_range.2 hi, e⟩)
    exact Bool.eq_false_iff.2 this
  clear hbad
  have s1 := ref17_Sum h (by omega) (by omega) hl
  have s2 := ref17_Sum h2 (by omega) (by omega) hm
  have zl := sz_sum12 (by omega) (row_sz (by omega) h) hl
  have zm := sz_sum12 (by omega) (row_sz (by omega) h2) hm
  have zz := ref2_Zero (RatA_rv zl) (by omega) (by omega)
  have ov := ref19_by (RatA_rv zl) (RatA_rv zm) (by omega) (by omega) (by omega)
  have zo := szR_div zl zm (by omega) (by omega)
  have hwz : ∀ x ∈ wantR l m, szR x 51 := by
    intro x hx
    obtain ⟨y, hy, rfl⟩ := List.mem_map.1 hx
    exact szR_mono (szR_mul zo (row_sz (by omega) h2 y hy) (by omega)) (by omega)
  have hwl := want_len l m
  have hwa := fun {i : Nat} (hi : i < m.length) => want_at l m hi
  have hml := missL_len (l := l) (m := wantR l m) (by omega)
  have hmz := missL_sz (row_sz (by omega) h) hwz (by omega) (by omega)
  have hma := fun {i : Nat} (hi : i < l.length) => missL_at (l := l) (m := wantR l m) (by omega) hi
  have hst := fun {i : Nat} (hi : i < l.length) => sumR_take (missL l (wantR l m)) (i := i) (by omega)
  have zt := fun i => sz_take12 (by omega) hmz (by omega) i
  refine Go.Ev.Fn.intro (fn := Tryz.f54) (body := (Tryz.f54).body.get!) (by kernel_rfl) (by kernel_rfl) (by kernel_rfl) (fun _ => rfl) (Nat.le_of_ble_eq_true (by kernel_rfl)) ?_; unfold Tryz.f54; simp only [Option.get!_some]
  repeat (first | (simp only [go_sem, Nat.reduceEqDiff, Nat.reduceAdd, Nat.reduceSub, Nat.reduceMul, Nat.reduceLeDiff, Nat.reduceLT, reduceIte, reduceCtorEq, Nat.succ_ne_zero, elemsC, Int.reduceToNat, Nat.reducePow]) | (simp (disch := (first | omega | (simp only [AL, List.length_map]; omega))) only [AR, AL, ifT, ifF, take_all, List.length_cons, List.length_nil, Int.reduceToNat, Int.reducePow, Nat.reducePow]) | (refine wk_intro (by kernel_rfl) ?_) | (refine vp_draw (id := 6) (l := []) (by kernel_rfl) ?_) | (refine vp_draw (id := 11) (l := [58]) (by kernel_rfl) ?_) | (refine vp_draw (id := 16) (l := []) (by kernel_rfl) ?_) | (refine vp_draw (id := 17) (l := []) (by kernel_rfl) ?_))
  refine vp_loop_inv (fun s => s.tmp 1 = .ptr 1 0 0 ∧ s.obj 1 0 = some [.int .i64 kind, .sl l.length xs, .sl m.length ys, .sl tn tc, .bool sm, natV nm, natV dm, .bool ss, natV ns, natV ds, .int .i64 k, .int .i64 n] ∧ s.tmp 2 = .ptr 2 0 0 ∧ s.obj 2 0 = some [.bool false, .sl 0 [], .sl 0 []] ∧ s.tmp 58 = .undef ∧
      ∃ i : Nat, s.tmp 5 = .sv (.int .i64 (i : Int)) ∧ i ≤ l.length)
    (fun s => match s.tmp 5 with | .sv (.int _ i) => l.length - i.toNat | _ => 0) ⟨rfl, rfl, rfl, rfl, rfl, 0, rfl, by omega⟩ ?_
  rintro s3 ⟨i1, o1, i2, o2, i58, i, i5, hi⟩
  by_cases hend : i = l.length
  rotate_left
  · obtain ⟨s, n', d, rest, g1, hA⟩ := row_at (i := i) h (by omega)
    obtain ⟨s', n'', d', rest', g2, hB⟩ := row_at (i := i) h2 (by omega)
    have b1 := ref2_Cmp hA (RatA_rv (szR_zero (L := 1) (by omega))) (by omega) (by omega) (by omega)
    have b2 := ref2_Cmp hB (RatA_rv (szR_zero (L := 1) (by omega))) (by omega) (by omega) (by omega)
    have hgi := hgood i (by omega)
    generalize l.getD i 0 = x at *
    generalize m.getD i 0 = y at *
    have e1 : decide (cmpR x 0 < 0) = decide (x < 0) := cmpR_lt
    have e2 : decide (cmpR y 0 ≤ 0) = decide (y ≤ 0) := cmpR_le
    simp only [Bool.or_eq_false_iff] at hgi
    rw [hgi.1] at e1
    rw [hgi.2] at e2
    clear h h2 hA hB hgood hgi s1 s2 zl zm zz ov zo hwz hwa hml hmz hma hst zt
    repeat (first | (simp only [go_sem, Nat.reduceEqDiff, Nat.reduceAdd, Nat.reduceSub, Nat.reduceMul, Nat.reduceLeDiff, Nat.reduceLT, reduceIte, reduceCtorEq, Nat.succ_ne_zero, elemsC, Int.reduceToNat, Nat.reducePow, i1, o1, i2, o2, i58, i5, g1, g2, hlen, hlen2, e1, e2]) | (simp (disch := (first | omega | (simp only [AL, List.length_map]; omega))) only [AR, AL, ifT, ifF, take_all, List.length_cons, List.length_nil, Int.reduceToNat, Int.reducePow, Nat.reducePow, i1, o1, i2, o2, i58, i5, g1, g2, hlen, hlen2, e1, e2]) | (refine wk_intro (by kernel_rfl) ?_) | (refine vp_draw (id := 6) (l := []) (by kernel_rfl) ?_) | (refine vp_draw (id := 11) (l := [58]) (by kernel_rfl) ?_) | (refine vp_draw (id := 16) (l := []) (by kernel_rfl) ?_) | (refine vp_draw (id := 17) (l := []) (by kernel_rfl) ?_) | (refine vf_of (by first | exact r0 | exact b1 | exact b2) ?_))
    exact ⟨⟨i + 1, rfl, by omega⟩, by omega⟩
  subst hend
  clear hgood
  repeat (first | (simp only [go_sem, Nat.reduceEqDiff, Nat.reduceAdd, Nat.reduceSub, Nat.reduceMul, Nat.reduceLeDiff, Nat.reduceLT, reduceIte, reduceCtorEq, Nat.succ_ne_zero, elemsC, Int.reduceToNat, Nat.reducePow, i1, o1, i2, o2, i58, i5]) | (simp (disch := (first | omega | (simp only [AL, List.length_map]; omega))) only [AR, AL, ifT, ifF, take_all, List.length_cons, List.length_nil, Int.reduceToNat, Int.reducePow, Nat.reducePow, i1, o1, i2, o2, i58, i5]) | (refine wk_intro (by kernel_rfl) ?_) | (refine vp_draw (id := 6) (l := []) (by kernel_rfl) ?_) | (refine vp_draw (id := 11) (l := [58]) (by kernel_rfl) ?_) | (refine vp_draw (id := 16) (l := []) (by kernel_rfl) ?_) | (refine vp_draw (id := 17) (l := []) (by kernel_rfl) ?_) | (refine vf_of (by first | exact s1) ?_))
  by_cases c5 : l.length < 2
  · rw [if_pos (.inl c5)]
    clear h h2 zl zm zo hwz hwa hml hmz hma hst zt
    repeat (first | (simp only [go_sem, Nat.reduceEqDiff, Nat.reduceAdd, Nat.reduceSub, Nat.reduceMul, Nat.reduceLeDiff, Nat.reduceLT, reduceIte, reduceCtorEq, Nat.succ_ne_zero, elemsC, Int.reduceToNat, Nat.reducePow, i1, o1, i2, o2, i58, i5]) | (simp (disch := (first | omega | (simp only [AL, List.length_map]; omega))) only [AR, AL, ifT, ifF, take_all, List.length_cons, List.length_nil, Int.reduceToNat, Int.reducePow, Nat.reducePow, i1, o1, i2, o2, i58, i5]) | (refine wk_intro (by kernel_rfl) ?_) | (refine vp_draw (id := 6) (l := []) (by kernel_rfl) ?_) | (refine vp_draw (id := 11) (l := [58]) (by kernel_rfl) ?_) | (refine vp_draw (id := 16) (l := []) (by kernel_rfl) ?_) | (refine vp_draw (id := 17) (l := []) (by kernel_rfl) ?_) | (refine vf_of (by first | exact r0) ?_))
  by_cases c6 : sumR l = 0
  · rw [if_pos (.inr c6)]
    rw [decide_eq_true c6] at zz
    clear h h2 zl zm zo hwz hwa hml hmz hma hst zt c6
    repeat (first | (simp only [go_sem, Nat.reduceEqDiff, Nat.reduceAdd, Nat.reduceSub, Nat.reduceMul, Nat.reduceLeDiff, Nat.reduceLT, reduceIte, reduceCtorEq, Nat.succ_ne_zero, elemsC, Int.reduceToNat, Nat.reducePow, i1, o1, i2, o2, i58, i5]) | (simp (disch := (first | omega | (simp only [AL, List.length_map]; omega))) only [AR, AL, ifT, ifF, take_all, List.length_cons, List.length_nil, Int.reduceToNat, Int.reducePow, Nat.reducePow, i1, o1, i2, o2, i58, i5]) | (refine wk_intro (by kernel_rfl) ?_) | (refine vp_draw (id := 6) (l := []) (by kernel_rfl) ?_) | (refine vp_draw (id := 11) (l := [58]) (by kernel_rfl) ?_) | (refine vp_draw (id := 16) (l := []) (by kernel_rfl) ?_) | (refine vp_draw (id := 17) (l := []) (by kernel_rfl) ?_) | (refine vf_of (by first | exact zz | exact r0) ?_))
  rw [if_neg (fun h => h.elim c5 c6)]
  rw [decide_eq_false c6] at zz
  clear c6
  have hra := fun {i : Nat} (hi : i < l.length) => row_at (i := i) h hi
  have hrb := fun {i : Nat} (hi : i < m.length) => row_at (i := i) h2 hi
  generalize hE : sumR l / sumR m = e at *
  have mul := fun {y : Rat} {s : Bool} {n d : List Nat} (hy : RatA (ratV s n d) y 1) => ref2_Mul (RatA_rv zo) hy (by omega) (by omega) (by omega)
  have hoff := fun {x y : Rat} {s : Bool} {n d : List Nat} (hx : RatA (ratV s n d) x 1) (hy : szR y 51) => ref19_off hx (RatA_rv hy) (by omega) (by omega) (by omega)
  have hzw : ∀ i, i < m.length → szR ((wantR l m).getD i 0) 51 := fun i hi => hwz _ (getD_mem (by omega))
  have hmzi : ∀ i, i < l.length → szR ((missL l (wantR l m)).getD i 0) 157 := fun i hi => hmz _ (getD_mem (by omega))
  have hall : sumR ((missL l (wantR l m)).take l.length) = missR l (wantR l m) := by rw [List.take_of_length_le (by omega)]; rfl
  have hsum0 : sumR ((missL l (wantR l m)).take 0) = 0 := rfl
  generalize hS : (fun i => sumR ((missL l (wantR l m)).take i)) = S at *
  have hSi : ∀ i, sumR ((missL l (wantR l m)).take i) = S i := fun i => by rw [← hS]
  simp only [hSi] at zt hst hall hsum0
  generalize missR l (wantR l m) = q at *
  clear h h2 zl zm hwz hE hmz hS hSi
  repeat (first | (simp only [go_sem, Nat.reduceEqDiff, Nat.reduceAdd, Nat.reduceSub, Nat.reduceMul, Nat.reduceLeDiff, Nat.reduceLT, reduceIte, reduceCtorEq, Nat.succ_ne_zero, elemsC, Int.reduceToNat, Nat.reducePow, i1, o1, i2, o2, i58, i5]) | (simp (disch := (first | omega | (simp only [AL, List.length_map]; omega))) only [AR, AL, ifT, ifF, take_all, List.length_cons, List.length_nil, Int.reduceToNat, Int.reducePow, Nat.reducePow, i1, o1, i2, o2, i58, i5]) | (refine wk_intro (by kernel_rfl) ?_) | (refine vp_draw (id := 6) (l := []) (by kernel_rfl) ?_) | (refine vp_draw (id := 11) (l := [58]) (by kernel_rfl) ?_) | (refine vp_draw (id := 16) (l := []) (by kernel_rfl) ?_) | (refine vp_draw (id := 17) (l := []) (by kernel_rfl) ?_) | (refine vf_of (by first | exact zz | exact s2 | exact ov | exact r0) ?_))
  refine vp_loop_inv (fun s => s.tmp 1 = .ptr 1 0 0 ∧ s.obj 1 0 = some [.int .i64 kind, .sl l.length xs, .sl m.length ys, .sl tn tc, .bool sm, natV nm, natV dm, .bool ss, natV ns, natV ds, .int .i64 k, .int .i64 n] ∧ s.tmp 2 = .ptr 2 0 0 ∧ s.obj 2 0 = some [.bool false, .sl 0 [], .sl 0 []] ∧
      s.tmp 7 = .ptr 7 (s3.gen 7) 0 ∧ s.obj 7 (s3.gen 7) = some (rvC e) ∧ s.tmp 8 = .ptr 8 (s3.gen 8) 0 ∧
      ∃ i : Nat, s.tmp 9 = .sv (.int .i64 (i : Int)) ∧ i ≤ l.length ∧ s.obj 8 (s3.gen 8) = some (rvC (S i)))
    (fun s => match s.tmp 9 with | .sv (.int _ i) => l.length - i.toNat | _ => 0) ⟨i1, ?_, i2, ?_, rfl, ?_, rfl, 0, rfl, by omega, ?_⟩ ?_
  · simp only [go_sem, Nat.reduceEqDiff, Nat.reduceAdd, Nat.reduceSub, Nat.reduceMul, Nat.reduceLeDiff, Nat.reduceLT, reduceIte, reduceCtorEq, Nat.succ_ne_zero, elemsC, Int.reduceToNat, Nat.reducePow, o1]
  · simp only [go_sem, Nat.reduceEqDiff, Nat.reduceAdd, Nat.reduceSub, Nat.reduceMul, Nat.reduceLeDiff, Nat.reduceLT, reduceIte, reduceCtorEq, Nat.succ_ne_zero, elemsC, Int.reduceToNat, Nat.reducePow, o2]
  · simp only [go_sem, Nat.reduceEqDiff, Nat.reduceAdd, Nat.reduceSub, Nat.reduceMul, Nat.reduceLeDiff, Nat.reduceLT, reduceIte, reduceCtorEq, Nat.succ_ne_zero, elemsC, Int.reduceToNat, Nat.reducePow, rvC]
  · simp only [go_sem, Nat.reduceEqDiff, Nat.reduceAdd, Nat.reduceSub, Nat.reduceMul, Nat.reduceLeDiff, Nat.reduceLT, reduceIte, reduceCtorEq, Nat.succ_ne_zero, elemsC, Int.reduceToNat, Nat.reducePow, rvC, hsum0]
  rintro s4 ⟨j1, p1, j2, p2, j7, p7, j8, i, j9, hi, p8⟩
  by_cases hend : i = l.length
  · subst hend
    rw [hall] at p8
    clear hra hrb mul hoff hst hma hwa
    repeat (first | (simp only [go_sem, Nat.reduceEqDiff, Nat.reduceAdd, Nat.reduceSub, Nat.reduceMul, Nat.reduceLeDiff, Nat.reduceLT, reduceIte, reduceCtorEq, Nat.succ_ne_zero, elemsC, Int.reduceToNat, Nat.reducePow, j1, p1, j2, p2, j7, p7, j8, j9, p8, rvC]) | (simp (disch := (first | omega | (simp only [AL, List.length_map]; omega))) only [AR, AL, ifT, ifF, take_all, List.length_cons, List.length_nil, Int.reduceToNat, Int.reducePow, Nat.reducePow, j1, p1, j2, p2, j7, p7, j8, j9, p8, rvC]) | (refine wk_intro (by kernel_rfl) ?_) | (refine vp_draw (id := 6) (l := []) (by kernel_rfl) ?_) | (refine vp_draw (id := 11) (l := [58]) (by kernel_rfl) ?_) | (refine vp_draw (id := 16) (l := []) (by kernel_rfl) ?_) | (refine vp_draw (id := 17) (l := []) (by kernel_rfl) ?_))
  · obtain ⟨s, n', d, rest, g1, hA⟩ := hra (i := i) (by omega)
    obtain ⟨s', n'', d', rest', g2, hB⟩ := hrb (i := i) (by omega)
    have mu := mul hB
    have hg := hwa (i := i) (by omega)
    have zw := hzw i (by omega)
    have zmi := hmzi i (by omega)
    have hmi := hma (i := i) (by omega)
    have hs := hst (i := i) (by omega)
    rw [← hg] at mu
    generalize (wantR l m).getD i 0 = w at *
    have of := hoff hA zw
    rw [← hmi] at of
    generalize (missL l (wantR l m)).getD i 0 = v at *
    have ad := ref2_Add (RatA_rv (zt i)) (RatA_rv zmi) (by omega) (by omega) (by omega)
    rw [← hs] at ad
    clear hra hrb mul hoff hwa hA hB s1 s2 zz ov zo hg zw zmi hmi hs hzw hmzi hma hst zt
    repeat (first | (simp only [go_sem, Nat.reduceEqDiff, Nat.reduceAdd, Nat.reduceSub, Nat.reduceMul, Nat.reduceLeDiff, Nat.reduceLT, reduceIte, reduceCtorEq, Nat.succ_ne_zero, elemsC, Int.reduceToNat, Nat.reducePow, j1, p1, j2, p2, j7, p7, j8, j9, p8, g1, g2, hlen, hlen2, rvC]) | (simp (disch := (first | omega | (simp only [AL, List.length_map]; omega))) only [AR, AL, ifT, ifF, take_all, List.length_cons, List.length_nil, Int.reduceToNat, Int.reducePow, Nat.reducePow, j1, p1, j2, p2, j7, p7, j8, j9, p8, g1, g2, hlen, hlen2, rvC]) | (refine wk_intro (by kernel_rfl) ?_) | (refine vp_draw (id := 6) (l := []) (by kernel_rfl) ?_) | (refine vp_draw (id := 11) (l := [58]) (by kernel_rfl) ?_) | (refine vp_draw (id := 16) (l := []) (by kernel_rfl) ?_) | (refine vp_draw (id := 17) (l := []) (by kernel_rfl) ?_) | (refine vf_of (by first | exact mu | exact of | exact ad) ?_))
    exact ⟨⟨i + 1, rfl, by omega, rfl⟩, by omega⟩
end
end Go.Proofs.YtdnmhnjblgkjaaaGreat

/- Gamma at halves, ways to choose: plain mathematics, no program. -/
namespace Go.Ev
/-- The product of so many numbers, from one on, each so much more. -/
def prodN (a by' : Nat) : Nat → Nat
  | 0 => 1
  | c + 1 => prodN a by' c * (a + c * by')
theorem prodN_pos {a b : Nat} (ha : 0 < a) : ∀ c, 0 < prodN a b c := by
  intro c
  induction c with
  | zero => exact Nat.one_pos
  | succ c ih => exact Nat.mul_pos ih (by omega)
theorem prodN_len {a b c : Nat} (h : ∀ i, i < c → a + i * b < 4294967296) : (lim (prodN a b c)).length ≤ c + 1 := by
  induction c with
  | zero => exact lim_len_one (show 1 < 4294967296 by decide)
  | succ c ih =>
    have h1 := ih fun i hi => h i (by omega)
    have h2 := lim_len_mul (a := prodN a b c) (b := a + c * b)
    have h3 := lim_len_one (h c (by omega))
    show (lim (prodN a b c * (a + c * b))).length ≤ _
    omega
/-- From the front. -/
theorem prodN_front (a b : Nat) : ∀ c, prodN a b (c + 1) = a * prodN (a + b) b c := by
  intro c
  induction c with
  | zero => simp [prodN]
  | succ c ih =>
    show prodN a b (c + 1) * (a + (c + 1) * b) = a * (prodN (a + b) b c * (a + b + c * b))
    rw [ih, Nat.mul_assoc, Nat.add_mul c 1 b, Nat.one_mul, Nat.add_comm (c * b) b, ← Nat.add_assoc]
/-- Gamma of n by 2, but for the root of pi. -/
def gam2 (n : Nat) : Rat := if n % 2 = 0 then (prodN 2 1 (n / 2 - 2) : Nat) else mkRat (prodN 3 2 ((n - 3) / 2) : Nat) (2 ^ (n / 2))
theorem gam2_step {n : Nat} (hn : 1 ≤ n) : gam2 (n + 2) = gam2 n * mkRat n 2 := by
  unfold gam2
  have e1 : (n + 2) % 2 = n % 2 := by omega
  rw [e1]
  split
  · rename_i h
    obtain ⟨m, rfl⟩ : ∃ m, n = 2 * (m + 1) := ⟨n / 2 - 1, by omega⟩
    have e2 : ((prodN 2 1 ((2 * (m + 1) + 2) / 2 - 2) : Nat)) = prodN 2 1 (2 * (m + 1) / 2 - 2) * (m + 1) := by
      rcases Nat.eq_zero_or_pos m with rfl | h0
      · rfl
      · obtain ⟨k, rfl⟩ : ∃ k, m = k + 1 := ⟨m - 1, by omega⟩
        rw [show (2 * (k + 1 + 1) + 2) / 2 - 2 = k + 1 by omega, show 2 * (k + 1 + 1) / 2 - 2 = k by omega]
        show prodN 2 1 k * (2 + k * 1) = _
        rw [Nat.mul_one, Nat.add_comm 2 k]
    have e3 : mkRat ((2 * (m + 1) : Nat) : Int) 2 = ((m + 1 : Nat) : Rat) := by
      rw [Rat.mkRat_eq_div]
      push_cast
      grind
    rw [e2, e3, Rat.natCast_mul]
  · rename_i h
    obtain ⟨m, rfl⟩ : ∃ m, n = 2 * m + 1 := ⟨n / 2, by omega⟩
    rw [Rat.mkRat_mul_mkRat]
    have e2 : prodN 3 2 ((2 * m + 1 + 2 - 3) / 2) = prodN 3 2 ((2 * m + 1 - 3) / 2) * (2 * m + 1) := by
      rcases Nat.eq_zero_or_pos m with rfl | h0
      · rfl
      · obtain ⟨k, rfl⟩ : ∃ k, m = k + 1 := ⟨m - 1, by omega⟩
        rw [show (2 * (k + 1) + 1 + 2 - 3) / 2 = k + 1 by omega, show (2 * (k + 1) + 1 - 3) / 2 = k by omega]
        show prodN 3 2 k * (3 + k * 2) = _
        congr 1
        omega
    rw [e2, Int.natCast_mul, show (2 * m + 1 + 2) / 2 = (2 * m + 1) / 2 + 1 by omega, Nat.pow_succ]
/-- Ways to choose so many out of so many others and these. -/
def cc : Nat → Nat → Nat
  | 0, _ => 1
  | _ + 1, 0 => 1
  | m + 1, k + 1 => cc m (k + 1) + cc (m + 1) k
theorem cc_zero (m : Nat) : cc m 0 = 1 := by cases m <;> simp [cc]
theorem cc_succ (m k : Nat) : cc (m + 1) (k + 1) = cc m (k + 1) + cc (m + 1) k := by rw [cc]
theorem cc_symm : ∀ m k, cc m k = cc k m := by
  intro m
  induction m with
  | zero => intro k; rw [cc_zero]; simp [cc]
  | succ m ih =>
    intro k
    induction k with
    | zero => rw [cc_zero]; simp [cc]
    | succ k ihk =>
      rw [cc_succ, cc_succ, ih (k + 1), ihk, Nat.add_comm]
def facN (k : Nat) : Nat := prodN 1 1 k
theorem facN_succ (k : Nat) : facN (k + 1) = facN k * (k + 1) := by
  show prodN 1 1 k * (1 + k * 1) = _
  rw [Nat.mul_one, Nat.add_comm 1 k]
  rfl
theorem facN_pos (k : Nat) : 0 < facN k := prodN_pos (by decide) k
theorem facN_two (k : Nat) : prodN 2 1 (k - 1) = facN k := by
  cases k with
  | zero => rfl
  | succ k =>
    rw [Nat.add_sub_cancel]
    show _ = prodN 1 1 (k + 1)
    rw [prodN_front 1 1 k, Nat.one_mul]
theorem prod_cc : ∀ m k, prodN (m + 1) 1 k = cc m k * facN k := by
  intro m
  induction m with
  | zero => intro k; simp [cc, facN]
  | succ m ih =>
    intro k
    induction k with
    | zero => rw [cc_zero]; rfl
    | succ k ihk =>
      have h1 := ih (k + 1)
      have h2 := prodN_front (m + 1) 1 k
      rw [cc_succ, Nat.add_mul, ← h1, h2, facN_succ, ← Nat.mul_assoc, ← ihk]
      show prodN (m + 1 + 1) 1 k * (m + 1 + 1 + k * 1) = _
      rw [Nat.mul_comm (m + 1), ← Nat.mul_add]
      congr 1
      omega
theorem cc_step (m k : Nat) : cc m (k + 1) * (k + 1) = cc m k * (m + (k + 1)) := by
  have h1 := prod_cc m (k + 1)
  have h2 := prod_cc m k
  have h3 : prodN (m + 1) 1 (k + 1) = prodN (m + 1) 1 k * (m + 1 + k * 1) := rfl
  rw [h3, h2, facN_succ] at h1
  have h4 := facN_pos k
  refine Nat.eq_of_mul_eq_mul_right h4 ?_
  rw [Nat.mul_assoc, Nat.mul_comm (k + 1), ← h1, Nat.mul_right_comm]
  congr 1
  congr 1
  omega
theorem cc_pos : ∀ m k, 0 < cc m k := by
  intro m
  induction m with
  | zero => intro k; simp [cc]
  | succ m ih =>
    intro k
    induction k with
    | zero => simp [cc]
    | succ k ihk =>
      rw [cc_succ]
      omega
theorem cc_le {m k : Nat} : cc m k ≤ prodN (m + 1) 1 k := by
  rw [prod_cc]
  exact Nat.le_mul_of_pos_right _ (facN_pos k)
/-- How many ways there are to choose k of n; none, where it makes no sense. -/
def chR (n k : Int) : Nat := if 0 ≤ n ∧ n ≤ 512 ∧ 0 ≤ k ∧ k ≤ n then cc (n - k).toNat k.toNat else 0
theorem mk_whole (s : Bool) (a b : Nat) (hb : 0 < b) : mkRat (sgn s (a * b)) b = mkRat (sgn s a) 1 := by
  have e : sgn s (a * b) = sgn s a * (b : Int) := by
    unfold sgn
    split
    · rw [Int.natCast_mul, Int.neg_mul]
    · rw [Int.natCast_mul]
  rw [e]
  have := Rat.mkRat_mul_right (n := sgn s a) (d := 1) (a := b) (by omega)
  rw [Nat.one_mul] at this
  exact this
theorem gam2_pos {n : Nat} : gam2 n ≠ 0 := by
  unfold gam2
  split
  · have := prodN_pos (a := 2) (b := 1) (by decide) (n / 2 - 2)
    intro h
    have h2 : prodN 2 1 (n / 2 - 2) = 0 := by exact_mod_cast h
    omega
  · have := prodN_pos (a := 3) (b := 2) (by decide) ((n - 3) / 2)
    intro h
    rw [Rat.mkRat_eq_zero (Nat.ne_of_gt (Nat.pow_pos (by decide)))] at h
    omega
/-- Beta of halves, but for how often pi. -/
def beta2 (a b : Nat) : Rat := gam2 a * gam2 b / gam2 (a + b)
theorem beta2_symm (a b : Nat) : beta2 a b = beta2 b a := by unfold beta2; rw [Rat.mul_comm, Nat.add_comm]
theorem beta2_mul (a b : Nat) : beta2 a b * gam2 (a + b) = gam2 a * gam2 b := by
  unfold beta2
  exact Rat.div_mul_cancel gam2_pos
end Go.Ev

/- Ways times chances: plain mathematics, no program. -/
namespace Go.Ev
/-- Of n tries, how many parts just j successes have; p: a success's parts, f: a failure's. -/
def termN (p f n j : Nat) : Nat := cc (n - j) j * p ^ j * f ^ (n - j)
/-- At most k successes: so many of the first. -/
def sumN (p f n : Nat) : Nat → Nat
  | 0 => 0
  | k + 1 => sumN p f n k + termN p f n k
theorem cc_move (m j : Nat) : cc (m + 1) j * (m + 1) = cc m (j + 1) * (j + 1) := by
  rw [cc_step, cc_symm (m + 1) j, cc_step, cc_symm j m]
  congr 1
  omega
theorem ways_step {p n j : Nat} (h : j < n) : cc (n - j) j * p ^ j * p * (n - j) / (j + 1) = cc (n - (j + 1)) (j + 1) * p ^ (j + 1) := by
  obtain ⟨m, hm⟩ : ∃ m, n - j = m + 1 := ⟨n - j - 1, by omega⟩
  rw [hm, show n - (j + 1) = m by omega]
  have h1 := cc_move m j
  have e : cc (m + 1) j * p ^ j * p * (m + 1) = cc m (j + 1) * p ^ (j + 1) * (j + 1) := by
    rw [Nat.mul_assoc (cc (m + 1) j), ← Nat.pow_succ, Nat.mul_right_comm, h1, Nat.mul_right_comm]
  rw [e, Nat.mul_div_cancel _ (by omega)]
/-- All of them are all. -/
theorem sumN_all : ∀ (p f n : Nat), sumN p f n (n + 1) = (p + f) ^ n := by
  have hz : ∀ p f n k, (∀ j, j < k → n < j → termN p f n j = 0) → True := fun _ _ _ _ _ => trivial
  intro p f n
  have key : ∀ n k, k ≤ n → sumN p f (n + 1) (k + 1) = f * sumN p f n (k + 1) + p * sumN p f n k := by
    intro n k hk
    induction k with
    | zero =>
      show 0 + termN p f (n + 1) 0 = f * (0 + termN p f n 0) + p * 0
      unfold termN
      simp only [Nat.sub_zero, cc_zero, Nat.pow_zero, Nat.mul_one, Nat.one_mul, Nat.zero_add, Nat.mul_zero, Nat.add_zero]
      rw [Nat.pow_succ, Nat.mul_comm]
    | succ k ih =>
      have h1 := ih (by omega)
      have h2 : termN p f (n + 1) (k + 1) = f * termN p f n (k + 1) + p * termN p f n k := by
        unfold termN
        obtain ⟨m, rfl⟩ : ∃ m, n = m + (k + 1) := ⟨n - (k + 1), by omega⟩
        rw [show m + (k + 1) + 1 - (k + 1) = m + 1 by omega, show m + (k + 1) - (k + 1) = m by omega, show m + (k + 1) - k = m + 1 by omega, cc_succ, Nat.add_mul, Nat.add_mul]
        rw [Nat.pow_succ f m, Nat.pow_succ p k]
        have e1 : cc m (k + 1) * (p ^ k * p) * (f ^ m * f) = f * (cc m (k + 1) * (p ^ k * p) * f ^ m) := by
          rw [← Nat.mul_assoc, Nat.mul_comm]
        have e2 : cc (m + 1) k * (p ^ k * p) * (f ^ m * f) = p * (cc (m + 1) k * p ^ k * (f ^ m * f)) := by
          rw [← Nat.mul_assoc (cc (m + 1) k), Nat.mul_comm (cc (m + 1) k * p ^ k) p, Nat.mul_assoc p]
        rw [e1, e2]
      show sumN p f (n + 1) (k + 1) + termN p f (n + 1) (k + 1) = f * (sumN p f n (k + 1) + termN p f n (k + 1)) + p * (sumN p f n k + termN p f n k)
      rw [h1, h2, Nat.mul_add, Nat.mul_add]
      omega
  induction n with
  | zero => show 0 + termN p f 0 0 = 1; simp [termN, cc]
  | succ n ih =>
    have h1 := key n n (Nat.le_refl _)
    have h2 : termN p f (n + 1) (n + 1) = p * termN p f n n := by
      unfold termN
      simp only [Nat.sub_self, Nat.pow_zero, Nat.mul_one]
      rw [show cc 0 (n + 1) = 1 by simp [cc], show cc 0 n = 1 by simp [cc], Nat.one_mul, Nat.one_mul, Nat.pow_succ, Nat.mul_comm]
    show sumN p f (n + 1) (n + 1) + termN p f (n + 1) (n + 1) = _
    rw [h1, h2, Nat.add_assoc, ← Nat.mul_add]
    show f * sumN p f n (n + 1) + p * sumN p f n (n + 1) = _
    rw [ih, ← Nat.add_mul, Nat.pow_succ, Nat.mul_comm, Nat.add_comm f p]
theorem sumN_mono (p f n : Nat) {a b : Nat} (h : a ≤ b) : sumN p f n a ≤ sumN p f n b := by
  induction b with
  | zero => have : a = 0 := by omega
            subst this; exact Nat.le_refl _
  | succ b ih =>
    rcases Nat.lt_or_ge b a with h1 | h1
    · have : a = b + 1 := by omega
      subst this; exact Nat.le_refl _
    · exact Nat.le_trans (ih h1) (Nat.le_add_right _ _)
end Go.Ev

/- disc.isTry, power; fix.Less, Over; disc.tries, sum, in the evaluator. -/
namespace Go.Proofs.YtdnmhnjblgkjaaaGreat
set_option linter.unusedSimpArgs false
set_option linter.unusedVariables false
set_option maxRecDepth 8000
open Go.Ev
theorem fix_Less {N D : Nat} (hl : (lim N).length ≤ 536870912) (hm : (lim D).length ≤ 536870912) : Go.Ev.Fn CX 116 [natV (lim N), natV (lim D)] (natV (lim (N - D))) := by
  have h := nat_SubL hl hm
  refine Go.Ev.Fn.intro (fn := Tryz.f116) (body := (Tryz.f116).body.get!) (by kernel_rfl) (by kernel_rfl) (by kernel_rfl) (fun _ => rfl) (Nat.le_of_ble_eq_true (by kernel_rfl)) ?_; unfold Tryz.f116; simp only [Option.get!_some]
  repeat (first | (simp only [go_sem, Nat.reduceEqDiff, Nat.reduceAdd, Nat.reduceSub, Nat.reduceMul, Nat.reduceLeDiff, Nat.reduceLT, reduceIte, reduceCtorEq, Nat.succ_ne_zero, elemsC, Int.reduceToNat, Nat.reducePow]) | (simp (disch := (first | omega | (simp only [AL, List.length_map]; omega))) only [AR, AL, ifT, ifF, take_all, List.length_cons, List.length_nil, Int.reduceToNat, Int.reducePow, Nat.reducePow]) | (refine wk_intro (by kernel_rfl) ?_) | (refine vf_of (by first | exact h) ?_))
theorem fix_Over {N D : Nat} (hD : D ≠ 0) (hl : (lim N).length ≤ 536870912) (hm : (lim D).length ≤ 536870912) : Go.Ev.Fn CX 117 [natV (lim N), natV (lim D)] (natV (lim (N / D))) := by
  have h := nat_DivL hD hl hm
  refine Go.Ev.Fn.intro (fn := Tryz.f117) (body := (Tryz.f117).body.get!) (by kernel_rfl) (by kernel_rfl) (by kernel_rfl) (fun _ => rfl) (Nat.le_of_ble_eq_true (by kernel_rfl)) ?_; unfold Tryz.f117; simp only [Option.get!_some]
  repeat (first | (simp only [go_sem, Nat.reduceEqDiff, Nat.reduceAdd, Nat.reduceSub, Nat.reduceMul, Nat.reduceLeDiff, Nat.reduceLT, reduceIte, reduceCtorEq, Nat.succ_ne_zero, elemsC, Int.reduceToNat, Nat.reducePow]) | (simp (disch := (first | omega | (simp only [AL, List.length_map]; omega))) only [AR, AL, ifT, ifF, take_all, List.length_cons, List.length_nil, Int.reduceToNat, Int.reducePow, Nat.reducePow]) | (refine wk_intro (by kernel_rfl) ?_) | (refine vf_of (by first | exact h) ?_))
/-- May tries be asked? -/
def tryD (n : Int) (x : Rat) : Bool := decide (0 ≤ n) && (decide (n ≤ 256) && (decide (0 ≤ x) && decide (x ≤ 1)))
theorem disc_isTry {v : SV} {x : Rat} {L : Nat} {n : Int} (hv : RatA v x L) (hL : 1 ≤ L) (h : L ≤ 1048576) : Go.Ev.Fn CX 102 [.int .i64 n, v] (.bool (tryD n x)) := by
  have r0 := rat_Int 0 (by omega)
  have r1 := rat_Int 1 (by omega)
  have c0 := rat_Cmp hv (RatA_rv (int_szR (n := 0) (by omega))) hL (by omega) (by omega)
  have c1 := rat_Cmp hv (RatA_rv (int_szR (n := 1) (by omega))) hL (by omega) (by omega)
  have e0 : decide (cmpR x ((0 : Int) : Rat) ≥ 0) = decide (0 ≤ x) := cmpR_ge
  have e1 : decide (cmpR x ((1 : Int) : Rat) ≤ 0) = decide (x ≤ 1) := cmpR_le
  unfold tryD
  obtain ⟨s, y, d, rfl, -⟩ := hv
  refine Go.Ev.Fn.intro (fn := Tryz.f102) (body := (Tryz.f102).body.get!) (by kernel_rfl) (by kernel_rfl) (by kernel_rfl) (fun _ => rfl) (Nat.le_of_ble_eq_true (by kernel_rfl)) ?_; unfold Tryz.f102; simp only [Option.get!_some]
  by_cases h1 : 0 ≤ n
  · rw [decide_eq_true h1, Bool.true_and]
    by_cases h2 : n ≤ 256
    · rw [decide_eq_true h2, Bool.true_and]
      generalize decide (0 ≤ x) = b at *
      cases b
      · rw [Bool.false_and]
        repeat (first | (simp only [go_sem, Nat.reduceEqDiff, Nat.reduceAdd, Nat.reduceSub, Nat.reduceMul, Nat.reduceLeDiff, Nat.reduceLT, reduceIte, reduceCtorEq, Nat.succ_ne_zero, elemsC, Int.reduceToNat, Nat.reducePow, e0]) | (simp (disch := (first | omega | (simp only [AL, List.length_map]; omega))) only [AR, AL, ifT, ifF, take_all, List.length_cons, List.length_nil, Int.reduceToNat, Int.reducePow, Nat.reducePow, e0]) | (refine wk_intro (by kernel_rfl) ?_) | (refine vp_draw (id := 1) (l := []) (by kernel_rfl) ?_) | (refine vf_of (by first | exact r0 | exact c0) ?_))
      · rw [Bool.true_and]
        repeat (first | (simp only [go_sem, Nat.reduceEqDiff, Nat.reduceAdd, Nat.reduceSub, Nat.reduceMul, Nat.reduceLeDiff, Nat.reduceLT, reduceIte, reduceCtorEq, Nat.succ_ne_zero, elemsC, Int.reduceToNat, Nat.reducePow, e0, e1]) | (simp (disch := (first | omega | (simp only [AL, List.length_map]; omega))) only [AR, AL, ifT, ifF, take_all, List.length_cons, List.length_nil, Int.reduceToNat, Int.reducePow, Nat.reducePow, e0, e1]) | (refine wk_intro (by kernel_rfl) ?_) | (refine vp_draw (id := 1) (l := []) (by kernel_rfl) ?_) | (refine vf_of (by first | exact r0 | exact c0 | exact r1 | exact c1) ?_))
    · rw [decide_eq_false h2, Bool.false_and]
      repeat (first | (simp only [go_sem, Nat.reduceEqDiff, Nat.reduceAdd, Nat.reduceSub, Nat.reduceMul, Nat.reduceLeDiff, Nat.reduceLT, reduceIte, reduceCtorEq, Nat.succ_ne_zero, elemsC, Int.reduceToNat, Nat.reducePow]) | (simp (disch := (first | omega | (simp only [AL, List.length_map]; omega))) only [AR, AL, ifT, ifF, take_all, List.length_cons, List.length_nil, Int.reduceToNat, Int.reducePow, Nat.reducePow]) | (refine wk_intro (by kernel_rfl) ?_) | (refine vp_draw (id := 1) (l := []) (by kernel_rfl) ?_))
  · rw [decide_eq_false h1, Bool.false_and]
    repeat (first | (simp only [go_sem, Nat.reduceEqDiff, Nat.reduceAdd, Nat.reduceSub, Nat.reduceMul, Nat.reduceLeDiff, Nat.reduceLT, reduceIte, reduceCtorEq, Nat.succ_ne_zero, elemsC, Int.reduceToNat, Nat.reducePow]) | (simp (disch := (first | omega | (simp only [AL, List.length_map]; omega))) only [AR, AL, ifT, ifF, take_all, List.length_cons, List.length_nil, Int.reduceToNat, Int.reducePow, Nat.reducePow]) | (refine wk_intro (by kernel_rfl) ?_) | (refine vp_draw (id := 1) (l := []) (by kernel_rfl) ?_))
theorem pow_lim_len (x n : Nat) : (lim (x ^ n)).length ≤ (lim x).length * n + 1 := by
  induction n with
  | zero => rw [Nat.pow_zero]; have := lim_len_one (a := 1) (by decide); omega
  | succ n ih =>
    have := lim_len_mul (a := x ^ n) (b := x)
    rw [Nat.pow_succ, Nat.mul_succ]
    omega
theorem disc_power (x : Nat) (n : Nat) (hn : n ≤ 256) (hx : (lim x).length ≤ 1000) : Go.Ev.Fn CX 118 [natV (lim x), .int .i64 (n : Int)] (natV (lim (x ^ n))) := by
  have o1 := nat_Of 1 (by omega)
  refine Go.Ev.Fn.intro (fn := Tryz.f118) (body := (Tryz.f118).body.get!) (by kernel_rfl) (by kernel_rfl) (by kernel_rfl) (fun _ => rfl) (Nat.le_of_ble_eq_true (by kernel_rfl)) ?_; unfold Tryz.f118; simp only [Option.get!_some]
  repeat (first | (simp only [go_sem, Nat.reduceEqDiff, Nat.reduceAdd, Nat.reduceSub, Nat.reduceMul, Nat.reduceLeDiff, Nat.reduceLT, reduceIte, reduceCtorEq, Nat.succ_ne_zero, elemsC, Int.reduceToNat, Nat.reducePow]) | (simp (disch := (first | omega | (simp only [AL, List.length_map]; omega))) only [AR, AL, ifT, ifF, take_all, List.length_cons, List.length_nil, Int.reduceToNat, Int.reducePow, Nat.reducePow]) | (refine wk_intro (by kernel_rfl) ?_) | (refine vf_of (by first | exact o1) ?_))
  refine vp_loop_inv (fun s => ∃ e A N : Nat, s.tmp 0 = .sv (natV (lim (x ^ e))) ∧ s.tmp 1 = .sv (.int .i64 (N : Int)) ∧ s.tmp 5 = .sv (natV (lim (x ^ A))) ∧ A + e * N = n ∧ (N = 0 ∨ e ≤ n) ∧ e ≤ 512 ∧ 1 ≤ e)
    (fun s => match s.tmp 1 with | .sv (.int _ n) => n.toNat | _ => 0) ⟨1, 0, n, by rw [Nat.pow_one]; rfl, rfl, by rw [Nat.pow_zero]; rfl, by omega, by omega, by omega, by omega⟩ ?_
  rintro s ⟨e, A, N, i0, i1, i5, hs, he, he2, he1⟩
  rcases Nat.eq_zero_or_pos N with rfl | h0
  · rw [show A = n by omega] at i5
    repeat (first | (simp only [go_sem, Nat.reduceEqDiff, Nat.reduceAdd, Nat.reduceSub, Nat.reduceMul, Nat.reduceLeDiff, Nat.reduceLT, reduceIte, reduceCtorEq, Nat.succ_ne_zero, elemsC, Int.reduceToNat, Nat.reducePow, i0, i1, i5]) | (simp (disch := (first | omega | (simp only [AL, List.length_map]; omega))) only [AR, AL, ifT, ifF, take_all, List.length_cons, List.length_nil, Int.reduceToNat, Int.reducePow, Nat.reducePow, i0, i1, i5]) | (refine wk_intro (by kernel_rfl) ?_))
  · have heN : e ≤ n := by omega
    have hA : A ≤ n := by omega
    have hNe : 1 * N ≤ e * N := Nat.mul_le_mul_right _ he1
    have l1 := pow_lim_len x e
    have l2 := pow_lim_len x A
    have k1 : (lim x).length * e ≤ 1000 * 256 := Nat.mul_le_mul hx (by omega)
    have k2 : (lim x).length * A ≤ 1000 * 256 := Nat.mul_le_mul hx (by omega)
    have m1 := nat_MulL (N := x ^ A) (D := x ^ e) (by omega) (by omega)
    have m2 := nat_MulL (N := x ^ e) (D := x ^ e) (by omega) (by omega)
    rw [← Nat.pow_add] at m1 m2
    have ha := and_one64 (a := N) (by omega)
    have hN2 : N = 2 * (N / 2) + N % 2 := by omega
    have hs2 : e * N = (e + e) * (N / 2) + e * (N % 2) := by
      conv => lhs; rw [hN2]
      rw [Nat.mul_add, Nat.add_mul, ← Nat.mul_assoc, Nat.mul_comm e 2, Nat.two_mul, Nat.add_mul]
    have hshr : (N : Int).fdiv 2 = ((N / 2 : Nat) : Int) := fdiv_nat N 2
    have hbig : N / 2 = 0 ∨ e + e ≤ n := by
      rcases Nat.eq_zero_or_pos (N / 2) with h | h
      · exact .inl h
      · right
        have : (e + e) * 1 ≤ (e + e) * (N / 2) := Nat.mul_le_mul_left _ h
        omega
    rcases Nat.mod_two_eq_zero_or_one N with hp | hp
    · rw [hp] at ha hs2
      clear hN2
      repeat (first | (simp only [go_sem, Nat.reduceEqDiff, Nat.reduceAdd, Nat.reduceSub, Nat.reduceMul, Nat.reduceLeDiff, Nat.reduceLT, reduceIte, reduceCtorEq, Nat.succ_ne_zero, elemsC, Int.reduceToNat, Nat.reducePow, i0, i1, i5, ha, hshr]) | (simp (disch := (first | omega | (simp only [AL, List.length_map]; omega))) only [AR, AL, ifT, ifF, take_all, List.length_cons, List.length_nil, Int.reduceToNat, Int.reducePow, Nat.reducePow, i0, i1, i5, ha, hshr]) | (refine wk_intro (by kernel_rfl) ?_) | (refine vf_of (by first | exact m2) ?_))
      exact ⟨⟨e + e, A, N / 2, rfl, rfl, rfl, by omega, by omega, by omega, by omega⟩, by omega⟩
    · rw [hp] at ha hs2
      clear hN2
      repeat (first | (simp only [go_sem, Nat.reduceEqDiff, Nat.reduceAdd, Nat.reduceSub, Nat.reduceMul, Nat.reduceLeDiff, Nat.reduceLT, reduceIte, reduceCtorEq, Nat.succ_ne_zero, elemsC, Int.reduceToNat, Nat.reducePow, i0, i1, i5, ha, hshr]) | (simp (disch := (first | omega | (simp only [AL, List.length_map]; omega))) only [AR, AL, ifT, ifF, take_all, List.length_cons, List.length_nil, Int.reduceToNat, Int.reducePow, Nat.reducePow, i0, i1, i5, ha, hshr]) | (refine wk_intro (by kernel_rfl) ?_) | (refine vf_of (by first | exact m1 | exact m2) ?_))
      exact ⟨⟨e + e, A + e, N / 2, rfl, rfl, rfl, by omega, by omega, by omega, by omega⟩, by omega⟩
end Go.Proofs.YtdnmhnjblgkjaaaGreat

/- Fractions of one denominator; the least count that is so likely: plain mathematics, no program. -/
namespace Go.Ev
theorem mk_mul (a : Int) {D : Nat} (hD : D ≠ 0) : mkRat a D * ((D : Nat) : Rat) = (a : Rat) := by
  rw [Rat.mkRat_eq_div]
  exact Rat.div_mul_cancel (by exact_mod_cast hD)
theorem le_mul_iff {x y c : Rat} (hc : 0 < c) : x ≤ y ↔ x * c ≤ y * c := by
  constructor
  · intro h
    exact Rat.mul_le_mul_of_nonneg_right h (by grind)
  · intro h
    rcases Rat.le_total (a := x) (b := y) with h1 | h1
    · exact h1
    · have h2 := Rat.mul_le_mul_of_nonneg_right h1 (by grind : (0 : Rat) ≤ c)
      have h3 : (x - y) * c = 0 := by grind
      rcases Rat.mul_eq_zero.1 h3 with h4 | h4 <;> grind
theorem mk_le {a b : Int} {D : Nat} (hD : 0 < D) : mkRat a D ≤ mkRat b D ↔ a ≤ b := by
  have hc : (0 : Rat) < ((D : Nat) : Rat) := by exact_mod_cast hD
  rw [le_mul_iff hc, mk_mul _ (by omega), mk_mul _ (by omega)]
  exact Rat.intCast_le_intCast
theorem mk_self {D : Nat} (hD : 0 < D) : mkRat (D : Int) D = 1 := by
  rw [Rat.mkRat_eq_div]
  have hc : ((D : Nat) : Rat) ≠ 0 := by exact_mod_cast (show D ≠ 0 by omega)
  have e : (((D : Nat) : Int) : Rat) = ((D : Nat) : Rat) := rfl
  rw [e]
  rw [Rat.div_def]
  exact Rat.mul_inv_cancel _ hc
/-- How likely at most k of n tries succeed. -/
def cdfB (n : Nat) (k : Int) (x : Rat) : Rat := if k < 0 then 0 else if (n : Int) ≤ k then 1 else mkRat (sumN x.num.natAbs (x.den - x.num.natAbs) n (k.toNat + 1) : Nat) (x.den ^ n)
theorem unit_num {x : Rat} (h0 : 0 ≤ x) (h1 : x ≤ 1) : x.num.natAbs ≤ x.den ∧ (x.num.natAbs : Int) = x.num := by
  have h2 := Rat.num_nonneg.2 h0
  have h3 := (Rat.le_iff x 1).1 h1
  rw [show (1 : Rat).den = 1 from rfl, show (1 : Rat).num = 1 from rfl] at h3
  omega
theorem den_pos (x : Rat) (n : Nat) : 0 < x.den ^ n := Nat.pow_pos (Nat.pos_of_ne_zero x.den_nz)
theorem cdfB_mono {n : Nat} {x : Rat} (h0 : 0 ≤ x) (h1 : x ≤ 1) {i j : Nat} (h : i ≤ j) : cdfB n i x ≤ cdfB n j x := by
  obtain ⟨hle, -⟩ := unit_num h0 h1
  unfold cdfB
  rw [if_neg (show ¬ ((i : Nat) : Int) < 0 by omega), if_neg (show ¬ ((j : Nat) : Int) < 0 by omega)]
  by_cases hj : (n : Int) ≤ j
  · rw [if_pos hj]
    by_cases hi : (n : Int) ≤ i
    · rw [if_pos hi]
      exact Rat.le_refl
    · rw [if_neg hi, ← mk_self (den_pos x n), mk_le (den_pos x n)]
      have h2 := sumN_mono x.num.natAbs (x.den - x.num.natAbs) n (show i + 1 ≤ n + 1 by omega)
      rw [sumN_all, show x.num.natAbs + (x.den - x.num.natAbs) = x.den by omega] at h2
      rw [Int.toNat_natCast]
      exact Int.ofNat_le.2 h2
  · rw [if_neg hj, if_neg (show ¬ (n : Int) ≤ i by omega), mk_le (den_pos x n)]
    have h2 := sumN_mono x.num.natAbs (x.den - x.num.natAbs) n (show i + 1 ≤ j + 1 by omega)
    rw [Int.toNat_natCast, Int.toNat_natCast]
    exact Int.ofNat_le.2 h2
/-- The least count that is so likely. -/
def isLeast (n : Nat) (x q : Rat) (k : Nat) : Prop := k ≤ n ∧ (∀ j : Nat, j < k → cdfB n j x < q) ∧ (k = n ∨ q ≤ cdfB n k x)
theorem isLeast_unique {n : Nat} {x q : Rat} {k l : Nat} (hk : isLeast n x q k) (hl : isLeast n x q l) : k = l := by
  obtain ⟨k1, k2, k3⟩ := hk
  obtain ⟨l1, l2, l3⟩ := hl
  rcases Nat.lt_trichotomy k l with h | h | h
  · have := l2 k h
    rcases k3 with h3 | h3
    · omega
    · exfalso; grind
  · exact h
  · have := k2 l h
    rcases l3 with h3 | h3
    · omega
    · exfalso; grind
/-- Is it so likely? By whole numbers. -/
theorem cdfB_ge {n k : Nat} {x q : Rat} (hk : k < n) : q ≤ cdfB n k x ↔ q.num * ((x.den ^ n : Nat) : Int) ≤ ((sumN x.num.natAbs (x.den - x.num.natAbs) n (k + 1) * q.den : Nat) : Int) := by
  unfold cdfB
  rw [if_neg (by omega), if_neg (by omega), Int.toNat_natCast]
  have hD := den_pos x n
  generalize x.den ^ n = D at *
  generalize sumN x.num.natAbs (x.den - x.num.natAbs) n (k + 1) = S
  have hc : (0 : Rat) < ((D : Nat) : Rat) := by exact_mod_cast hD
  have hq : (0 : Rat) < ((q.den : Nat) : Rat) := by exact_mod_cast Nat.pos_of_ne_zero q.den_nz
  rw [le_mul_iff hc, mk_mul _ (by omega), le_mul_iff hq]
  have e1 : q * ((D : Nat) : Rat) * ((q.den : Nat) : Rat) = ((q.num * ((D : Nat) : Int) : Int) : Rat) := by
    have h := mk_mul q.num q.den_nz
    rw [Rat.mkRat_self] at h
    rw [Rat.intCast_mul, ← h, Rat.intCast_natCast]
    grind
  have e2 : (((S : Nat) : Int) : Rat) * ((q.den : Nat) : Rat) = (((S * q.den : Nat) : Int) : Rat) := by
    rw [Int.natCast_mul, Rat.intCast_mul]
    rfl
  rw [e1, e2]
  exact Rat.intCast_le_intCast
end Go.Ev
