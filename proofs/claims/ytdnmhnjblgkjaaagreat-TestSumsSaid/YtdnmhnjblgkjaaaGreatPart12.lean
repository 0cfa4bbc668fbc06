/- Part 12 of the proof: the evaluator, contracts of functions and their plain laws (joined by program). No condition. -/
import Derived.Test.YtdnmhnjblgkjaaaGreatPart11
/- vernierlaw19.TestSums, in the evaluator. -/
namespace Go.Proofs.YtdnmhnjblgkjaaaGreat
set_option linter.unusedSimpArgs false
set_option linter.unusedVariables false
set_option maxRecDepth 8000
open Go.Ev
/-- A table's numbers. -/
def tabQ (ts : List (List InR)) : List (List Rat) := ts.map fun ps => ps.map InR.q
theorem tabQ_len (ts : List (List InR)) : (tabQ ts).length = ts.length := List.length_map _
theorem tabQ_tab {L : Nat} : ∀ ts : List (List InR), (∀ ps ∈ ts, ∀ p ∈ ps, p.ok ∧ p.2.1.length ≤ L ∧ p.2.2.length ≤ L) → TabC (ts.map rowV) (tabQ ts) L
  | [], _ => rfl
  | ps :: ts, h => by
    refine ⟨ratsC ps, ts.map rowV, ?_, ratsC_row ps (h ps List.mem_cons_self), tabQ_tab ts fun x hx => h x (List.mem_cons_of_mem _ hx)⟩
    show SV.sl ps.length (ratsC ps) :: _ = SV.sl (List.map InR.q ps).length (ratsC ps) :: _
    rw [List.length_map]
theorem bigT_small {xs ys : List InR} {mu sg : InR} {ts : List (List InR)} {n : Int} (h : bigT xs ys mu sg ts n = false) :
    bigR xs = false ∧ bigR ys = false ∧ bigR [mu, sg] = false ∧ ts.length ≤ 4 ∧ (n ≤ 8 ∨ 256 < n) ∧ ∀ ps ∈ ts, ps.length ≤ 4 ∧ bigR ps = false := by
  unfold bigT at h
  simp only [Bool.or_eq_false_iff, Bool.and_eq_false_iff, decide_eq_false_iff_not] at h
  obtain ⟨⟨h1, h2, h3⟩, h4, h5, h6⟩ := h
  refine ⟨h1, h2, h3, by omega, by omega, fun ps hp => ?_⟩
  have := List.any_eq_false.1 h6 ps hp
  simp only [Bool.or_eq_true, decide_eq_true_eq, not_or] at this
  exact ⟨by omega, Bool.eq_false_iff.2 this.2⟩
theorem tabQ_small {ts : List (List InR)} (hok : ∀ ps ∈ ts, ∀ p ∈ ps, p.ok) (h : ∀ ps ∈ ts, ps.length ≤ 4 ∧ bigR ps = false) : TabC (ts.map rowV) (tabQ ts) 1 ∧ ∀ r ∈ tabQ ts, r.length ≤ 4 := by
  refine ⟨tabQ_tab ts fun ps hps p hp => ⟨hok ps hps p hp, (bigR_small (h ps hps).2).2 p hp⟩, fun r hr => ?_⟩
  obtain ⟨ps, hps, rfl⟩ := List.mem_map.1 hr
  rw [List.length_map]
  exact (h ps hps).1
theorem expR_sz {cs : List SV} {T : List (List Rat)} (h : TabC cs T 1) (hn : T.length ≤ 4) (hl : ∀ r ∈ T, r.length ≤ 4) : ∀ r ∈ (expR T).1, ∀ x ∈ r, szR x 400 := by
  have hz := tab_szall (by omega) h
  intro r hr x hx
  unfold expR at hr
  split at hr
  · cases hr
  split at hr
  · cases hr
  obtain ⟨a, ha, rfl⟩ := List.mem_map.1 hr
  obtain ⟨b, hb, rfl⟩ := List.mem_map.1 hx
  have zS := sz_sum12 (L := 25) (by omega) (rowR_sz hz hl) (by rw [rowR_len]; omega)
  exact szR_mono (szR_div (szR_mul (rowR_sz hz hl _ ha) (colR_sz hz hn _ hb) (by omega)) zS (by omega) (by omega)) (by omega)
theorem tabsC_at (X : List (List Rat)) {i : Nat} (h : i < X.length) : ((tabsC X).drop i).head? = some (.sl (X.getD i []).length (rvsC (X.getD i []))) := by
  rw [List.head?_drop, tabsC, List.getElem?_map, List.getD_eq_getElem?_getD, List.getElem?_eq_getElem h]
  rfl
section
variable {cs : List SV} {n : Nat}
theorem sums_large (hL : Go.Ev.Fn CX 5 [testV 0 (.sl 0 []) (.sl 0 []) (.sl n cs) false [] [] false [] [] 0 0] (.bool true)) : Go.Ev.Fn CX 4 [.sl n cs] (.bool true) := by
  refine Go.Ev.Fn.intro (fn := Tryz.f4) (body := (Tryz.f4).body.get!) (by kernel_rfl) (by kernel_rfl) (by kernel_rfl) (fun _ => rfl) (Nat.le_of_ble_eq_true (by kernel_rfl)) ?_; unfold Tryz.f4; simp only [Option.get!_some]
  (try (simp only [go_sem, Nat.reduceEqDiff, Nat.reduceAdd, Nat.reduceSub, Nat.reduceMul, Nat.reduceLeDiff, Nat.reduceLT, reduceIte, reduceCtorEq, Nat.succ_ne_zero, elemsC, Int.reduceToNat, Nat.reducePow])); repeat ((first | (simp (disch := (first | omega | (simp only [AL, List.length_map]; omega))) only [AR, AL, ifT, ifF, take_all, List.length_cons, List.length_nil, Int.reduceToNat, Int.reducePow, Nat.reducePow]) | (refine wk_intro (by kernel_rfl) ?_) | (refine vp_draw (id := 12) (l := [60, 65]) (by kernel_rfl) ?_)); try (simp only [go_sem, Nat.reduceEqDiff, Nat.reduceAdd, Nat.reduceSub, Nat.reduceMul, Nat.reduceLeDiff, Nat.reduceLT, reduceIte, reduceCtorEq, Nat.succ_ne_zero, elemsC, Int.reduceToNat, Nat.reducePow]))
  refine vf_of (hL) ?_; (try (simp only [go_sem, Nat.reduceEqDiff, Nat.reduceAdd, Nat.reduceSub, Nat.reduceMul, Nat.reduceLeDiff, Nat.reduceLT, reduceIte, reduceCtorEq, Nat.succ_ne_zero, elemsC, Int.reduceToNat, Nat.reducePow])); repeat ((first | (simp (disch := (first | omega | (simp only [AL, List.length_map]; omega))) only [AR, AL, ifT, ifF, take_all, List.length_cons, List.length_nil, Int.reduceToNat, Int.reducePow, Nat.reducePow]) | (refine wk_intro (by kernel_rfl) ?_) | (refine vp_draw (id := 12) (l := [60, 65]) (by kernel_rfl) ?_)); try (simp only [go_sem, Nat.reduceEqDiff, Nat.reduceAdd, Nat.reduceSub, Nat.reduceMul, Nat.reduceLeDiff, Nat.reduceLT, reduceIte, reduceCtorEq, Nat.succ_ne_zero, elemsC, Int.reduceToNat, Nat.reducePow]))
theorem sums_err {e : Int} (hL : Go.Ev.Fn CX 5 [testV 0 (.sl 0 []) (.sl 0 []) (.sl n cs) false [] [] false [] [] 0 0] (.bool false)) (he : ¬ e = 0)
    (hE : Go.Ev.Fn CX 8 [.sl n cs] (.tup [.sl 0 [], .int .i64 e])) (hR : Go.Ev.Fn CX 9 [.sl n cs] (.tup [.sl 0 [], .int .i64 e])) :
    Go.Ev.Fn CX 4 [.sl n cs] (.bool true) := by
  refine Go.Ev.Fn.intro (fn := Tryz.f4) (body := (Tryz.f4).body.get!) (by kernel_rfl) (by kernel_rfl) (by kernel_rfl) (fun _ => rfl) (Nat.le_of_ble_eq_true (by kernel_rfl)) ?_; unfold Tryz.f4; simp only [Option.get!_some]
  (try (simp only [go_sem, Nat.reduceEqDiff, Nat.reduceAdd, Nat.reduceSub, Nat.reduceMul, Nat.reduceLeDiff, Nat.reduceLT, reduceIte, reduceCtorEq, Nat.succ_ne_zero, elemsC, Int.reduceToNat, Nat.reducePow])); repeat ((first | (simp (disch := (first | omega | (simp only [AL, List.length_map]; omega))) only [AR, AL, ifT, ifF, take_all, List.length_cons, List.length_nil, Int.reduceToNat, Int.reducePow, Nat.reducePow]) | (refine wk_intro (by kernel_rfl) ?_) | (refine vp_draw (id := 12) (l := [60, 65]) (by kernel_rfl) ?_)); try (simp only [go_sem, Nat.reduceEqDiff, Nat.reduceAdd, Nat.reduceSub, Nat.reduceMul, Nat.reduceLeDiff, Nat.reduceLT, reduceIte, reduceCtorEq, Nat.succ_ne_zero, elemsC, Int.reduceToNat, Nat.reducePow]))
  refine vf_of (hL) ?_; (try (simp only [go_sem, Nat.reduceEqDiff, Nat.reduceAdd, Nat.reduceSub, Nat.reduceMul, Nat.reduceLeDiff, Nat.reduceLT, reduceIte, reduceCtorEq, Nat.succ_ne_zero, elemsC, Int.reduceToNat, Nat.reducePow])); repeat ((first | (simp (disch := (first | omega | (simp only [AL, List.length_map]; omega))) only [AR, AL, ifT, ifF, take_all, List.length_cons, List.length_nil, Int.reduceToNat, Int.reducePow, Nat.reducePow]) | (refine wk_intro (by kernel_rfl) ?_) | (refine vp_draw (id := 12) (l := [60, 65]) (by kernel_rfl) ?_)); try (simp only [go_sem, Nat.reduceEqDiff, Nat.reduceAdd, Nat.reduceSub, Nat.reduceMul, Nat.reduceLeDiff, Nat.reduceLT, reduceIte, reduceCtorEq, Nat.succ_ne_zero, elemsC, Int.reduceToNat, Nat.reducePow]))
  refine vf_of (hE) ?_; (try (simp only [go_sem, Nat.reduceEqDiff, Nat.reduceAdd, Nat.reduceSub, Nat.reduceMul, Nat.reduceLeDiff, Nat.reduceLT, reduceIte, reduceCtorEq, Nat.succ_ne_zero, elemsC, Int.reduceToNat, Nat.reducePow])); repeat ((first | (simp (disch := (first | omega | (simp only [AL, List.length_map]; omega))) only [AR, AL, ifT, ifF, take_all, List.length_cons, List.length_nil, Int.reduceToNat, Int.reducePow, Nat.reducePow]) | (refine wk_intro (by kernel_rfl) ?_) | (refine vp_draw (id := 12) (l := [60, 65]) (by kernel_rfl) ?_)); try (simp only [go_sem, Nat.reduceEqDiff, Nat.reduceAdd, Nat.reduceSub, Nat.reduceMul, Nat.reduceLeDiff, Nat.reduceLT, reduceIte, reduceCtorEq, Nat.succ_ne_zero, elemsC, Int.reduceToNat, Nat.reducePow]))
  refine vf_of (hR) ?_; (try (simp only [go_sem, Nat.reduceEqDiff, Nat.reduceAdd, Nat.reduceSub, Nat.reduceMul, Nat.reduceLeDiff, Nat.reduceLT, reduceIte, reduceCtorEq, Nat.succ_ne_zero, elemsC, Int.reduceToNat, Nat.reducePow])); repeat ((first | (simp (disch := (first | omega | (simp only [AL, List.length_map]; omega))) only [AR, AL, ifT, ifF, take_all, List.length_cons, List.length_nil, Int.reduceToNat, Int.reducePow, Nat.reducePow]) | (refine wk_intro (by kernel_rfl) ?_) | (refine vp_draw (id := 12) (l := [60, 65]) (by kernel_rfl) ?_)); try (simp only [go_sem, Nat.reduceEqDiff, Nat.reduceAdd, Nat.reduceSub, Nat.reduceMul, Nat.reduceLeDiff, Nat.reduceLT, reduceIte, reduceCtorEq, Nat.succ_ne_zero, elemsC, Int.reduceToNat, Nat.reducePow]))
  refine vf_of (law19_known) ?_; (try (simp only [go_sem, Nat.reduceEqDiff, Nat.reduceAdd, Nat.reduceSub, Nat.reduceMul, Nat.reduceLeDiff, Nat.reduceLT, reduceIte, reduceCtorEq, Nat.succ_ne_zero, elemsC, Int.reduceToNat, Nat.reducePow])); repeat ((first | (simp (disch := (first | omega | (simp only [AL, List.length_map]; omega))) only [AR, AL, ifT, ifF, take_all, List.length_cons, List.length_nil, Int.reduceToNat, Int.reducePow, Nat.reducePow]) | (refine wk_intro (by kernel_rfl) ?_) | (refine vp_draw (id := 12) (l := [60, 65]) (by kernel_rfl) ?_)); try (simp only [go_sem, Nat.reduceEqDiff, Nat.reduceAdd, Nat.reduceSub, Nat.reduceMul, Nat.reduceLeDiff, Nat.reduceLT, reduceIte, reduceCtorEq, Nat.succ_ne_zero, elemsC, Int.reduceToNat, Nat.reducePow]))
theorem sums_main {T X : List (List Rat)} (hL : Go.Ev.Fn CX 5 [testV 0 (.sl 0 []) (.sl 0 []) (.sl T.length cs) false [] [] false [] [] 0 0] (.bool false))
    (hE : Go.Ev.Fn CX 8 [.sl T.length cs] (.tup [.sl X.length (tabsC X), .int .i64 0])) (h : TabC cs T 1) (hn : T.length ≤ 4) (hl : ∀ r ∈ T, r.length ≤ 4)
    (hX : X.length = T.length) (hz : ∀ r ∈ X, ∀ x ∈ r, szR x 400) (hs : ∀ i, i < T.length → (X.getD i []).length = (T.getD i []).length ∧ sumR (X.getD i []) = sumR (T.getD i [])) :
    Go.Ev.Fn CX 4 [.sl T.length cs] (.bool true) := by
  have hlen := tab_len h
  have hat := fun {i : Nat} (hi : i < T.length) => tabC_at (i := i) h hi
  have hxt := fun {i : Nat} (hi : i < X.length) => tabsC_at X hi
  have hxl := tabsC_len X
  have h4 := tab_ok hl
  have hzx : ∀ i, i < X.length → ∀ x ∈ X.getD i [], szR x 400 := fun i hi => hz _ (getD_mem' hi)
  rw [hX] at hE hxl
  generalize hcx : tabsC X = cx at *
  refine Go.Ev.Fn.intro (fn := Tryz.f4) (body := (Tryz.f4).body.get!) (by kernel_rfl) (by kernel_rfl) (by kernel_rfl) (fun _ => rfl) (Nat.le_of_ble_eq_true (by kernel_rfl)) ?_; unfold Tryz.f4; simp only [Option.get!_some]
  (try (simp only [go_sem, Nat.reduceEqDiff, Nat.reduceAdd, Nat.reduceSub, Nat.reduceMul, Nat.reduceLeDiff, Nat.reduceLT, reduceIte, reduceCtorEq, Nat.succ_ne_zero, elemsC, Int.reduceToNat, Nat.reducePow])); repeat ((first | (simp (disch := (first | omega | (simp only [AL, List.length_map]; omega))) only [AR, AL, ifT, ifF, take_all, List.length_cons, List.length_nil, Int.reduceToNat, Int.reducePow, Nat.reducePow]) | (refine wk_intro (by kernel_rfl) ?_) | (refine vp_draw (id := 12) (l := [60, 65]) (by kernel_rfl) ?_)); try (simp only [go_sem, Nat.reduceEqDiff, Nat.reduceAdd, Nat.reduceSub, Nat.reduceMul, Nat.reduceLeDiff, Nat.reduceLT, reduceIte, reduceCtorEq, Nat.succ_ne_zero, elemsC, Int.reduceToNat, Nat.reducePow]))
  refine vf_of (hL) ?_; (try (simp only [go_sem, Nat.reduceEqDiff, Nat.reduceAdd, Nat.reduceSub, Nat.reduceMul, Nat.reduceLeDiff, Nat.reduceLT, reduceIte, reduceCtorEq, Nat.succ_ne_zero, elemsC, Int.reduceToNat, Nat.reducePow])); repeat ((first | (simp (disch := (first | omega | (simp only [AL, List.length_map]; omega))) only [AR, AL, ifT, ifF, take_all, List.length_cons, List.length_nil, Int.reduceToNat, Int.reducePow, Nat.reducePow]) | (refine wk_intro (by kernel_rfl) ?_) | (refine vp_draw (id := 12) (l := [60, 65]) (by kernel_rfl) ?_)); try (simp only [go_sem, Nat.reduceEqDiff, Nat.reduceAdd, Nat.reduceSub, Nat.reduceMul, Nat.reduceLeDiff, Nat.reduceLT, reduceIte, reduceCtorEq, Nat.succ_ne_zero, elemsC, Int.reduceToNat, Nat.reducePow]))
  refine vf_of (hE) ?_; (try (simp only [go_sem, Nat.reduceEqDiff, Nat.reduceAdd, Nat.reduceSub, Nat.reduceMul, Nat.reduceLeDiff, Nat.reduceLT, reduceIte, reduceCtorEq, Nat.succ_ne_zero, elemsC, Int.reduceToNat, Nat.reducePow])); repeat ((first | (simp (disch := (first | omega | (simp only [AL, List.length_map]; omega))) only [AR, AL, ifT, ifF, take_all, List.length_cons, List.length_nil, Int.reduceToNat, Int.reducePow, Nat.reducePow]) | (refine wk_intro (by kernel_rfl) ?_) | (refine vp_draw (id := 12) (l := [60, 65]) (by kernel_rfl) ?_)); try (simp only [go_sem, Nat.reduceEqDiff, Nat.reduceAdd, Nat.reduceSub, Nat.reduceMul, Nat.reduceLeDiff, Nat.reduceLT, reduceIte, reduceCtorEq, Nat.succ_ne_zero, elemsC, Int.reduceToNat, Nat.reducePow]))
  refine vp_loop_inv (fun s => s.tmp 0 = .sv (.sl T.length cs) ∧ s.tmp 3 = .sv (.sl T.length cx) ∧ ((s.tmp 60 = .undef ∧ s.tmp 65 = .undef) ∨ ∃ u v, s.tmp 60 = .sv u ∧ s.tmp 65 = .sv v) ∧
      ∃ i : Nat, s.tmp 7 = .sv (.int .i64 (i : Int)) ∧ i ≤ T.length)
    (fun s => match s.tmp 7 with | .sv (.int _ i) => T.length - i.toNat | _ => 0) ⟨rfl, rfl, .inl ⟨rfl, rfl⟩, 0, rfl, by omega⟩ ?_
  rintro s2 ⟨i0, i3, hu, i, i7, hi⟩
  by_cases hend : i = T.length
  · subst hend
    (try (simp only [go_sem, Nat.reduceEqDiff, Nat.reduceAdd, Nat.reduceSub, Nat.reduceMul, Nat.reduceLeDiff, Nat.reduceLT, reduceIte, reduceCtorEq, Nat.succ_ne_zero, elemsC, Int.reduceToNat, Nat.reducePow, i0, i3, i7])); repeat ((first | (simp (disch := (first | omega | (simp only [AL, List.length_map]; omega))) only [AR, AL, ifT, ifF, take_all, List.length_cons, List.length_nil, Int.reduceToNat, Int.reducePow, Nat.reducePow, i0, i3, i7]) | (refine wk_intro (by kernel_rfl) ?_) | (refine vp_draw (id := 12) (l := [60, 65]) (by kernel_rfl) ?_)); try (simp only [go_sem, Nat.reduceEqDiff, Nat.reduceAdd, Nat.reduceSub, Nat.reduceMul, Nat.reduceLeDiff, Nat.reduceLT, reduceIte, reduceCtorEq, Nat.succ_ne_zero, elemsC, Int.reduceToNat, Nat.reducePow, i0, i3, i7]))
    refine vf_of (law19_known) ?_; (try (simp only [go_sem, Nat.reduceEqDiff, Nat.reduceAdd, Nat.reduceSub, Nat.reduceMul, Nat.reduceLeDiff, Nat.reduceLT, reduceIte, reduceCtorEq, Nat.succ_ne_zero, elemsC, Int.reduceToNat, Nat.reducePow])); repeat ((first | (simp (disch := (first | omega | (simp only [AL, List.length_map]; omega))) only [AR, AL, ifT, ifF, take_all, List.length_cons, List.length_nil, Int.reduceToNat, Int.reducePow, Nat.reducePow]) | (refine wk_intro (by kernel_rfl) ?_) | (refine vp_draw (id := 12) (l := [60, 65]) (by kernel_rfl) ?_)); try (simp only [go_sem, Nat.reduceEqDiff, Nat.reduceAdd, Nat.reduceSub, Nat.reduceMul, Nat.reduceLeDiff, Nat.reduceLT, reduceIte, reduceCtorEq, Nat.succ_ne_zero, elemsC, Int.reduceToNat, Nat.reducePow]))
  · obtain ⟨rc, a1, hr⟩ := hat (i := i) (by omega)
    have b1 := hxt (i := i) (by omega)
    obtain ⟨e1, e2⟩ := hs i (by omega)
    have h4i := h4 i
    have zx := hzx i (by omega)
    have zt := row_sz (by omega) hr
    have q1 := ref17_Sum (rvsC_row _ zx) (by omega) (by omega) (by omega)
    have q2 := ref17_Sum hr (by omega) (by omega) (by omega)
    have q3 := ref2_Same (RatA_rv (sz_sum12 (by omega) zx (by omega))) (RatA_rv (sz_sum12 (by omega) zt (by omega))) (by omega) (by omega) (by omega)
    rw [decide_eq_true e2] at q3
    rw [e1] at b1 q1
    generalize sumR (X.getD i []) = p at *
    generalize sumR (T.getD i []) = q at *
    generalize rvsC (X.getD i []) = xc at *
    generalize (T.getD i []).length = w at *
    clear hat hxt hs h4 hzx zx zt hz hr e2
    rcases hu with ⟨u1, u2⟩ | ⟨u, v, u1, u2⟩
    · (try (simp only [go_sem, Nat.reduceEqDiff, Nat.reduceAdd, Nat.reduceSub, Nat.reduceMul, Nat.reduceLeDiff, Nat.reduceLT, reduceIte, reduceCtorEq, Nat.succ_ne_zero, elemsC, Int.reduceToNat, Nat.reducePow, i0, i3, i7, u1, u2, a1, b1, hlen, hxl])); repeat ((first | (simp (disch := (first | omega | (simp only [AL, List.length_map]; omega))) only [AR, AL, ifT, ifF, take_all, List.length_cons, List.length_nil, Int.reduceToNat, Int.reducePow, Nat.reducePow, i0, i3, i7, u1, u2, a1, b1, hlen, hxl]) | (refine wk_intro (by kernel_rfl) ?_) | (refine vp_draw (id := 12) (l := [60, 65]) (by kernel_rfl) ?_)); try (simp only [go_sem, Nat.reduceEqDiff, Nat.reduceAdd, Nat.reduceSub, Nat.reduceMul, Nat.reduceLeDiff, Nat.reduceLT, reduceIte, reduceCtorEq, Nat.succ_ne_zero, elemsC, Int.reduceToNat, Nat.reducePow, i0, i3, i7, u1, u2, a1, b1, hlen, hxl]))
      refine vf_of (q1) ?_; (try (simp only [go_sem, Nat.reduceEqDiff, Nat.reduceAdd, Nat.reduceSub, Nat.reduceMul, Nat.reduceLeDiff, Nat.reduceLT, reduceIte, reduceCtorEq, Nat.succ_ne_zero, elemsC, Int.reduceToNat, Nat.reducePow, i0, i3, i7, a1, b1, hlen, hxl])); repeat ((first | (simp (disch := (first | omega | (simp only [AL, List.length_map]; omega))) only [AR, AL, ifT, ifF, take_all, List.length_cons, List.length_nil, Int.reduceToNat, Int.reducePow, Nat.reducePow, i0, i3, i7, a1, b1, hlen, hxl]) | (refine wk_intro (by kernel_rfl) ?_) | (refine vp_draw (id := 12) (l := [60, 65]) (by kernel_rfl) ?_)); try (simp only [go_sem, Nat.reduceEqDiff, Nat.reduceAdd, Nat.reduceSub, Nat.reduceMul, Nat.reduceLeDiff, Nat.reduceLT, reduceIte, reduceCtorEq, Nat.succ_ne_zero, elemsC, Int.reduceToNat, Nat.reducePow, i0, i3, i7, a1, b1, hlen, hxl]))
      refine vf_of (q2) ?_; (try (simp only [go_sem, Nat.reduceEqDiff, Nat.reduceAdd, Nat.reduceSub, Nat.reduceMul, Nat.reduceLeDiff, Nat.reduceLT, reduceIte, reduceCtorEq, Nat.succ_ne_zero, elemsC, Int.reduceToNat, Nat.reducePow, i0, i3, i7, a1, b1, hlen, hxl])); repeat ((first | (simp (disch := (first | omega | (simp only [AL, List.length_map]; omega))) only [AR, AL, ifT, ifF, take_all, List.length_cons, List.length_nil, Int.reduceToNat, Int.reducePow, Nat.reducePow, i0, i3, i7, a1, b1, hlen, hxl]) | (refine wk_intro (by kernel_rfl) ?_) | (refine vp_draw (id := 12) (l := [60, 65]) (by kernel_rfl) ?_)); try (simp only [go_sem, Nat.reduceEqDiff, Nat.reduceAdd, Nat.reduceSub, Nat.reduceMul, Nat.reduceLeDiff, Nat.reduceLT, reduceIte, reduceCtorEq, Nat.succ_ne_zero, elemsC, Int.reduceToNat, Nat.reducePow, i0, i3, i7, a1, b1, hlen, hxl]))
      refine vf_of (q3) ?_; (try (simp only [go_sem, Nat.reduceEqDiff, Nat.reduceAdd, Nat.reduceSub, Nat.reduceMul, Nat.reduceLeDiff, Nat.reduceLT, reduceIte, reduceCtorEq, Nat.succ_ne_zero, elemsC, Int.reduceToNat, Nat.reducePow, i0, i3, i7, a1, b1, hlen, hxl, Bool.not_true])); repeat ((first | (simp (disch := (first | omega | (simp only [AL, List.length_map]; omega))) only [AR, AL, ifT, ifF, take_all, List.length_cons, List.length_nil, Int.reduceToNat, Int.reducePow, Nat.reducePow, i0, i3, i7, a1, b1, hlen, hxl, Bool.not_true]) | (refine wk_intro (by kernel_rfl) ?_) | (refine vp_draw (id := 12) (l := [60, 65]) (by kernel_rfl) ?_)); try (simp only [go_sem, Nat.reduceEqDiff, Nat.reduceAdd, Nat.reduceSub, Nat.reduceMul, Nat.reduceLeDiff, Nat.reduceLT, reduceIte, reduceCtorEq, Nat.succ_ne_zero, elemsC, Int.reduceToNat, Nat.reducePow, i0, i3, i7, a1, b1, hlen, hxl, Bool.not_true]))
      exact ⟨⟨.inr ⟨_, _, rfl, rfl⟩, i + 1, rfl, by omega⟩, by omega⟩
    · (try (simp only [go_sem, Nat.reduceEqDiff, Nat.reduceAdd, Nat.reduceSub, Nat.reduceMul, Nat.reduceLeDiff, Nat.reduceLT, reduceIte, reduceCtorEq, Nat.succ_ne_zero, elemsC, Int.reduceToNat, Nat.reducePow, i0, i3, i7, u1, u2, a1, b1, hlen, hxl])); repeat ((first | (simp (disch := (first | omega | (simp only [AL, List.length_map]; omega))) only [AR, AL, ifT, ifF, take_all, List.length_cons, List.length_nil, Int.reduceToNat, Int.reducePow, Nat.reducePow, i0, i3, i7, u1, u2, a1, b1, hlen, hxl]) | (refine wk_intro (by kernel_rfl) ?_) | (refine vp_draw (id := 12) (l := [60, 65]) (by kernel_rfl) ?_)); try (simp only [go_sem, Nat.reduceEqDiff, Nat.reduceAdd, Nat.reduceSub, Nat.reduceMul, Nat.reduceLeDiff, Nat.reduceLT, reduceIte, reduceCtorEq, Nat.succ_ne_zero, elemsC, Int.reduceToNat, Nat.reducePow, i0, i3, i7, u1, u2, a1, b1, hlen, hxl]))
      refine vf_of (q1) ?_; (try (simp only [go_sem, Nat.reduceEqDiff, Nat.reduceAdd, Nat.reduceSub, Nat.reduceMul, Nat.reduceLeDiff, Nat.reduceLT, reduceIte, reduceCtorEq, Nat.succ_ne_zero, elemsC, Int.reduceToNat, Nat.reducePow, i0, i3, i7, a1, b1, hlen, hxl])); repeat ((first | (simp (disch := (first | omega | (simp only [AL, List.length_map]; omega))) only [AR, AL, ifT, ifF, take_all, List.length_cons, List.length_nil, Int.reduceToNat, Int.reducePow, Nat.reducePow, i0, i3, i7, a1, b1, hlen, hxl]) | (refine wk_intro (by kernel_rfl) ?_) | (refine vp_draw (id := 12) (l := [60, 65]) (by kernel_rfl) ?_)); try (simp only [go_sem, Nat.reduceEqDiff, Nat.reduceAdd, Nat.reduceSub, Nat.reduceMul, Nat.reduceLeDiff, Nat.reduceLT, reduceIte, reduceCtorEq, Nat.succ_ne_zero, elemsC, Int.reduceToNat, Nat.reducePow, i0, i3, i7, a1, b1, hlen, hxl]))
      refine vf_of (q2) ?_; (try (simp only [go_sem, Nat.reduceEqDiff, Nat.reduceAdd, Nat.reduceSub, Nat.reduceMul, Nat.reduceLeDiff, Nat.reduceLT, reduceIte, reduceCtorEq, Nat.succ_ne_zero, elemsC, Int.reduceToNat, Nat.reducePow, i0, i3, i7, a1, b1, hlen, hxl])); repeat ((first | (simp (disch := (first | omega | (simp only [AL, List.length_map]; omega))) only [AR, AL, ifT, ifF, take_all, List.length_cons, List.length_nil, Int.reduceToNat, Int.reducePow, Nat.reducePow, i0, i3, i7, a1, b1, hlen, hxl]) | (refine wk_intro (by kernel_rfl) ?_) | (refine vp_draw (id := 12) (l := [60, 65]) (by kernel_rfl) ?_)); try (simp only [go_sem, Nat.reduceEqDiff, Nat.reduceAdd, Nat.reduceSub, Nat.reduceMul, Nat.reduceLeDiff, Nat.reduceLT, reduceIte, reduceCtorEq, Nat.succ_ne_zero, elemsC, Int.reduceToNat, Nat.reducePow, i0, i3, i7, a1, b1, hlen, hxl]))
      refine vf_of (q3) ?_; (try (simp only [go_sem, Nat.reduceEqDiff, Nat.reduceAdd, Nat.reduceSub, Nat.reduceMul, Nat.reduceLeDiff, Nat.reduceLT, reduceIte, reduceCtorEq, Nat.succ_ne_zero, elemsC, Int.reduceToNat, Nat.reducePow, i0, i3, i7, a1, b1, hlen, hxl, Bool.not_true])); repeat ((first | (simp (disch := (first | omega | (simp only [AL, List.length_map]; omega))) only [AR, AL, ifT, ifF, take_all, List.length_cons, List.length_nil, Int.reduceToNat, Int.reducePow, Nat.reducePow, i0, i3, i7, a1, b1, hlen, hxl, Bool.not_true]) | (refine wk_intro (by kernel_rfl) ?_) | (refine vp_draw (id := 12) (l := [60, 65]) (by kernel_rfl) ?_)); try (simp only [go_sem, Nat.reduceEqDiff, Nat.reduceAdd, Nat.reduceSub, Nat.reduceMul, Nat.reduceLeDiff, Nat.reduceLT, reduceIte, reduceCtorEq, Nat.succ_ne_zero, elemsC, Int.reduceToNat, Nat.reducePow, i0, i3, i7, a1, b1, hlen, hxl, Bool.not_true]))
      exact ⟨⟨.inr ⟨_, _, rfl, rfl⟩, i + 1, rfl, by omega⟩, by omega⟩
end
theorem test_sums (x : SV) (shx : ShpT Tryz.prog 7 23 [x]) : Go.Ev.Fn CX 4 [x] (.bool true) := by
  obtain ⟨ts, e, ht, hts⟩ := shp_tabs (n := 2) shx
  injection e with e
  subst e
  have hL := law19_large (xs := []) (ys := []) (sm := false) (ss := false) (nm := []) (dm := []) (ns := []) (ds := []) (ts := ts) (kind := 0) (k := 0) (n := 0) (by simp) (by simp) ht (fun ps hp => (hts ps hp).1) (by omega)
  have hL : Go.Ev.Fn CX 5 [testV 0 (.sl 0 []) (.sl 0 []) (.sl ts.length (ts.map rowV)) false [] [] false [] [] 0 0] (.bool (bigT [] [] (false, [], []) (false, [], []) ts 0)) := hL
  show Go.Ev.Fn CX 4 [.sl ts.length (ts.map rowV)] _
  cases hb : bigT [] [] (false, [], []) (false, [], []) ts 0
  · rw [hb] at hL
    obtain ⟨-, -, -, s4, -, s6⟩ := bigT_small hb
    obtain ⟨hT, hl⟩ := tabQ_small (fun ps hp => (hts ps hp).2) s6
    have hn : (tabQ ts).length ≤ 4 := by rw [tabQ_len]; exact s4
    have hE := test_Expected hT hn hl
    have hR := ref19_Expected hT hn hl
    have hz := expR_sz hT hn hl
    have hlen := tabQ_len ts
    generalize ts.map rowV = cs at *
    rw [← hlen] at hL ⊢
    by_cases he : (expR (tabQ ts)).2 = 0
    · obtain ⟨g1, g2⟩ := expR_sums he
      rw [he] at hE
      exact sums_main hL hE hT hn hl g1 hz g2
    · have h0 : (expR (tabQ ts)).1 = [] := by
        unfold expR at he ⊢
        by_cases c1 : tabE (tabQ ts) ≠ 0
        · rw [if_pos c1]
        rw [if_neg c1] at he ⊢
        by_cases c2 : (rowR (tabQ ts) ++ colR (tabQ ts)).any (fun x => decide (x = 0)) = true
        · rw [if_pos c2]
        · rw [if_neg c2] at he; exact absurd rfl he
      rw [h0] at hE hR
      exact sums_err hL he hE hR
  · rw [hb] at hL
    exact sums_large hL
end Go.Proofs.YtdnmhnjblgkjaaaGreat
