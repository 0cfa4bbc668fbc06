/- Part 11 of the proof: the evaluator, contracts of functions and their plain laws (joined by program). No condition. -/
import Derived.Test.YtdnmhnjblgkjaaaGreatPart10
/- vernierref2.Rats; vernierlaw19.TestStatistics, in the evaluator. -/
namespace Go.Proofs.YtdnmhnjblgkjaaaGreat
set_option linter.unusedSimpArgs false
set_option linter.unusedVariables false
set_option maxRecDepth 8000
open Go.Ev
theorem ts_test : fieldTs Tryz.prog 28 = [3, 22, 22, 23, 26, 26, 3, 3] := by kernel_rfl
theorem len_eight {α : Type} {l : List α} (h : l.length = 8) : ∃ a b c d e f g i, l = [a, b, c, d, e, f, g, i] := by
  match l, h with
  | [a, b, c, d, e, f, g, i], _ => exact ⟨a, b, c, d, e, f, g, i, rfl⟩
theorem shp_test {n : Nat} {ss : List SV} (h : ShpT Tryz.prog (n + 6) 28 ss) : ∃ (kind : Int) (xs ys : List InR) (ts : List (List InR)) (sm : Bool) (nm dm : List Nat) (s : Bool) (ns ds : List Nat) (k m : Int),
    SV.agg ss = testV kind (rowV xs) (rowV ys) (.sl ts.length (ts.map rowV)) sm nm dm s ns ds k m ∧ (Lit.int .i64 k).wf = true ∧ (Lit.int .i64 m).wf = true ∧ xs.length ≤ maxLen ∧ ys.length ≤ maxLen ∧ ts.length ≤ maxLen ∧ (∀ p ∈ xs, p.ok) ∧ (∀ p ∈ ys, p.ok) ∧ (∀ ps ∈ ts, ps.length ≤ maxLen ∧ ∀ p ∈ ps, p.ok) ∧ okL nm ∧ okL dm ∧ okL ns ∧ okL ds := by
  obtain ⟨parts, rfl, hl, hp⟩ := shp_struct ts_test (by simp) h
  obtain ⟨a, b, c, d, e, f, g, i, rfl⟩ := len_eight hl
  obtain ⟨kind, rfl, w0⟩ := shp_int (hp 0 _ a rfl rfl)
  obtain ⟨xs, rfl, x1, x2⟩ := shp_rats (n := n + 1) (hp 1 _ b rfl rfl)
  obtain ⟨ys, rfl, y1, y2⟩ := shp_rats (n := n + 1) (hp 2 _ c rfl rfl)
  obtain ⟨ts, rfl, t1, t2⟩ := shp_tabs (n := n) (hp 3 _ d rfl rfl)
  obtain ⟨sm, nm, dm, rfl, m1, m2, -, -⟩ := shp_rat (n := n + 2) (hp 4 _ e rfl rfl)
  obtain ⟨s, ns, ds, rfl, s1, s2, -, -⟩ := shp_rat (n := n + 2) (hp 5 _ f rfl rfl)
  obtain ⟨k, rfl, w6⟩ := shp_int (hp 6 _ g rfl rfl)
  obtain ⟨m, rfl, w7⟩ := shp_int (hp 7 _ i rfl rfl)
  exact ⟨kind, xs, ys, ts, sm, nm, dm, s, ns, ds, k, m, rfl, w6, w7, x1, y1, t1, x2, y2, t2, m1, m2, s1, s2⟩
theorem wf_int64' {n : Int} (h : (Lit.int .i64 n).wf = true) : -9223372036854775808 ≤ n ∧ n < 9223372036854775808 := by
  have h' : decide (IntKind.i64.min ≤ n ∧ n ≤ IntKind.i64.max) = true := by simpa [Lit.wf] using h
  have := of_decide_eq_true h'
  simp only [show IntKind.i64.min = -9223372036854775808 from rfl, show IntKind.i64.max = 9223372036854775807 from rfl] at this
  omega
theorem ref2_Rats {l : List Rat} {L : Nat} (hz : ∀ x ∈ l, szR x L) (hL : 1 ≤ L) (hL2 : L ≤ 1000000) (hl : l.length ≤ 1000) : Go.Ev.Fn CX 12 [.sl l.length (rvsC l), .sl l.length (rvsC l)] (.bool true) := by
  have hlen := rvsC_len l
  have hat := fun {i : Nat} (hi : i < l.length) => rvsC_at (l := l) (i := i) hi
  generalize hcs : rvsC l = cs at *
  refine Go.Ev.Fn.intro (fn := Tryz.f12) (body := (Tryz.f12).body.get!) (by kernel_rfl) (by kernel_rfl) (by kernel_rfl) (fun _ => rfl) (Nat.le_of_ble_eq_true (by kernel_rfl)) ?_; unfold Tryz.f12; simp only [Option.get!_some]
  repeat (first | (simp only [go_sem, Nat.reduceEqDiff, Nat.reduceAdd, Nat.reduceSub, Nat.reduceMul, Nat.reduceLeDiff, Nat.reduceLT, reduceIte, reduceCtorEq, Nat.succ_ne_zero, elemsC, Int.reduceToNat, Nat.reducePow]) | (simp (disch := (first | omega | (simp only [AL, List.length_map]; omega))) only [AR, AL, ifT, ifF, take_all, List.length_cons, List.length_nil, Int.reduceToNat, Int.reducePow, Nat.reducePow]) | (refine wk_intro (by kernel_rfl) ?_) | (refine vp_draw (id := 6) (l := []) (by kernel_rfl) ?_))
  refine vp_loop_inv (fun s => s.tmp 0 = .sv (.sl l.length cs) ∧ s.tmp 1 = .sv (.sl l.length cs) ∧ ∃ i : Nat, s.tmp 5 = .sv (.int .i64 (i : Int)) ∧ i ≤ l.length) (fun s => match s.tmp 5 with | .sv (.int _ i) => l.length - i.toNat | _ => 0) ⟨rfl, rfl, 0, rfl, by omega⟩ ?_
  rintro s ⟨i0, i1, i, i5, hi⟩
  by_cases hend : i = l.length
  · subst hend
    repeat (first | (simp only [go_sem, Nat.reduceEqDiff, Nat.reduceAdd, Nat.reduceSub, Nat.reduceMul, Nat.reduceLeDiff, Nat.reduceLT, reduceIte, reduceCtorEq, Nat.succ_ne_zero, elemsC, Int.reduceToNat, Nat.reducePow, i0, i1, i5]) | (simp (disch := (first | omega | (simp only [AL, List.length_map]; omega))) only [AR, AL, ifT, ifF, take_all, List.length_cons, List.length_nil, Int.reduceToNat, Int.reducePow, Nat.reducePow, i0, i1, i5]) | (refine wk_intro (by kernel_rfl) ?_) | (refine vp_draw (id := 6) (l := []) (by kernel_rfl) ?_))
  · obtain ⟨rest, g1⟩ := hat (i := i) (by omega)
    have zx := hz _ (getD_mem (l := l) (i := i) (by omega))
    have sm := ref2_Same (RatA_rv zx) (RatA_rv zx) hL hL (by omega)
    rw [decide_eq_true rfl] at sm
    generalize l.getD i 0 = x at *
    clear hat hz zx
    repeat (first | (simp only [go_sem, Nat.reduceEqDiff, Nat.reduceAdd, Nat.reduceSub, Nat.reduceMul, Nat.reduceLeDiff, Nat.reduceLT, reduceIte, reduceCtorEq, Nat.succ_ne_zero, elemsC, Int.reduceToNat, Nat.reducePow, i0, i1, i5, g1, hlen, Bool.not_true]) | (simp (disch := (first | omega | (simp only [AL, List.length_map]; omega))) only [AR, AL, ifT, ifF, take_all, List.length_cons, List.length_nil, Int.reduceToNat, Int.reducePow, Nat.reducePow, i0, i1, i5, g1, hlen, Bool.not_true]) | (refine wk_intro (by kernel_rfl) ?_) | (refine vp_draw (id := 6) (l := []) (by kernel_rfl) ?_) | (refine vf_of (by first | exact sm) ?_))
    exact ⟨⟨i + 1, rfl, by omega⟩, by omega⟩
section
variable {kind k n : Int} {X' Y : Nat} {xs ys cs : List SV} {sm ss : Bool} {nm dm ns ds : List Nat} {T X : List (List Rat)}
theorem stats_large {tn : Nat} (hL : Go.Ev.Fn CX 5 [testV kind (.sl X' xs) (.sl Y ys) (.sl tn cs) sm nm dm ss ns ds k n] (.bool true)) :
    Go.Ev.Fn CX 3 [testV kind (.sl X' xs) (.sl Y ys) (.sl tn cs) sm nm dm ss ns ds k n] (.bool true) := by
  refine Go.Ev.Fn.intro (fn := Tryz.f3) (body := (Tryz.f3).body.get!) (by kernel_rfl) (by kernel_rfl) (by kernel_rfl) (fun _ => rfl) (Nat.le_of_ble_eq_true (by kernel_rfl)) ?_; unfold Tryz.f3; simp only [Option.get!_some]
  repeat (first | (simp only [go_sem, Nat.reduceEqDiff, Nat.reduceAdd, Nat.reduceSub, Nat.reduceMul, Nat.reduceLeDiff, Nat.reduceLT, reduceIte, reduceCtorEq, Nat.succ_ne_zero, elemsC, Int.reduceToNat, Nat.reducePow]) | (simp (disch := (first | omega | (simp only [AL, List.length_map]; omega))) only [AR, AL, ifT, ifF, take_all, List.length_cons, List.length_nil, Int.reduceToNat, Int.reducePow, Nat.reducePow]) | (refine wk_intro (by kernel_rfl) ?_) | (refine vp_draw (id := 12) (l := [76, 80]) (by kernel_rfl) ?_) | (refine vf_of (by first | exact hL) ?_))
set_option maxHeartbeats 1000000 in
theorem stats_main {r : Res} {e : Int} {tn : Nat} (hL : Go.Ev.Fn CX 5 [testV kind (.sl X' xs) (.sl Y ys) (.sl tn cs) sm nm dm ss ns ds k n] (.bool false))
    (s1 : Go.Ev.Fn CX 6 [testV kind (.sl X' xs) (.sl Y ys) (.sl tn cs) sm nm dm ss ns ds k n] (resV r))
    (s2 : Go.Ev.Fn CX 7 [testV kind (.sl X' xs) (.sl Y ys) (.sl tn cs) sm nm dm ss ns ds k n] (resV r))
    (hE : Go.Ev.Fn CX 8 [.sl tn cs] (.tup [.sl X.length (tabsC X), .int .i64 e])) (hR : Go.Ev.Fn CX 9 [.sl tn cs] (.tup [.sl X.length (tabsC X), .int .i64 e]))
    (n1 : Go.Ev.Fn CX 11 [intsV r.2.1, intsV r.2.1] (.bool true)) (e1 : Go.Ev.Fn CX 10 [rv r.1, rv r.1] (.bool true))
    (hX : X.length ≤ 4) (hz : ∀ r ∈ X, ∀ x ∈ r, szR x 400) (hw : ∀ r ∈ X, r.length ≤ 4) :
    Go.Ev.Fn CX 3 [testV kind (.sl X' xs) (.sl Y ys) (.sl tn cs) sm nm dm ss ns ds k n] (.bool true) := by
  obtain ⟨q, dg, f⟩ := r
  have hxt := fun {i : Nat} (hi : i < X.length) => tabsC_at X hi
  have hxl := tabsC_len X
  have hrt := fun i (hi : i < X.length) => ref2_Rats (hz _ (getD_mem' (l := X) (d := []) hi)) (by omega) (by omega) (by have := hw _ (getD_mem' (l := X) (d := []) hi); omega)
  have hwi := fun i (hi : i < X.length) => hw _ (getD_mem' (l := X) (d := []) hi)
  generalize hxc : tabsC X = xc at *
  clear hz hw hxc
  refine Go.Ev.Fn.intro (fn := Tryz.f3) (body := (Tryz.f3).body.get!) (by kernel_rfl) (by kernel_rfl) (by kernel_rfl) (fun _ => rfl) (Nat.le_of_ble_eq_true (by kernel_rfl)) ?_; unfold Tryz.f3; simp only [Option.get!_some]
  repeat (first | (simp only [go_sem, Nat.reduceEqDiff, Nat.reduceAdd, Nat.reduceSub, Nat.reduceMul, Nat.reduceLeDiff, Nat.reduceLT, reduceIte, reduceCtorEq, Nat.succ_ne_zero, elemsC, Int.reduceToNat, Nat.reducePow, Bool.not_true, bne_self_eq_false]) | (simp (disch := (first | omega | (simp only [AL, List.length_map]; omega))) only [AR, AL, ifT, ifF, take_all, List.length_cons, List.length_nil, Int.reduceToNat, Int.reducePow, Nat.reducePow, Bool.not_true, bne_self_eq_false]) | (refine wk_intro (by kernel_rfl) ?_) | (refine vp_draw (id := 12) (l := [76, 80]) (by kernel_rfl) ?_) | (refine vf_of (by first | exact hL | exact s1 | exact s2 | exact hE | exact hR | exact e1 | exact n1) ?_))
  refine vp_loop_inv (fun s => s.tmp 9 = .sv (.sl X.length xc) ∧ s.tmp 11 = .sv (.sl X.length xc) ∧ ((s.tmp 76 = .undef ∧ s.tmp 80 = .undef) ∨ ∃ u v, s.tmp 76 = .sv u ∧ s.tmp 80 = .sv v) ∧
      ∃ i : Nat, s.tmp 13 = .sv (.int .i64 (i : Int)) ∧ i ≤ X.length)
    (fun s => match s.tmp 13 with | .sv (.int _ i) => X.length - i.toNat | _ => 0) ⟨rfl, rfl, .inl ⟨rfl, rfl⟩, 0, rfl, by omega⟩ ?_
  rintro s3 ⟨i9, i11, hu, i, i13, hi⟩
  by_cases hend : i = X.length
  · subst hend
    clear hxt hrt hwi
    repeat (first | (simp only [go_sem, Nat.reduceEqDiff, Nat.reduceAdd, Nat.reduceSub, Nat.reduceMul, Nat.reduceLeDiff, Nat.reduceLT, reduceIte, reduceCtorEq, Nat.succ_ne_zero, elemsC, Int.reduceToNat, Nat.reducePow, i9, i11, i13]) | (simp (disch := (first | omega | (simp only [AL, List.length_map]; omega))) only [AR, AL, ifT, ifF, take_all, List.length_cons, List.length_nil, Int.reduceToNat, Int.reducePow, Nat.reducePow, i9, i11, i13]) | (refine wk_intro (by kernel_rfl) ?_) | (refine vp_draw (id := 12) (l := [76, 80]) (by kernel_rfl) ?_) | (refine vf_of (by first | exact law19_known) ?_))
  · have b1 := hxt (i := i) (by omega)
    have rt := hrt i (by omega)
    have hwi' := hwi i (by omega)
    generalize rvsC (X.getD i []) = rx at *
    generalize (X.getD i []).length = w at *
    clear hxt hrt hwi
    rcases hu with ⟨u1, u2⟩ | ⟨u, v, u1, u2⟩
    · repeat (first | (simp only [go_sem, Nat.reduceEqDiff, Nat.reduceAdd, Nat.reduceSub, Nat.reduceMul, Nat.reduceLeDiff, Nat.reduceLT, reduceIte, reduceCtorEq, Nat.succ_ne_zero, elemsC, Int.reduceToNat, Nat.reducePow, i9, i11, i13, u1, u2, b1, hxl]) | (simp (disch := (first | omega | (simp only [AL, List.length_map]; omega))) only [AR, AL, ifT, ifF, take_all, List.length_cons, List.length_nil, Int.reduceToNat, Int.reducePow, Nat.reducePow, i9, i11, i13, u1, u2, b1, hxl]) | (refine wk_intro (by kernel_rfl) ?_) | (refine vp_draw (id := 12) (l := [76, 80]) (by kernel_rfl) ?_))
      refine vf_of (rt) ?_; repeat (first | (simp only [go_sem, Nat.reduceEqDiff, Nat.reduceAdd, Nat.reduceSub, Nat.reduceMul, Nat.reduceLeDiff, Nat.reduceLT, reduceIte, reduceCtorEq, Nat.succ_ne_zero, elemsC, Int.reduceToNat, Nat.reducePow, i9, i11, i13, b1, hxl, Bool.not_true]) | (simp (disch := (first | omega | (simp only [AL, List.length_map]; omega))) only [AR, AL, ifT, ifF, take_all, List.length_cons, List.length_nil, Int.reduceToNat, Int.reducePow, Nat.reducePow, i9, i11, i13, b1, hxl, Bool.not_true]) | (refine wk_intro (by kernel_rfl) ?_) | (refine vp_draw (id := 12) (l := [76, 80]) (by kernel_rfl) ?_))
      exact ⟨⟨.inr ⟨_, _, rfl, rfl⟩, i + 1, rfl, by omega⟩, by omega⟩
    · repeat (first | (simp only [go_sem, Nat.reduceEqDiff, Nat.reduceAdd, Nat.reduceSub, Nat.reduceMul, Nat.reduceLeDiff, Nat.reduceLT, reduceIte, reduceCtorEq, Nat.succ_ne_zero, elemsC, Int.reduceToNat, Nat.reducePow, i9, i11, i13, u1, u2, b1, hxl]) | (simp (disch := (first | omega | (simp only [AL, List.length_map]; omega))) only [AR, AL, ifT, ifF, take_all, List.length_cons, List.length_nil, Int.reduceToNat, Int.reducePow, Nat.reducePow, i9, i11, i13, u1, u2, b1, hxl]) | (refine wk_intro (by kernel_rfl) ?_) | (refine vp_draw (id := 12) (l := [76, 80]) (by kernel_rfl) ?_))
      refine vf_of (rt) ?_; repeat (first | (simp only [go_sem, Nat.reduceEqDiff, Nat.reduceAdd, Nat.reduceSub, Nat.reduceMul, Nat.reduceLeDiff, Nat.reduceLT, reduceIte, reduceCtorEq, Nat.succ_ne_zero, elemsC, Int.reduceToNat, Nat.reducePow, i9, i11, i13, b1, hxl, Bool.not_true]) | (simp (disch := (first | omega | (simp only [AL, List.length_map]; omega))) only [AR, AL, ifT, ifF, take_all, List.length_cons, List.length_nil, Int.reduceToNat, Int.reducePow, Nat.reducePow, i9, i11, i13, b1, hxl, Bool.not_true]) | (refine wk_intro (by kernel_rfl) ?_) | (refine vp_draw (id := 12) (l := [76, 80]) (by kernel_rfl) ?_))
      exact ⟨⟨.inr ⟨_, _, rfl, rfl⟩, i + 1, rfl, by omega⟩, by omega⟩
end
theorem same_res2 (r : Res) (hz : szR r.1 1000000) (hd : r.2.1.length ≤ 1000) : Go.Ev.Fn CX 11 [intsV r.2.1, intsV r.2.1] (.bool true) ∧ Go.Ev.Fn CX 10 [rv r.1, rv r.1] (.bool true) := by
  have n1 := law19_numbers r.2.1 r.2.1 hd hd
  rw [decide_eq_true rfl] at n1
  have e1 := ref2_Same (RatA_rv hz) (RatA_rv hz) (by omega) (by omega) (by omega)
  rw [decide_eq_true rfl] at e1
  exact ⟨n1, e1⟩
theorem statR_sz {kind : Int} {r : Res} (h : szR r.1 1000000) : szR (statR kind r).1 1000000 := by
  unfold statR
  split
  · exact szR_zero (by omega)
  split
  · exact szR_zero (by omega)
  split
  · exact szR_zero (by omega)
  exact h
theorem statR_deg {kind : Int} {r : Res} (h : r.2.1.length ≤ 1000) : (statR kind r).2.1.length ≤ 1000 := by
  unfold statR
  split
  · simp
  split
  · simp
  split
  · simp
  exact h
theorem expR_shape {cs : List SV} {T : List (List Rat)} (h : TabC cs T 1) (hn : T.length ≤ 4) (hl : ∀ r ∈ T, r.length ≤ 4) : (expR T).1.length ≤ 4 ∧ ∀ r ∈ (expR T).1, r.length ≤ 4 := by
  unfold expR
  split
  · exact ⟨by simp, fun r hr => by cases hr⟩
  split
  · exact ⟨by simp, fun r hr => by cases hr⟩
  refine ⟨by rw [List.length_map, rowR_len]; exact hn, fun r hr => ?_⟩
  obtain ⟨a, -, rfl⟩ := List.mem_map.1 hr
  rw [List.length_map, colR_len]
  exact tab_ok hl 0
theorem raw_szd {cs : List SV} {kind k n : Int} {l m : List Rat} {T : List (List Rat)} {mu sg : Rat} (hl : ∀ x ∈ l, szR x 1) (hm : ∀ x ∈ m, szR x 1) (hl12 : l.length ≤ 12) (hm12 : m.length ≤ 12) (hT : TabC cs T 1) (hn : T.length ≤ 4) (hTl : ∀ r ∈ T, r.length ≤ 4) (hmu : szR mu 1) (hsg : szR sg 1)
    (bk : -9223372036854775808 ≤ k ∧ k < 9223372036854775808) : szR (rawR kind l m T mu sg k n).1 1000000 ∧ (rawR kind l m T mu sg k n).2.1.length ≤ 1000 := by
  have h10 : ∀ x ∈ l, szR x 10 := fun x hx => szR_mono (hl x hx) (by omega)
  have m10 : ∀ x ∈ m, szR x 10 := fun x hx => szR_mono (hm x hx) (by omega)
  have z0 : szR 0 1000000 := szR_zero (by omega)
  unfold rawR
  split
  · unfold zR
    split
    · exact ⟨z0, by simp⟩
    split
    · exact ⟨z0, by simp⟩
    have zd := szR_sub (sz_mean (by omega) hl hl12) hmu (by omega)
    exact ⟨szR_mono (szR_div (szR_mul (int_szR (n := (l.length : Int)) (by omega)) (szR_mul zd zd (by omega)) (by omega)) (szR_mul hsg hsg (by omega)) (by omega) (by omega)) (by omega), by simp⟩
  split
  · exact ⟨sz_stu h10 (szR_mono hmu (by omega)) hl12, deg_stu⟩
  split
  · split
    · exact ⟨z0, by simp⟩
    · refine ⟨sz_stu (fun x hx => ?_) (szR_zero (by omega)) (by rw [List.length_zipWith]; omega), deg_stu⟩
      obtain ⟨i, hi, rfl⟩ := List.getElem_of_mem hx
      rw [List.getElem_zipWith]
      exact szR_mono (szR_sub (hl _ (List.getElem_mem _)) (hm _ (List.getElem_mem _)) (by omega)) (by omega)
  split
  · exact ⟨sz_pool h10 m10 hl12 hm12, deg_pool⟩
  split
  · exact ⟨sz_fis h10 m10 hl12 hm12, deg_fis⟩
  split
  · unfold fitR
    split
    · exact ⟨z0, by simp⟩
    split
    · exact ⟨z0, by simp⟩
    split
    · exact ⟨z0, by simp⟩
    have zo := szR_div (sz_sum12 (by omega) hl hl12) (sz_sum12 (by omega) hm hm12) (by omega) (by omega)
    have hwz : ∀ x ∈ wantR l m, szR x 400 := by
      intro x hx
      obtain ⟨y, hy, rfl⟩ := List.mem_map.1 hx
      exact szR_mono (szR_mul zo (hm y hy) (by omega)) (by omega)
    rename_i c1 c2 c3
    have hlm : l.length = m.length := by omega
    exact ⟨szR_mono (miss_sz hl hwz hl12 (by rw [want_len]; exact hlm)) (by omega), by simp⟩
  split
  · unfold tabR
    split
    · exact ⟨z0, by simp⟩
    · rename_i c
      have he : (expR T).2 = 0 := by omega
      obtain ⟨g1, g2⟩ := expR_sums he
      have fz := flat_sz (tab_szall (by omega) hT) (expR_sz hT hn hTl) g1 hTl (fun i hi => (g2 i hi).1)
      exact ⟨szR_mono (sz_sum12 (by omega) fz (by rw [flat_len g1]; omega)) (by omega), by simp⟩
  split
  · unfold binR
    split
    · exact ⟨szR_mono (int_szR (by omega)) (by omega), by simp⟩
    · exact ⟨z0, by simp⟩
  exact ⟨z0, by simp⟩
theorem test_statistics (ss0 : List SV) (sh0 : ShpT Tryz.prog 8 28 ss0) : Go.Ev.Fn CX 3 [.agg ss0] (.bool true) := by
  obtain ⟨kind, xs, ys, ts, sm, nm, dm, s, ns, ds, k, n, e, w6, w7, x1, y1, t1, x2, y2, t2, m1, m2, s1, s2⟩ := shp_test (n := 2) sh0
  rw [e]
  clear e sh0
  have bk := wf_int64' w6
  have bn := wf_int64' w7
  have hL := law19_large (kind := kind) (k := k) (sm := sm) (nm := nm) (dm := dm) (ss := s) (ns := ns) (ds := ds) x1 y1 t1 (fun ps hp => (t2 ps hp).1) bn
  cases hb : bigT xs ys (sm, nm, dm) (s, ns, ds) ts n
  rotate_left
  · rw [hb] at hL
    exact stats_large hL
  rw [hb] at hL
  obtain ⟨b1, b2, b3, b4, -, b6⟩ := bigT_small hb
  obtain ⟨hX, hXl⟩ := bigR_row b1 x2
  obtain ⟨hY, hYl⟩ := bigR_row b2 y2
  have b3s := (bigR_small b3).2
  have hM : RatA (ratV sm nm dm) (InR.q (sm, nm, dm)) 1 := ⟨_, _, _, rfl, m1, m2, (b3s (sm, nm, dm) (by simp)).1, (b3s (sm, nm, dm) (by simp)).2, rfl⟩
  have hS : RatA (ratV s ns ds) (InR.q (s, ns, ds)) 1 := ⟨_, _, _, rfl, s1, s2, (b3s (s, ns, ds) (by simp)).1, (b3s (s, ns, ds) (by simp)).2, rfl⟩
  obtain ⟨hT, hTl⟩ := tabQ_small (fun ps hp => (t2 ps hp).2) b6
  have hTn : (tabQ ts).length ≤ 4 := by rw [tabQ_len]; exact b4
  have lx : (xs.map InR.q).length = xs.length := List.length_map _
  have ly : (ys.map InR.q).length = ys.length := List.length_map _
  have lt := tabQ_len ts
  have r1 := test_raw (kind := kind) (k := k) (n := n) hX hY (by omega) (by omega) hT hTn hTl hM hS bn bk
  have r2 := ref19_raw (kind := kind) (k := k) (n := n) hX hY (by omega) (by omega) hT hTn hTl hM hS bn bk
  obtain ⟨zr, dr⟩ := raw_szd (kind := kind) (k := k) (n := n) (row_sz (by omega) hX) (row_sz (by omega) hY) (by omega) (by omega) hT hTn hTl (szR_of hM (by omega)) (szR_of hS (by omega)) bk
  have q1 := test_Statistic r1 zr dr
  have q2 := ref19_Statistic r2 zr dr
  obtain ⟨n1, e1⟩ := same_res2 _ (statR_sz (kind := kind) zr) (statR_deg (kind := kind) dr)
  have hE := test_Expected hT hTn hTl
  have hR := ref19_Expected hT hTn hTl
  obtain ⟨g1, g2⟩ := expR_shape hT hTn hTl
  rw [lx, ly, lt] at q1 q2
  rw [lt] at hE hR
  exact stats_main hL q1 q2 hE hR n1 e1 g1 (expR_sz hT hTn hTl) g2
end Go.Proofs.YtdnmhnjblgkjaaaGreat
