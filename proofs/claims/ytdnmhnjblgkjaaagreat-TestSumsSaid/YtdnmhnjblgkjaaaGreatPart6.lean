/- Part 6 of the proof: the evaluator, contracts of functions and their plain laws (joined by program). No condition. -/
import Derived.Test.YtdnmhnjblgkjaaaGreatPart5
/- The document's naturals (vernierref1): small functions, in the evaluator. -/
namespace Go.Proofs.YtdnmhnjblgkjaaaGreat
set_option linter.unusedSimpArgs false
set_option linter.unusedVariables false
set_option maxRecDepth 8000
open Go.Ev
theorem ref1_Trim (xs : List Nat) (hx : okL xs) (hl : xs.length ≤ 274877906944) : Go.Ev.Fn CX 69 [natV xs] (natV (lim (wth xs))) := by
  refine Go.Ev.Fn.intro (fn := Tryz.f69) (body := (Tryz.f69).body.get!) (by kernel_rfl) (by kernel_rfl) (by kernel_rfl) (fun _ => rfl) (Nat.le_of_ble_eq_true (by kernel_rfl)) ?_; unfold Tryz.f69; simp only [Option.get!_some]
  (try (simp only [go_sem, Nat.reduceEqDiff, Nat.reduceAdd, Nat.reduceSub, Nat.reduceMul, Nat.reduceLeDiff, Nat.reduceLT, reduceIte, reduceCtorEq, Nat.succ_ne_zero, elemsC, Int.reduceToNat, Nat.reducePow])); repeat ((first | (simp (disch := (first | omega | (simp only [AL, List.length_map]; omega))) only [AR, AL, ifT, ifF, take_all, List.length_cons, List.length_nil, Int.reduceToNat, Int.reducePow, Nat.reducePow]) | (refine wk_intro (by kernel_rfl) ?_) | (refine vp_draw (l := []) (by kernel_rfl) ?_)); try (simp only [go_sem, Nat.reduceEqDiff, Nat.reduceAdd, Nat.reduceSub, Nat.reduceMul, Nat.reduceLeDiff, Nat.reduceLT, reduceIte, reduceCtorEq, Nat.succ_ne_zero, elemsC, Int.reduceToNat, Nat.reducePow]))
  refine vp_loop_inv (fun s => s.tmp 0 = .sv (natV xs) ∧ s.gen 18 = 0 ∧ ∃ n : Nat, s.tmp 3 = .sv (.int .i64 n) ∧ n ≤ xs.length ∧ lim (wth (xs.take n)) = lim (wth xs)) (fun s => match s.tmp 3 with | .sv (.int _ i) => i.toNat | _ => 0) ?_ ?_
  · exact ⟨rfl, rfl, xs.length, rfl, Nat.le_refl _, by rw [List.take_length]⟩
  rintro s ⟨i0, ig, n, i3, hn, he⟩
  rcases Nat.eq_zero_or_pos n with rfl | h0
  · have e : xs.take 0 = [] := List.take_zero
    rw [e] at he
    rw [← he, wth_nil, lim_zero]
    (try (simp only [go_sem, Nat.reduceEqDiff, Nat.reduceAdd, Nat.reduceSub, Nat.reduceMul, Nat.reduceLeDiff, Nat.reduceLT, reduceIte, reduceCtorEq, Nat.succ_ne_zero, elemsC, Int.reduceToNat, Nat.reducePow, i0, i3, ig])); repeat ((first | (simp (disch := (first | omega | (simp only [AL, List.length_map]; omega))) only [AR, AL, ifT, ifF, take_all, List.length_cons, List.length_nil, Int.reduceToNat, Int.reducePow, Nat.reducePow, i0, i3, ig]) | (refine wk_intro (by kernel_rfl) ?_) | (refine vp_draw (l := []) (by kernel_rfl) ?_)); try (simp only [go_sem, Nat.reduceEqDiff, Nat.reduceAdd, Nat.reduceSub, Nat.reduceMul, Nat.reduceLeDiff, Nat.reduceLT, reduceIte, reduceCtorEq, Nat.succ_ne_zero, elemsC, Int.reduceToNat, Nat.reducePow, i0, i3, ig]))
    exact ro_ref (cs := []) (by decide) (by simp [St.put, St.new, ig]) rfl
  · by_cases hz : xs.getD (n - 1) 0 = 0
    · (try (simp only [go_sem, Nat.reduceEqDiff, Nat.reduceAdd, Nat.reduceSub, Nat.reduceMul, Nat.reduceLeDiff, Nat.reduceLT, reduceIte, reduceCtorEq, Nat.succ_ne_zero, elemsC, Int.reduceToNat, Nat.reducePow, i0, i3, ig, hz])); repeat ((first | (simp (disch := (first | omega | (simp only [AL, List.length_map]; omega))) only [AR, AL, ifT, ifF, take_all, List.length_cons, List.length_nil, Int.reduceToNat, Int.reducePow, Nat.reducePow, i0, i3, ig, hz]) | (refine wk_intro (by kernel_rfl) ?_) | (refine vp_draw (l := []) (by kernel_rfl) ?_)); try (simp only [go_sem, Nat.reduceEqDiff, Nat.reduceAdd, Nat.reduceSub, Nat.reduceMul, Nat.reduceLeDiff, Nat.reduceLT, reduceIte, reduceCtorEq, Nat.succ_ne_zero, elemsC, Int.reduceToNat, Nat.reducePow, i0, i3, ig, hz]))
      have e1 : xs.take n = xs.take (n - 1) ++ [0] := by
        have h1 := List.take_add_one (l := xs) (i := n - 1)
        rw [show n - 1 + 1 = n by omega] at h1
        rw [h1, ← hz, List.getD_eq_getElem?_getD, List.getElem?_eq_getElem (by omega)]
        rfl
      rw [e1, lim_snoc0] at he
      exact ⟨⟨n - 1, rfl, by omega, he⟩, by omega⟩
    · (try (simp only [go_sem, Nat.reduceEqDiff, Nat.reduceAdd, Nat.reduceSub, Nat.reduceMul, Nat.reduceLeDiff, Nat.reduceLT, reduceIte, reduceCtorEq, Nat.succ_ne_zero, elemsC, Int.reduceToNat, Nat.reducePow, i0, i3, ig, N0])); repeat ((first | (simp (disch := (first | omega | (simp only [AL, List.length_map]; omega))) only [AR, AL, ifT, ifF, take_all, List.length_cons, List.length_nil, Int.reduceToNat, Int.reducePow, Nat.reducePow, i0, i3, ig, N0]) | (refine wk_intro (by kernel_rfl) ?_) | (refine vp_draw (l := []) (by kernel_rfl) ?_)); try (simp only [go_sem, Nat.reduceEqDiff, Nat.reduceAdd, Nat.reduceSub, Nat.reduceMul, Nat.reduceLeDiff, Nat.reduceLT, reduceIte, reduceCtorEq, Nat.succ_ne_zero, elemsC, Int.reduceToNat, Nat.reducePow, i0, i3, ig, N0]))
      have e1 : (xs.take n).length = n := by rw [List.length_take]; omega
      have e2 : trimL (xs.take n) := by
        refine isT_iff.1 ?_
        have e3 : (xs.take n).getD (n - 1) 0 = xs.getD (n - 1) 0 := by
          simp only [List.getD_eq_getElem?_getD]
          rw [List.getElem?_take_of_lt (by omega)]
        unfold isT
        rw [e1, e3]
        rw [bne_iff_ne.2 hz, Bool.or_true]
      rw [← he, ← lim_unique (okL_take hx n) e2]
      refine ro_ref (cs := (xs.take n).map limb) (by decide) (by simp [St.put, St.grow]) ?_
      rw [List.drop_zero, Nat.mul_one, List.take_of_length_le (by rw [List.length_map]; omega), natV_eq e1]
theorem ref1_at (xs : List Nat) (i : Nat) (hx : okL xs) (hl : xs.length ≤ 1099511627776) (hi : i ≤ 1099511627776) : Go.Ev.Fn CX 95 [natV xs, .int .i64 i] (.int .u64 (xs.getD i 0 : Nat)) := by
  refine Go.Ev.Fn.intro (fn := Tryz.f95) (body := (Tryz.f95).body.get!) (by kernel_rfl) (by kernel_rfl) (by kernel_rfl) (fun _ => rfl) (Nat.le_of_ble_eq_true (by kernel_rfl)) ?_; unfold Tryz.f95; simp only [Option.get!_some]
  have h := getD_lt hx i
  by_cases h1 : i < xs.length
  · (try (simp only [go_sem, Nat.reduceEqDiff, Nat.reduceAdd, Nat.reduceSub, Nat.reduceMul, Nat.reduceLeDiff, Nat.reduceLT, reduceIte, reduceCtorEq, Nat.succ_ne_zero, elemsC, Int.reduceToNat, Nat.reducePow])); repeat ((first | (simp (disch := (first | omega | (simp only [AL, List.length_map]; omega))) only [AR, AL, ifT, ifF, take_all, List.length_cons, List.length_nil, Int.reduceToNat, Int.reducePow, Nat.reducePow]) | (refine wk_intro (by kernel_rfl) ?_) | (refine vp_draw (l := []) (by kernel_rfl) ?_)); try (simp only [go_sem, Nat.reduceEqDiff, Nat.reduceAdd, Nat.reduceSub, Nat.reduceMul, Nat.reduceLeDiff, Nat.reduceLT, reduceIte, reduceCtorEq, Nat.succ_ne_zero, elemsC, Int.reduceToNat, Nat.reducePow]))
  · rw [List.getD_eq_getElem?_getD, List.getElem?_eq_none (by omega)]
    (try (simp only [go_sem, Nat.reduceEqDiff, Nat.reduceAdd, Nat.reduceSub, Nat.reduceMul, Nat.reduceLeDiff, Nat.reduceLT, reduceIte, reduceCtorEq, Nat.succ_ne_zero, elemsC, Int.reduceToNat, Nat.reducePow])); repeat ((first | (simp (disch := (first | omega | (simp only [AL, List.length_map]; omega))) only [AR, AL, ifT, ifF, take_all, List.length_cons, List.length_nil, Int.reduceToNat, Int.reducePow, Nat.reducePow]) | (refine wk_intro (by kernel_rfl) ?_) | (refine vp_draw (l := []) (by kernel_rfl) ?_)); try (simp only [go_sem, Nat.reduceEqDiff, Nat.reduceAdd, Nat.reduceSub, Nat.reduceMul, Nat.reduceLeDiff, Nat.reduceLT, reduceIte, reduceCtorEq, Nat.succ_ne_zero, elemsC, Int.reduceToNat, Nat.reducePow]))
    rfl
theorem ref1_Cmp (xs ys : List Nat) (hx : okL xs) (hy : okL ys) (hl : xs.length ≤ 274877906944) (hm : ys.length ≤ 274877906944) : Go.Ev.Fn CX 73 [natV xs, natV ys] (.int .i64 (cmpN (wth xs) (wth ys))) := by
  refine Go.Ev.Fn.intro (fn := Tryz.f73) (body := (Tryz.f73).body.get!) (by kernel_rfl) (by kernel_rfl) (by kernel_rfl) (fun _ => rfl) (Nat.le_of_ble_eq_true (by kernel_rfl)) ?_; unfold Tryz.f73; simp only [Option.get!_some]
  have lx := lim_length_le hx
  have ly := lim_length_le hy
  (try (simp only [go_sem, Nat.reduceEqDiff, Nat.reduceAdd, Nat.reduceSub, Nat.reduceMul, Nat.reduceLeDiff, Nat.reduceLT, reduceIte, reduceCtorEq, Nat.succ_ne_zero, elemsC, Int.reduceToNat, Nat.reducePow])); repeat ((first | (simp (disch := (first | omega | (simp only [AL, List.length_map]; omega))) only [AR, AL, ifT, ifF, take_all, List.length_cons, List.length_nil, Int.reduceToNat, Int.reducePow, Nat.reducePow]) | (refine wk_intro (by kernel_rfl) ?_) | (refine vp_draw (l := []) (by kernel_rfl) ?_)); try (simp only [go_sem, Nat.reduceEqDiff, Nat.reduceAdd, Nat.reduceSub, Nat.reduceMul, Nat.reduceLeDiff, Nat.reduceLT, reduceIte, reduceCtorEq, Nat.succ_ne_zero, elemsC, Int.reduceToNat, Nat.reducePow]))
  refine vf_of (ref1_Trim xs hx (by omega)) ?_; (try (simp only [go_sem, Nat.reduceEqDiff, Nat.reduceAdd, Nat.reduceSub, Nat.reduceMul, Nat.reduceLeDiff, Nat.reduceLT, reduceIte, reduceCtorEq, Nat.succ_ne_zero, elemsC, Int.reduceToNat, Nat.reducePow])); repeat ((first | (simp (disch := (first | omega | (simp only [AL, List.length_map]; omega))) only [AR, AL, ifT, ifF, take_all, List.length_cons, List.length_nil, Int.reduceToNat, Int.reducePow, Nat.reducePow]) | (refine wk_intro (by kernel_rfl) ?_) | (refine vp_draw (l := []) (by kernel_rfl) ?_)); try (simp only [go_sem, Nat.reduceEqDiff, Nat.reduceAdd, Nat.reduceSub, Nat.reduceMul, Nat.reduceLeDiff, Nat.reduceLT, reduceIte, reduceCtorEq, Nat.succ_ne_zero, elemsC, Int.reduceToNat, Nat.reducePow]))
  refine vf_of (ref1_Trim ys hy (by omega)) ?_; (try (simp only [go_sem, Nat.reduceEqDiff, Nat.reduceAdd, Nat.reduceSub, Nat.reduceMul, Nat.reduceLeDiff, Nat.reduceLT, reduceIte, reduceCtorEq, Nat.succ_ne_zero, elemsC, Int.reduceToNat, Nat.reducePow])); repeat ((first | (simp (disch := (first | omega | (simp only [AL, List.length_map]; omega))) only [AR, AL, ifT, ifF, take_all, List.length_cons, List.length_nil, Int.reduceToNat, Int.reducePow, Nat.reducePow]) | (refine wk_intro (by kernel_rfl) ?_) | (refine vp_draw (l := []) (by kernel_rfl) ?_)); try (simp only [go_sem, Nat.reduceEqDiff, Nat.reduceAdd, Nat.reduceSub, Nat.reduceMul, Nat.reduceLeDiff, Nat.reduceLT, reduceIte, reduceCtorEq, Nat.succ_ne_zero, elemsC, Int.reduceToNat, Nat.reducePow]))
  by_cases h1 : (lim (wth xs)).length = (lim (wth ys)).length
  · (try (simp only [go_sem, Nat.reduceEqDiff, Nat.reduceAdd, Nat.reduceSub, Nat.reduceMul, Nat.reduceLeDiff, Nat.reduceLT, reduceIte, reduceCtorEq, Nat.succ_ne_zero, elemsC, Int.reduceToNat, Nat.reducePow])); repeat ((first | (simp (disch := (first | omega | (simp only [AL, List.length_map]; omega))) only [AR, AL, ifT, ifF, take_all, List.length_cons, List.length_nil, Int.reduceToNat, Int.reducePow, Nat.reducePow]) | (refine wk_intro (by kernel_rfl) ?_)); try (simp only [go_sem, Nat.reduceEqDiff, Nat.reduceAdd, Nat.reduceSub, Nat.reduceMul, Nat.reduceLeDiff, Nat.reduceLT, reduceIte, reduceCtorEq, Nat.succ_ne_zero, elemsC, Int.reduceToNat, Nat.reducePow]))
    refine vp_loop_inv (fun s => s.tmp 5 = .sv (natV (lim (wth xs))) ∧ s.tmp 6 = .sv (natV (lim (wth ys))) ∧ ∃ i : Nat, s.tmp 7 = .sv (.int .i64 ((i : Int) - 1)) ∧ i ≤ (lim (wth xs)).length ∧ (lim (wth xs)).drop i = (lim (wth ys)).drop i)
      (fun s => match s.tmp 7 with | .sv (.int _ i) => (i + 1).toNat | _ => 0) ⟨rfl, rfl, (lim (wth xs)).length, rfl, Nat.le_refl _, ?_⟩ ?_
    · rw [List.drop_length, h1, List.drop_length]
    rintro s ⟨g0, g1, i, g5, hi, hd⟩
    rcases Nat.eq_zero_or_pos i with rfl | hi0
    · have e : cmpN (wth xs) (wth ys) = 0 := by
        have := congrArg wth hd
        rw [List.drop_zero, List.drop_zero, wth_lim, wth_lim] at this
        rw [this]
        simp [cmpN]
      rw [e]
      (try (simp only [go_sem, Nat.reduceEqDiff, Nat.reduceAdd, Nat.reduceSub, Nat.reduceMul, Nat.reduceLeDiff, Nat.reduceLT, reduceIte, reduceCtorEq, Nat.succ_ne_zero, elemsC, Int.reduceToNat, Nat.reducePow, g0, g1, g5])); repeat ((first | (simp (disch := (first | omega | (simp only [AL, List.length_map]; omega))) only [AR, AL, ifT, ifF, take_all, List.length_cons, List.length_nil, Int.reduceToNat, Int.reducePow, Nat.reducePow, g0, g1, g5]) | (refine wk_intro (by kernel_rfl) ?_) | (refine vp_draw (l := []) (by kernel_rfl) ?_)); try (simp only [go_sem, Nat.reduceEqDiff, Nat.reduceAdd, Nat.reduceSub, Nat.reduceMul, Nat.reduceLeDiff, Nat.reduceLT, reduceIte, reduceCtorEq, Nat.succ_ne_zero, elemsC, Int.reduceToNat, Nat.reducePow, g0, g1, g5]))
    · (try (simp only [go_sem, Nat.reduceEqDiff, Nat.reduceAdd, Nat.reduceSub, Nat.reduceMul, Nat.reduceLeDiff, Nat.reduceLT, reduceIte, reduceCtorEq, Nat.succ_ne_zero, elemsC, Int.reduceToNat, Nat.reducePow, g0, g1, g5])); repeat ((first | (simp (disch := (first | omega | (simp only [AL, List.length_map]; omega))) only [AR, AL, ifT, ifF, take_all, List.length_cons, List.length_nil, Int.reduceToNat, Int.reducePow, Nat.reducePow, g0, g1, g5]) | (refine wk_intro (by kernel_rfl) ?_) | (refine vp_draw (l := []) (by kernel_rfl) ?_)); try (simp only [go_sem, Nat.reduceEqDiff, Nat.reduceAdd, Nat.reduceSub, Nat.reduceMul, Nat.reduceLeDiff, Nat.reduceLT, reduceIte, reduceCtorEq, Nat.succ_ne_zero, elemsC, Int.reduceToNat, Nat.reducePow, g0, g1, g5]))
      have hdr : ∀ zs : List Nat, i ≤ zs.length → zs.drop (i - 1) = zs.getD (i - 1) 0 :: zs.drop i := by
        intro zs hz
        rw [List.drop_eq_getElem_cons (show i - 1 < zs.length by omega), List.getD_eq_getElem?_getD, List.getElem?_eq_getElem (show i - 1 < zs.length by omega), show i - 1 + 1 = i by omega]
        rfl
      rcases Nat.lt_trichotomy ((lim (wth xs)).getD (i - 1) 0) ((lim (wth ys)).getD (i - 1) 0) with hc | hc | hc
      · have := wth_lt_of (okL_lim _) (okL_lim _) h1 (i := i - 1) (by omega) (by rw [show i - 1 + 1 = i by omega]; exact hd) hc
        rw [wth_lim, wth_lim] at this
        have e : cmpN (wth xs) (wth ys) = -1 := by simp [cmpN, this]
        rw [e]
        (try (simp only [go_sem, Nat.reduceEqDiff, Nat.reduceAdd, Nat.reduceSub, Nat.reduceMul, Nat.reduceLeDiff, Nat.reduceLT, reduceIte, reduceCtorEq, Nat.succ_ne_zero, elemsC, Int.reduceToNat, Nat.reducePow, g0, g1, g5])); repeat ((first | (simp (disch := (first | omega | (simp only [AL, List.length_map]; omega))) only [AR, AL, ifT, ifF, take_all, List.length_cons, List.length_nil, Int.reduceToNat, Int.reducePow, Nat.reducePow, g0, g1, g5]) | (refine wk_intro (by kernel_rfl) ?_) | (refine vp_draw (l := []) (by kernel_rfl) ?_)); try (simp only [go_sem, Nat.reduceEqDiff, Nat.reduceAdd, Nat.reduceSub, Nat.reduceMul, Nat.reduceLeDiff, Nat.reduceLT, reduceIte, reduceCtorEq, Nat.succ_ne_zero, elemsC, Int.reduceToNat, Nat.reducePow, g0, g1, g5]))
      · (try (simp only [go_sem, Nat.reduceEqDiff, Nat.reduceAdd, Nat.reduceSub, Nat.reduceMul, Nat.reduceLeDiff, Nat.reduceLT, reduceIte, reduceCtorEq, Nat.succ_ne_zero, elemsC, Int.reduceToNat, Nat.reducePow, g0, g1, g5])); repeat ((first | (simp (disch := (first | omega | (simp only [AL, List.length_map]; omega))) only [AR, AL, ifT, ifF, take_all, List.length_cons, List.length_nil, Int.reduceToNat, Int.reducePow, Nat.reducePow, g0, g1, g5]) | (refine wk_intro (by kernel_rfl) ?_) | (refine vp_draw (l := []) (by kernel_rfl) ?_)); try (simp only [go_sem, Nat.reduceEqDiff, Nat.reduceAdd, Nat.reduceSub, Nat.reduceMul, Nat.reduceLeDiff, Nat.reduceLT, reduceIte, reduceCtorEq, Nat.succ_ne_zero, elemsC, Int.reduceToNat, Nat.reducePow, g0, g1, g5]))
        refine ⟨⟨i - 1, ?_, by omega, ?_⟩, by omega⟩
        · simp only [Int.natCast_sub hi0]
        · rw [hdr _ hi, hdr _ (by omega), hc, hd]
      · have := wth_lt_of (okL_lim _) (okL_lim _) h1.symm (i := i - 1) (by omega) (by rw [show i - 1 + 1 = i by omega]; exact hd.symm) hc
        rw [wth_lim, wth_lim] at this
        have e : cmpN (wth xs) (wth ys) = 1 := by unfold cmpN; rw [if_neg (by omega), if_neg (by omega)]
        rw [e]
        (try (simp only [go_sem, Nat.reduceEqDiff, Nat.reduceAdd, Nat.reduceSub, Nat.reduceMul, Nat.reduceLeDiff, Nat.reduceLT, reduceIte, reduceCtorEq, Nat.succ_ne_zero, elemsC, Int.reduceToNat, Nat.reducePow, g0, g1, g5])); repeat ((first | (simp (disch := (first | omega | (simp only [AL, List.length_map]; omega))) only [AR, AL, ifT, ifF, take_all, List.length_cons, List.length_nil, Int.reduceToNat, Int.reducePow, Nat.reducePow, g0, g1, g5]) | (refine wk_intro (by kernel_rfl) ?_) | (refine vp_draw (l := []) (by kernel_rfl) ?_)); try (simp only [go_sem, Nat.reduceEqDiff, Nat.reduceAdd, Nat.reduceSub, Nat.reduceMul, Nat.reduceLeDiff, Nat.reduceLT, reduceIte, reduceCtorEq, Nat.succ_ne_zero, elemsC, Int.reduceToNat, Nat.reducePow, g0, g1, g5]))
  · by_cases h2 : (lim (wth xs)).length < (lim (wth ys)).length
    · have := lim_length_lt h2
      have e : cmpN (wth xs) (wth ys) = -1 := by simp [cmpN, this]
      rw [e]
      (try (simp only [go_sem, Nat.reduceEqDiff, Nat.reduceAdd, Nat.reduceSub, Nat.reduceMul, Nat.reduceLeDiff, Nat.reduceLT, reduceIte, reduceCtorEq, Nat.succ_ne_zero, elemsC, Int.reduceToNat, Nat.reducePow])); repeat ((first | (simp (disch := (first | omega | (simp only [AL, List.length_map]; omega))) only [AR, AL, ifT, ifF, take_all, List.length_cons, List.length_nil, Int.reduceToNat, Int.reducePow, Nat.reducePow]) | (refine wk_intro (by kernel_rfl) ?_) | (refine vp_draw (l := []) (by kernel_rfl) ?_)); try (simp only [go_sem, Nat.reduceEqDiff, Nat.reduceAdd, Nat.reduceSub, Nat.reduceMul, Nat.reduceLeDiff, Nat.reduceLT, reduceIte, reduceCtorEq, Nat.succ_ne_zero, elemsC, Int.reduceToNat, Nat.reducePow]))
    · have := lim_length_lt (a := wth ys) (b := wth xs) (by omega)
      have e : cmpN (wth xs) (wth ys) = 1 := by unfold cmpN; rw [if_neg (by omega), if_neg (by omega)]
      rw [e]
      (try (simp only [go_sem, Nat.reduceEqDiff, Nat.reduceAdd, Nat.reduceSub, Nat.reduceMul, Nat.reduceLeDiff, Nat.reduceLT, reduceIte, reduceCtorEq, Nat.succ_ne_zero, elemsC, Int.reduceToNat, Nat.reducePow])); repeat ((first | (simp (disch := (first | omega | (simp only [AL, List.length_map]; omega))) only [AR, AL, ifT, ifF, take_all, List.length_cons, List.length_nil, Int.reduceToNat, Int.reducePow, Nat.reducePow]) | (refine wk_intro (by kernel_rfl) ?_) | (refine vp_draw (l := []) (by kernel_rfl) ?_)); try (simp only [go_sem, Nat.reduceEqDiff, Nat.reduceAdd, Nat.reduceSub, Nat.reduceMul, Nat.reduceLeDiff, Nat.reduceLT, reduceIte, reduceCtorEq, Nat.succ_ne_zero, elemsC, Int.reduceToNat, Nat.reducePow]))
theorem ref1_Of (n : Nat) (hn : n < 18446744073709551616) : Go.Ev.Fn CX 59 [.int .u64 n] (natV (lim n)) := by
  refine Go.Ev.Fn.intro (fn := Tryz.f59) (body := (Tryz.f59).body.get!) (by kernel_rfl) (by kernel_rfl) (by kernel_rfl) (fun _ => rfl) (Nat.le_of_ble_eq_true (by kernel_rfl)) ?_; unfold Tryz.f59; simp only [Option.get!_some]
  (try (simp only [go_sem, Nat.reduceEqDiff, Nat.reduceAdd, Nat.reduceSub, Nat.reduceMul, Nat.reduceLeDiff, Nat.reduceLT, reduceIte, reduceCtorEq, Nat.succ_ne_zero, elemsC, Int.reduceToNat, Nat.reducePow])); repeat ((first | (simp (disch := (first | omega | (simp only [AL, List.length_map]; omega))) only [AR, AL, ifT, ifF, take_all, List.length_cons, List.length_nil, Int.reduceToNat, Int.reducePow, Nat.reducePow]) | (refine wk_intro (by kernel_rfl) ?_) | (refine vp_draw (l := []) (by kernel_rfl) ?_)); try (simp only [go_sem, Nat.reduceEqDiff, Nat.reduceAdd, Nat.reduceSub, Nat.reduceMul, Nat.reduceLeDiff, Nat.reduceLT, reduceIte, reduceCtorEq, Nat.succ_ne_zero, elemsC, Int.reduceToNat, Nat.reducePow]))
  have e : wth [n % 4294967296, n / 4294967296] = n := by simp only [wth]; omega
  refine vf_of (ref1_Trim [n % 4294967296, n / 4294967296] (by simp [okL]; omega) (by simp)) ?_; (try (simp only [go_sem, Nat.reduceEqDiff, Nat.reduceAdd, Nat.reduceSub, Nat.reduceMul, Nat.reduceLeDiff, Nat.reduceLT, reduceIte, reduceCtorEq, Nat.succ_ne_zero, elemsC, Int.reduceToNat, Nat.reducePow])); repeat ((first | (simp (disch := (first | omega | (simp only [AL, List.length_map]; omega))) only [AR, AL, ifT, ifF, take_all, List.length_cons, List.length_nil, Int.reduceToNat, Int.reducePow, Nat.reducePow]) | (refine wk_intro (by kernel_rfl) ?_) | (refine vp_draw (l := []) (by kernel_rfl) ?_)); try (simp only [go_sem, Nat.reduceEqDiff, Nat.reduceAdd, Nat.reduceSub, Nat.reduceMul, Nat.reduceLeDiff, Nat.reduceLT, reduceIte, reduceCtorEq, Nat.succ_ne_zero, elemsC, Int.reduceToNat, Nat.reducePow]))
  rw [e]
theorem ref1_small (xs : List Nat) (b : Nat) (hx : okL xs) (hl : xs.length ≤ 1073741824) (hb0 : 0 < b) (hb : b < 4294967296) :
    Go.Ev.Fn CX 97 [natV xs, .int .u64 b] (.tup [natV (lim (wth xs / b)), .int .u64 (wth xs % b : Nat)]) := by
  refine Go.Ev.Fn.intro (fn := Tryz.f97) (body := (Tryz.f97).body.get!) (by kernel_rfl) (by kernel_rfl) (by kernel_rfl) (fun _ => rfl) (Nat.le_of_ble_eq_true (by kernel_rfl)) ?_; unfold Tryz.f97; simp only [Option.get!_some]
  (try (simp only [go_sem, Nat.reduceEqDiff, Nat.reduceAdd, Nat.reduceSub, Nat.reduceMul, Nat.reduceLeDiff, Nat.reduceLT, reduceIte, reduceCtorEq, Nat.succ_ne_zero, elemsC, Int.reduceToNat, Nat.reducePow])); repeat ((first | (simp (disch := (first | omega | (simp only [AL, List.length_map]; omega))) only [AR, AL, ifT, ifF, take_all, List.length_cons, List.length_nil, Int.reduceToNat, Int.reducePow, Nat.reducePow]) | (refine wk_intro (by kernel_rfl) ?_)); try (simp only [go_sem, Nat.reduceEqDiff, Nat.reduceAdd, Nat.reduceSub, Nat.reduceMul, Nat.reduceLeDiff, Nat.reduceLT, reduceIte, reduceCtorEq, Nat.succ_ne_zero, elemsC, Int.reduceToNat, Nat.reducePow]))
  refine vp_loop_inv (fun s' => s'.tmp 0 = .sv (natV xs) ∧ s'.tmp 1 = .sv (.int .u64 b) ∧ s'.tmp 6 = .ref 11 0 1 0 xs.length ∧
      ∃ q : List Nat, ∃ i rest : Nat, s'.obj 11 0 = some (q.map limb) ∧ s'.tmp 8 = .sv (.int .i64 ((i : Int) - 1)) ∧ s'.tmp 7 = .sv (.int .u64 rest) ∧ q.length = xs.length ∧ okL q ∧ i ≤ xs.length ∧ rest < b ∧
        wth (xs.drop i) = b * wth (q.drop i) + rest)
    (fun s => match s.tmp 8 with | .sv (.int _ i) => (i + 1).toNat | _ => 0) ?_ ?_
  · refine ⟨rfl, rfl, rfl, List.replicate xs.length 0, xs.length, 0, rfl, rfl, rfl, List.length_replicate .., okL_replicate _, by omega, hb0, ?_⟩
    rw [List.drop_length, List.drop_of_length_le (by simp)]
    simp [wth]
  rintro s' ⟨i0, i1, i6, q, i, rest, iO, i8, i7, hq, hok, hi, hrest, hv⟩
  rcases Nat.eq_zero_or_pos i with rfl | hi0
  · (try (simp only [go_sem, Nat.reduceEqDiff, Nat.reduceAdd, Nat.reduceSub, Nat.reduceMul, Nat.reduceLeDiff, Nat.reduceLT, reduceIte, reduceCtorEq, Nat.succ_ne_zero, elemsC, Int.reduceToNat, Nat.reducePow, i0, i1, i6, iO, i8, i7])); repeat ((first | (simp (disch := (first | omega | (simp only [AL, List.length_map]; omega))) only [AR, AL, ifT, ifF, take_all, List.length_cons, List.length_nil, Int.reduceToNat, Int.reducePow, Nat.reducePow, i0, i1, i6, iO, i8, i7]) | (refine wk_intro (by kernel_rfl) ?_) | (refine vp_draw (l := []) (by kernel_rfl) ?_)); try (simp only [go_sem, Nat.reduceEqDiff, Nat.reduceAdd, Nat.reduceSub, Nat.reduceMul, Nat.reduceLeDiff, Nat.reduceLT, reduceIte, reduceCtorEq, Nat.succ_ne_zero, elemsC, Int.reduceToNat, Nat.reducePow, i0, i1, i6, iO, i8, i7]))
    rw [List.drop_zero, List.drop_zero] at hv
    have e1 : wth xs / b = wth q := by
      rw [hv, Nat.mul_add_div hb0, Nat.div_eq_of_lt hrest, Nat.add_zero]
    have e2 : wth xs % b = rest := by
      rw [hv, Nat.mul_add_mod, Nat.mod_eq_of_lt hrest]
    refine vf_of (fn_natV (ref1_Trim q hok (by omega)) hq) ?_; (try (simp only [go_sem, Nat.reduceEqDiff, Nat.reduceAdd, Nat.reduceSub, Nat.reduceMul, Nat.reduceLeDiff, Nat.reduceLT, reduceIte, reduceCtorEq, Nat.succ_ne_zero, elemsC, Int.reduceToNat, Nat.reducePow, i0, i1, i6, iO, i8, i7])); repeat ((first | (simp (disch := (first | omega | (simp only [AL, List.length_map]; omega))) only [AR, AL, ifT, ifF, take_all, List.length_cons, List.length_nil, Int.reduceToNat, Int.reducePow, Nat.reducePow, i0, i1, i6, iO, i8, i7]) | (refine wk_intro (by kernel_rfl) ?_) | (refine vp_draw (l := []) (by kernel_rfl) ?_)); try (simp only [go_sem, Nat.reduceEqDiff, Nat.reduceAdd, Nat.reduceSub, Nat.reduceMul, Nat.reduceLeDiff, Nat.reduceLT, reduceIte, reduceCtorEq, Nat.succ_ne_zero, elemsC, Int.reduceToNat, Nat.reducePow, i0, i1, i6, iO, i8, i7]))
    rw [e1, e2]
    exact ⟨rfl, rfl⟩
  · have h1 := getD_lt hx (i - 1)
    have h5 : (((i - 1 : Nat) : Int)) = (i : Int) - 1 := by omega
    have hq0 : (rest * 4294967296 + xs.getD (i - 1) 0) / b < 4294967296 := by
      rw [Nat.div_lt_iff_lt_mul hb0]
      have : (rest + 1) * 4294967296 ≤ b * 4294967296 := Nat.mul_le_mul_right _ hrest
      omega
    have hr0 := Nat.mod_lt (rest * 4294967296 + xs.getD (i - 1) 0) hb0
    have hdr := wth_drop (xs := xs) (i := i - 1) (by omega)
    have e1 := Nat.div_add_mod (rest * 4294967296 + xs.getD (i - 1) 0) b
    obtain ⟨X, hX⟩ : ∃ X, rest * 4294967296 + xs.getD (i - 1) 0 = X := ⟨_, rfl⟩
    have hX64 : X < 18446744073709551616 := by omega
    have hj : bitsSV .or .u64 ((rest * 4294967296 : Nat) : Int) ((xs.getD (i - 1) 0 : Nat) : Int) = some (.int .u64 (X : Int)) := by
      rw [b_join (by omega) h1, hX]
    rw [hX] at hq0 hr0 e1
    rw [show i - 1 + 1 = i by omega, hv] at hdr
    have e3 : X / b % 18446744073709551616 % 4294967296 = X / b := by rw [Nat.mod_eq_of_lt (Nat.lt_trans hq0 (by decide)), Nat.mod_eq_of_lt hq0]
    (try (simp only [go_sem, Nat.reduceEqDiff, Nat.reduceAdd, Nat.reduceSub, Nat.reduceMul, Nat.reduceLeDiff, Nat.reduceLT, reduceIte, reduceCtorEq, Nat.succ_ne_zero, elemsC, Int.reduceToNat, Nat.reducePow, i0, i1, i6, iO, i8, i7, hj, e3])); repeat ((first | (simp (disch := (first | omega | (simp only [AL, List.length_map]; omega))) only [AR, AL, ifT, ifF, take_all, List.length_cons, List.length_nil, Int.reduceToNat, Int.reducePow, Nat.reducePow, i0, i1, i6, iO, i8, i7, hj, e3]) | (refine wk_intro (by kernel_rfl) ?_) | (refine vp_draw (l := []) (by kernel_rfl) ?_)); try (simp only [go_sem, Nat.reduceEqDiff, Nat.reduceAdd, Nat.reduceSub, Nat.reduceMul, Nat.reduceLeDiff, Nat.reduceLT, reduceIte, reduceCtorEq, Nat.succ_ne_zero, elemsC, Int.reduceToNat, Nat.reducePow, i0, i1, i6, iO, i8, i7, hj, e3]))
    refine ⟨⟨q.set (i - 1) (X / b), i - 1, X % b, rfl, rfl, rfl, by rw [List.length_set]; exact hq, okL_set hok _ _ hq0, by omega, hr0, ?_⟩, by omega⟩
    rw [wth_set_drop (by omega), hdr, show i - 1 + 1 = i by omega]
    generalize X / b = Q at *
    generalize X % b = R at *
    rw [Nat.mul_add b, ← Nat.mul_assoc b, Nat.mul_comm b 4294967296, Nat.mul_assoc]
    omega
theorem lim_two {v : Nat} : (lim v).length ≤ 2 ↔ v < 18446744073709551616 := by
  constructor
  · intro h
    have h1 := wth_lt (okL_lim v)
    rw [wth_lim] at h1
    exact Nat.lt_of_lt_of_le h1 (Nat.pow_le_pow_right (n := 4294967296) (by omega) h)
  · intro h
    have h1 := trimL_length (xs := lim v) (ys := [v % 4294967296, v / 4294967296]) (okL_lim v) (by simp [okL]; omega) (trimL_lim v) (by rw [wth_lim]; simp only [wth]; omega)
    exact h1
theorem wth_drop_lt {xs : List Nat} {i : Nat} (hx : okL xs) (hl : xs.length ≤ 2) (hi : 1 ≤ i) : wth (xs.drop i) < 4294967296 := by
  have h1 := wth_lt (okL_drop hx i)
  rw [List.length_drop] at h1
  exact Nat.lt_of_lt_of_le h1 (show 4294967296 ^ (xs.length - i) ≤ 4294967296 ^ 1 from Nat.pow_le_pow_right (by omega) (by omega))
theorem ref1_To (xs : List Nat) (hx : okL xs) (hl : xs.length ≤ 274877906944) :
    Go.Ev.Fn CX 96 [natV xs] (.tup [.int .u64 ((if wth xs < 18446744073709551616 then wth xs else 0 : Nat) : Int), .bool (decide (wth xs < 18446744073709551616))]) := by
  refine Go.Ev.Fn.intro (fn := Tryz.f96) (body := (Tryz.f96).body.get!) (by kernel_rfl) (by kernel_rfl) (by kernel_rfl) (fun _ => rfl) (Nat.le_of_ble_eq_true (by kernel_rfl)) ?_; unfold Tryz.f96; simp only [Option.get!_some]
  have lx := lim_length_le hx
  have h2 := lim_two (v := wth xs)
  (try (simp only [go_sem, Nat.reduceEqDiff, Nat.reduceAdd, Nat.reduceSub, Nat.reduceMul, Nat.reduceLeDiff, Nat.reduceLT, reduceIte, reduceCtorEq, Nat.succ_ne_zero, elemsC, Int.reduceToNat, Nat.reducePow])); repeat ((first | (simp (disch := (first | omega | (simp only [AL, List.length_map]; omega))) only [AR, AL, ifT, ifF, take_all, List.length_cons, List.length_nil, Int.reduceToNat, Int.reducePow, Nat.reducePow]) | (refine wk_intro (by kernel_rfl) ?_) | (refine vp_draw (l := []) (by kernel_rfl) ?_)); try (simp only [go_sem, Nat.reduceEqDiff, Nat.reduceAdd, Nat.reduceSub, Nat.reduceMul, Nat.reduceLeDiff, Nat.reduceLT, reduceIte, reduceCtorEq, Nat.succ_ne_zero, elemsC, Int.reduceToNat, Nat.reducePow]))
  refine vf_of (ref1_Trim xs hx (by omega)) ?_; (try (simp only [go_sem, Nat.reduceEqDiff, Nat.reduceAdd, Nat.reduceSub, Nat.reduceMul, Nat.reduceLeDiff, Nat.reduceLT, reduceIte, reduceCtorEq, Nat.succ_ne_zero, elemsC, Int.reduceToNat, Nat.reducePow])); repeat ((first | (simp (disch := (first | omega | (simp only [AL, List.length_map]; omega))) only [AR, AL, ifT, ifF, take_all, List.length_cons, List.length_nil, Int.reduceToNat, Int.reducePow, Nat.reducePow]) | (refine wk_intro (by kernel_rfl) ?_) | (refine vp_draw (l := []) (by kernel_rfl) ?_)); try (simp only [go_sem, Nat.reduceEqDiff, Nat.reduceAdd, Nat.reduceSub, Nat.reduceMul, Nat.reduceLeDiff, Nat.reduceLT, reduceIte, reduceCtorEq, Nat.succ_ne_zero, elemsC, Int.reduceToNat, Nat.reducePow]))
  have ha := okL_lim (wth xs)
  have va := wth_lim (wth xs)
  generalize lim (wth xs) = a at *
  rw [← va] at h2 ⊢
  clear va
  by_cases h : a.length ≤ 2
  · rw [if_pos (h2.1 h), decide_eq_true (h2.1 h)]
    clear h2
    (try (simp only [go_sem, Nat.reduceEqDiff, Nat.reduceAdd, Nat.reduceSub, Nat.reduceMul, Nat.reduceLeDiff, Nat.reduceLT, reduceIte, reduceCtorEq, Nat.succ_ne_zero, elemsC, Int.reduceToNat, Nat.reducePow])); repeat ((first | (simp (disch := (first | omega | (simp only [AL, List.length_map]; omega))) only [AR, AL, ifT, ifF, take_all, List.length_cons, List.length_nil, Int.reduceToNat, Int.reducePow, Nat.reducePow]) | (refine wk_intro (by kernel_rfl) ?_) | (refine vp_draw (l := []) (by kernel_rfl) ?_)); try (simp only [go_sem, Nat.reduceEqDiff, Nat.reduceAdd, Nat.reduceSub, Nat.reduceMul, Nat.reduceLeDiff, Nat.reduceLT, reduceIte, reduceCtorEq, Nat.succ_ne_zero, elemsC, Int.reduceToNat, Nat.reducePow]))
    refine vp_loop_inv (fun s => s.tmp 4 = .sv (natV a) ∧ ∃ i : Nat, s.tmp 6 = .sv (.int .i64 ((i : Int) - 1)) ∧ i ≤ a.length ∧ s.tmp 5 = .sv (.int .u64 (wth (a.drop i))))
      (fun s => match s.tmp 6 with | .sv (.int _ i) => (i + 1).toNat | _ => 0) ?_ ?_
    · refine ⟨rfl, a.length, rfl, Nat.le_refl _, ?_⟩
      rw [List.drop_length]
      rfl
    rintro s ⟨i4, i, i6, hi, i5⟩
    rcases Nat.eq_zero_or_pos i with rfl | hi0
    · rw [List.drop_zero] at i5
      (try (simp only [go_sem, Nat.reduceEqDiff, Nat.reduceAdd, Nat.reduceSub, Nat.reduceMul, Nat.reduceLeDiff, Nat.reduceLT, reduceIte, reduceCtorEq, Nat.succ_ne_zero, elemsC, Int.reduceToNat, Nat.reducePow, i4, i6, i5])); repeat ((first | (simp (disch := (first | omega | (simp only [AL, List.length_map]; omega))) only [AR, AL, ifT, ifF, take_all, List.length_cons, List.length_nil, Int.reduceToNat, Int.reducePow, Nat.reducePow, i4, i6, i5]) | (refine wk_intro (by kernel_rfl) ?_) | (refine vp_draw (l := []) (by kernel_rfl) ?_)); try (simp only [go_sem, Nat.reduceEqDiff, Nat.reduceAdd, Nat.reduceSub, Nat.reduceMul, Nat.reduceLeDiff, Nat.reduceLT, reduceIte, reduceCtorEq, Nat.succ_ne_zero, elemsC, Int.reduceToNat, Nat.reducePow, i4, i6, i5]))
    · have h1 := getD_lt ha (i - 1)
      have h3 := wth_drop_lt ha h hi0
      have h4 := wth_drop (xs := a) (i := i - 1) (by omega)
      rw [show i - 1 + 1 = i by omega] at h4
      generalize wth (a.drop i) = w at *
      (try (simp only [go_sem, Nat.reduceEqDiff, Nat.reduceAdd, Nat.reduceSub, Nat.reduceMul, Nat.reduceLeDiff, Nat.reduceLT, reduceIte, reduceCtorEq, Nat.succ_ne_zero, elemsC, Int.reduceToNat, Nat.reducePow, i4, i6, i5])); repeat ((first | (simp (disch := (first | omega | (simp only [AL, List.length_map]; omega))) only [AR, AL, ifT, ifF, take_all, List.length_cons, List.length_nil, Int.reduceToNat, Int.reducePow, Nat.reducePow, i4, i6, i5]) | (refine wk_intro (by kernel_rfl) ?_) | (refine vp_draw (l := []) (by kernel_rfl) ?_)); try (simp only [go_sem, Nat.reduceEqDiff, Nat.reduceAdd, Nat.reduceSub, Nat.reduceMul, Nat.reduceLeDiff, Nat.reduceLT, reduceIte, reduceCtorEq, Nat.succ_ne_zero, elemsC, Int.reduceToNat, Nat.reducePow, i4, i6, i5]))
      refine ⟨⟨i - 1, ?_, by omega, ?_⟩, by omega⟩
      · simp only [Int.natCast_sub hi0]
      · rw [h4, Nat.mul_comm, Nat.add_comm]
  · rw [if_neg (fun g => h (h2.2 g)), decide_eq_false (fun g => h (h2.2 g))]
    clear h2
    (try (simp only [go_sem, Nat.reduceEqDiff, Nat.reduceAdd, Nat.reduceSub, Nat.reduceMul, Nat.reduceLeDiff, Nat.reduceLT, reduceIte, reduceCtorEq, Nat.succ_ne_zero, elemsC, Int.reduceToNat, Nat.reducePow])); repeat ((first | (simp (disch := (first | omega | (simp only [AL, List.length_map]; omega))) only [AR, AL, ifT, ifF, take_all, List.length_cons, List.length_nil, Int.reduceToNat, Int.reducePow, Nat.reducePow]) | (refine wk_intro (by kernel_rfl) ?_) | (refine vp_draw (l := []) (by kernel_rfl) ?_)); try (simp only [go_sem, Nat.reduceEqDiff, Nat.reduceAdd, Nat.reduceSub, Nat.reduceMul, Nat.reduceLeDiff, Nat.reduceLT, reduceIte, reduceCtorEq, Nat.succ_ne_zero, elemsC, Int.reduceToNat, Nat.reducePow]))
    rfl
end Go.Proofs.YtdnmhnjblgkjaaaGreat

/- The document's naturals (vernierref1): Add, Sub, in the evaluator. -/
namespace Go.Proofs.YtdnmhnjblgkjaaaGreat
set_option linter.unusedSimpArgs false
set_option linter.unusedVariables false
set_option maxRecDepth 8000
open Go.Ev
/-- A row that grows: none yet, or the object of a temporary. -/
def Out (s : St) (t d : Nat) (c : List Nat) : Prop := (c = [] ∧ s.tmp t = .nil ∧ s.gen d = 0) ∨ (c ≠ [] ∧ s.tmp t = .ref d 0 1 0 c.length ∧ s.obj d 0 = some (c.map limb))
theorem getD_ge {xs : List Nat} {i : Nat} (h : xs.length ≤ i) : xs.getD i 0 = 0 := by
  rw [List.getD_eq_getElem?_getD, List.getElem?_eq_none h]
  rfl
theorem wth_snoc (c : List Nat) (x : Nat) : wth (c ++ [x]) = wth c + 4294967296 ^ c.length * x := by
  rw [wth_append, wth_cons, wth_nil, Nat.mul_zero, Nat.add_zero]
theorem ref1_Add (xs ys : List Nat) (hx : okL xs) (hy : okL ys) (hl : xs.length ≤ 1073741824) (hm : ys.length ≤ 1073741824) : Go.Ev.Fn CX 72 [natV xs, natV ys] (natV (lim (wth xs + wth ys))) := by
  refine Go.Ev.Fn.intro (fn := Tryz.f72) (body := (Tryz.f72).body.get!) (by kernel_rfl) (by kernel_rfl) (by kernel_rfl) (fun _ => rfl) (Nat.le_of_ble_eq_true (by kernel_rfl)) ?_; unfold Tryz.f72; simp only [Option.get!_some]
  (try (simp only [go_sem, Nat.reduceEqDiff, Nat.reduceAdd, Nat.reduceSub, Nat.reduceMul, Nat.reduceLeDiff, Nat.reduceLT, reduceIte, reduceCtorEq, Nat.succ_ne_zero, elemsC, Int.reduceToNat, Nat.reducePow])); repeat ((first | (simp (disch := (first | omega | (simp only [AL, List.length_map]; omega))) only [AR, AL, ifT, ifF, take_all, List.length_cons, List.length_nil, Int.reduceToNat, Int.reducePow, Nat.reducePow]) | (refine wk_intro (by kernel_rfl) ?_) | (refine vp_draw (l := []) (by kernel_rfl) ?_)); try (simp only [go_sem, Nat.reduceEqDiff, Nat.reduceAdd, Nat.reduceSub, Nat.reduceMul, Nat.reduceLeDiff, Nat.reduceLT, reduceIte, reduceCtorEq, Nat.succ_ne_zero, elemsC, Int.reduceToNat, Nat.reducePow]))
  refine vp_loop_inv (fun s => s.tmp 0 = .sv (natV xs) ∧ s.tmp 1 = .sv (natV ys) ∧ ∃ c : List Nat, ∃ carry : Nat, Out s 5 31 c ∧ s.tmp 6 = .sv (.int .u64 carry) ∧ s.tmp 7 = .sv (.int .i64 c.length) ∧ okL c ∧ carry ≤ 1 ∧ c.length ≤ max xs.length ys.length + 1 ∧
      wth c + 4294967296 ^ c.length * carry = wth (xs.take c.length) + wth (ys.take c.length))
    (fun s => match s.tmp 7 with | .sv (.int _ i) => max xs.length ys.length + 1 - i.toNat | _ => 0) ?_ ?_
  · exact ⟨rfl, rfl, [], 0, .inl ⟨rfl, rfl, rfl⟩, rfl, rfl, okL_nil, by omega, by simp, by simp [wth]⟩
  rintro s ⟨i0, i1, c, carry, hO, i6, i7, hc, hcar, hcl, hv⟩
  have emax : (if (ys.length : Int) > (xs.length : Int) then (ys.length : Int) else (xs.length : Int)) = ((max xs.length ys.length : Nat) : Int) := by split <;> omega
  generalize hmx : max xs.length ys.length = mx at *
  by_cases hend : c.length = mx + 1
  · rcases hO with ⟨rfl, i5, ig⟩ | ⟨hne, i5, iO⟩
    · simp at hend
    · (try (simp only [go_sem, Nat.reduceEqDiff, Nat.reduceAdd, Nat.reduceSub, Nat.reduceMul, Nat.reduceLeDiff, Nat.reduceLT, reduceIte, reduceCtorEq, Nat.succ_ne_zero, elemsC, Int.reduceToNat, Nat.reducePow, i0, i1, i6, i7, i5, iO, emax])); repeat ((first | (simp (disch := (first | omega | (simp only [AL, List.length_map]; omega))) only [AR, AL, ifT, ifF, take_all, List.length_cons, List.length_nil, Int.reduceToNat, Int.reducePow, Nat.reducePow, i0, i1, i6, i7, i5, iO, emax]) | (refine wk_intro (by kernel_rfl) ?_) | (refine vp_draw (l := []) (by kernel_rfl) ?_)); try (simp only [go_sem, Nat.reduceEqDiff, Nat.reduceAdd, Nat.reduceSub, Nat.reduceMul, Nat.reduceLeDiff, Nat.reduceLT, reduceIte, reduceCtorEq, Nat.succ_ne_zero, elemsC, Int.reduceToNat, Nat.reducePow, i0, i1, i6, i7, i5, iO, emax]))
      refine vf_of (fn_natV (ref1_Trim c hc (by omega)) rfl) ?_; (try (simp only [go_sem, Nat.reduceEqDiff, Nat.reduceAdd, Nat.reduceSub, Nat.reduceMul, Nat.reduceLeDiff, Nat.reduceLT, reduceIte, reduceCtorEq, Nat.succ_ne_zero, elemsC, Int.reduceToNat, Nat.reducePow, i0, i1, i6, i7, i5, iO, emax])); repeat ((first | (simp (disch := (first | omega | (simp only [AL, List.length_map]; omega))) only [AR, AL, ifT, ifF, take_all, List.length_cons, List.length_nil, Int.reduceToNat, Int.reducePow, Nat.reducePow, i0, i1, i6, i7, i5, iO, emax]) | (refine wk_intro (by kernel_rfl) ?_) | (refine vp_draw (l := []) (by kernel_rfl) ?_)); try (simp only [go_sem, Nat.reduceEqDiff, Nat.reduceAdd, Nat.reduceSub, Nat.reduceMul, Nat.reduceLeDiff, Nat.reduceLT, reduceIte, reduceCtorEq, Nat.succ_ne_zero, elemsC, Int.reduceToNat, Nat.reducePow, i0, i1, i6, i7, i5, iO, emax]))
      have h1 : wth c = wth xs + wth ys := by
        rw [List.take_of_length_le (by omega), List.take_of_length_le (by omega), hend] at hv
        have h2 := wth_lt hx
        have h3 := wth_lt hy
        have h4 : (4294967296 : Nat) ^ xs.length ≤ 4294967296 ^ mx := Nat.pow_le_pow_right (by omega) (by omega)
        have h5 : (4294967296 : Nat) ^ ys.length ≤ 4294967296 ^ mx := Nat.pow_le_pow_right (by omega) (by omega)
        rcases Nat.eq_zero_or_pos carry with rfl | h6
        · rw [Nat.mul_zero, Nat.add_zero] at hv; exact hv
        · have h7 : 4294967296 ^ (mx + 1) * 1 ≤ 4294967296 ^ (mx + 1) * carry := Nat.mul_le_mul_left _ h6
          rw [Nat.pow_succ] at *
          exfalso
          generalize 4294967296 ^ mx = P at *
          omega
      rw [h1]
  · have h1 := getD_lt hx c.length
    have h2 := getD_lt hy c.length
    have key : ∀ x : Nat, x = carry + xs.getD c.length 0 + ys.getD c.length 0 → okL (c ++ [x % 4294967296]) ∧ x / 4294967296 ≤ 1 ∧ (c ++ [x % 4294967296]).length ≤ mx + 1 ∧ wth (c ++ [x % 4294967296]) + 4294967296 ^ (c ++ [x % 4294967296]).length * (x / 4294967296) = wth (xs.take (c ++ [x % 4294967296]).length) + wth (ys.take (c ++ [x % 4294967296]).length) := by
      intro x hx
      rw [List.length_append, List.length_singleton, wth_snoc, wth_take_succ, wth_take_succ]
      refine ⟨okL_append.2 ⟨hc, by simp [okL]; omega⟩, by omega, by omega, ?_⟩
      have e1 : 4294967296 ^ c.length * (x % 4294967296) + 4294967296 ^ (c.length + 1) * (x / 4294967296) = 4294967296 ^ c.length * x := by
        rw [Nat.pow_succ, Nat.mul_assoc, ← Nat.mul_add, Nat.mod_add_div]
      have e2 : 4294967296 ^ c.length * x = 4294967296 ^ c.length * carry + 4294967296 ^ c.length * xs.getD c.length 0 + 4294967296 ^ c.length * ys.getD c.length 0 := by
        rw [hx, Nat.mul_add, Nat.mul_add]
      omega
    rcases hO with ⟨rfl, i5, ig⟩ | ⟨hne, i5, iO⟩
    · have key := key _ rfl
      clear hv
      generalize hxi : xs.getD ([] : List Nat).length 0 = x at *
      generalize hyi : ys.getD ([] : List Nat).length 0 = y at *
      rw [List.length_nil] at hxi hyi
      (try (simp only [go_sem, Nat.reduceEqDiff, Nat.reduceAdd, Nat.reduceSub, Nat.reduceMul, Nat.reduceLeDiff, Nat.reduceLT, reduceIte, reduceCtorEq, Nat.succ_ne_zero, elemsC, Int.reduceToNat, Nat.reducePow, i0, i1, i6, i7, i5, ig, emax, N0])); repeat ((first | (simp (disch := (first | omega | (simp only [AL, List.length_map]; omega))) only [AR, AL, ifT, ifF, take_all, List.length_cons, List.length_nil, Int.reduceToNat, Int.reducePow, Nat.reducePow, i0, i1, i6, i7, i5, ig, emax, N0]) | (refine wk_intro (by kernel_rfl) ?_) | (refine vp_draw (l := []) (by kernel_rfl) ?_)); try (simp only [go_sem, Nat.reduceEqDiff, Nat.reduceAdd, Nat.reduceSub, Nat.reduceMul, Nat.reduceLeDiff, Nat.reduceLT, reduceIte, reduceCtorEq, Nat.succ_ne_zero, elemsC, Int.reduceToNat, Nat.reducePow, i0, i1, i6, i7, i5, ig, emax, N0]))
      refine vf_of (ref1_at xs 0 hx (by omega) (by omega)) ?_; (try (simp only [go_sem, Nat.reduceEqDiff, Nat.reduceAdd, Nat.reduceSub, Nat.reduceMul, Nat.reduceLeDiff, Nat.reduceLT, reduceIte, reduceCtorEq, Nat.succ_ne_zero, elemsC, Int.reduceToNat, Nat.reducePow, i0, i1, i6, i7, i5, ig, emax, N0, hxi])); repeat ((first | (simp (disch := (first | omega | (simp only [AL, List.length_map]; omega))) only [AR, AL, ifT, ifF, take_all, List.length_cons, List.length_nil, Int.reduceToNat, Int.reducePow, Nat.reducePow, i0, i1, i6, i7, i5, ig, emax, N0, hxi]) | (refine wk_intro (by kernel_rfl) ?_) | (refine vp_draw (l := []) (by kernel_rfl) ?_)); try (simp only [go_sem, Nat.reduceEqDiff, Nat.reduceAdd, Nat.reduceSub, Nat.reduceMul, Nat.reduceLeDiff, Nat.reduceLT, reduceIte, reduceCtorEq, Nat.succ_ne_zero, elemsC, Int.reduceToNat, Nat.reducePow, i0, i1, i6, i7, i5, ig, emax, N0, hxi]))
      refine vf_of (ref1_at ys 0 hy (by omega) (by omega)) ?_; (try (simp only [go_sem, Nat.reduceEqDiff, Nat.reduceAdd, Nat.reduceSub, Nat.reduceMul, Nat.reduceLeDiff, Nat.reduceLT, reduceIte, reduceCtorEq, Nat.succ_ne_zero, elemsC, Int.reduceToNat, Nat.reducePow, i0, i1, i6, i7, i5, ig, emax, N0, hyi])); repeat ((first | (simp (disch := (first | omega | (simp only [AL, List.length_map]; omega))) only [AR, AL, ifT, ifF, take_all, List.length_cons, List.length_nil, Int.reduceToNat, Int.reducePow, Nat.reducePow, i0, i1, i6, i7, i5, ig, emax, N0, hyi]) | (refine wk_intro (by kernel_rfl) ?_) | (refine vp_draw (l := []) (by kernel_rfl) ?_)); try (simp only [go_sem, Nat.reduceEqDiff, Nat.reduceAdd, Nat.reduceSub, Nat.reduceMul, Nat.reduceLeDiff, Nat.reduceLT, reduceIte, reduceCtorEq, Nat.succ_ne_zero, elemsC, Int.reduceToNat, Nat.reducePow, i0, i1, i6, i7, i5, ig, emax, N0, hyi]))
      exact ⟨⟨_, _, .inr ⟨by simp, rfl, by simp [St.put, St.new, ig]⟩, rfl, rfl, key⟩, by omega⟩
    · have key := key _ rfl
      clear hv
      generalize hxi : xs.getD c.length 0 = x at *
      generalize hyi : ys.getD c.length 0 = y at *
      (try (simp only [go_sem, Nat.reduceEqDiff, Nat.reduceAdd, Nat.reduceSub, Nat.reduceMul, Nat.reduceLeDiff, Nat.reduceLT, reduceIte, reduceCtorEq, Nat.succ_ne_zero, elemsC, Int.reduceToNat, Nat.reducePow, i0, i1, i6, i7, i5, iO, emax, N0])); repeat ((first | (simp (disch := (first | omega | (simp only [AL, List.length_map]; omega))) only [AR, AL, ifT, ifF, take_all, List.length_cons, List.length_nil, Int.reduceToNat, Int.reducePow, Nat.reducePow, i0, i1, i6, i7, i5, iO, emax, N0]) | (refine wk_intro (by kernel_rfl) ?_) | (refine vp_draw (l := []) (by kernel_rfl) ?_)); try (simp only [go_sem, Nat.reduceEqDiff, Nat.reduceAdd, Nat.reduceSub, Nat.reduceMul, Nat.reduceLeDiff, Nat.reduceLT, reduceIte, reduceCtorEq, Nat.succ_ne_zero, elemsC, Int.reduceToNat, Nat.reducePow, i0, i1, i6, i7, i5, iO, emax, N0]))
      refine vf_of (ref1_at xs c.length hx (by omega) (by omega)) ?_; (try (simp only [go_sem, Nat.reduceEqDiff, Nat.reduceAdd, Nat.reduceSub, Nat.reduceMul, Nat.reduceLeDiff, Nat.reduceLT, reduceIte, reduceCtorEq, Nat.succ_ne_zero, elemsC, Int.reduceToNat, Nat.reducePow, i0, i1, i6, i7, i5, iO, emax, N0, hxi])); repeat ((first | (simp (disch := (first | omega | (simp only [AL, List.length_map]; omega))) only [AR, AL, ifT, ifF, take_all, List.length_cons, List.length_nil, Int.reduceToNat, Int.reducePow, Nat.reducePow, i0, i1, i6, i7, i5, iO, emax, N0, hxi]) | (refine wk_intro (by kernel_rfl) ?_) | (refine vp_draw (l := []) (by kernel_rfl) ?_)); try (simp only [go_sem, Nat.reduceEqDiff, Nat.reduceAdd, Nat.reduceSub, Nat.reduceMul, Nat.reduceLeDiff, Nat.reduceLT, reduceIte, reduceCtorEq, Nat.succ_ne_zero, elemsC, Int.reduceToNat, Nat.reducePow, i0, i1, i6, i7, i5, iO, emax, N0, hxi]))
      refine vf_of (ref1_at ys c.length hy (by omega) (by omega)) ?_; (try (simp only [go_sem, Nat.reduceEqDiff, Nat.reduceAdd, Nat.reduceSub, Nat.reduceMul, Nat.reduceLeDiff, Nat.reduceLT, reduceIte, reduceCtorEq, Nat.succ_ne_zero, elemsC, Int.reduceToNat, Nat.reducePow, i0, i1, i6, i7, i5, iO, emax, N0, hyi])); repeat ((first | (simp (disch := (first | omega | (simp only [AL, List.length_map]; omega))) only [AR, AL, ifT, ifF, take_all, List.length_cons, List.length_nil, Int.reduceToNat, Int.reducePow, Nat.reducePow, i0, i1, i6, i7, i5, iO, emax, N0, hyi]) | (refine wk_intro (by kernel_rfl) ?_) | (refine vp_draw (l := []) (by kernel_rfl) ?_)); try (simp only [go_sem, Nat.reduceEqDiff, Nat.reduceAdd, Nat.reduceSub, Nat.reduceMul, Nat.reduceLeDiff, Nat.reduceLT, reduceIte, reduceCtorEq, Nat.succ_ne_zero, elemsC, Int.reduceToNat, Nat.reducePow, i0, i1, i6, i7, i5, iO, emax, N0, hyi]))
      exact ⟨⟨c ++ [(carry + x + y) % 4294967296], _, .inr ⟨by simp, by rw [List.length_append]; rfl, by simp [St.put, St.new, St.grow]⟩, rfl, by rw [List.length_append]; rfl, key⟩, by omega⟩
theorem wth_take_all {ys : List Nat} {n : Nat} (h : wth ys < 4294967296 ^ n) : wth (ys.take n) = wth ys := by
  rcases Nat.lt_or_ge ys.length n with h1 | h1
  · rw [List.take_of_length_le (by omega)]
  · have e : wth ys = wth (ys.take n) + 4294967296 ^ n * wth (ys.drop n) := by
      conv => lhs; rw [← List.take_append_drop n ys, wth_append]
      rw [List.length_take, Nat.min_eq_left h1]
    rcases Nat.eq_zero_or_pos (wth (ys.drop n)) with h2 | h2
    · rw [h2, Nat.mul_zero, Nat.add_zero] at e
      exact e.symm
    · have : 4294967296 ^ n * 1 ≤ 4294967296 ^ n * wth (ys.drop n) := Nat.mul_le_mul_left _ h2
      omega
theorem ref1_Sub (xs ys : List Nat) (hx : okL xs) (hy : okL ys) (hl : xs.length ≤ 1073741824) (hm : ys.length ≤ 1073741824) :
    Go.Ev.Fn CX 74 [natV xs, natV ys] (.tup [natV (lim (wth xs - wth ys)), .bool (decide (wth ys ≤ wth xs))]) := by
  refine Go.Ev.Fn.intro (fn := Tryz.f74) (body := (Tryz.f74).body.get!) (by kernel_rfl) (by kernel_rfl) (by kernel_rfl) (fun _ => rfl) (Nat.le_of_ble_eq_true (by kernel_rfl)) ?_; unfold Tryz.f74; simp only [Option.get!_some]
  have hcmp := ref1_Cmp xs ys hx hy (by omega) (by omega)
  (try (simp only [go_sem, Nat.reduceEqDiff, Nat.reduceAdd, Nat.reduceSub, Nat.reduceMul, Nat.reduceLeDiff, Nat.reduceLT, reduceIte, reduceCtorEq, Nat.succ_ne_zero, elemsC, Int.reduceToNat, Nat.reducePow])); repeat ((first | (simp (disch := (first | omega | (simp only [AL, List.length_map]; omega))) only [AR, AL, ifT, ifF, take_all, List.length_cons, List.length_nil, Int.reduceToNat, Int.reducePow, Nat.reducePow]) | (refine wk_intro (by kernel_rfl) ?_) | (refine vp_draw (l := []) (by kernel_rfl) ?_)); try (simp only [go_sem, Nat.reduceEqDiff, Nat.reduceAdd, Nat.reduceSub, Nat.reduceMul, Nat.reduceLeDiff, Nat.reduceLT, reduceIte, reduceCtorEq, Nat.succ_ne_zero, elemsC, Int.reduceToNat, Nat.reducePow]))
  by_cases hlt : wth xs < wth ys
  · rw [cmpN_lt hlt] at hcmp
    rw [show wth xs - wth ys = 0 by omega, lim_zero, decide_eq_false (by omega)]
    refine vf_of (hcmp) ?_; (try (simp only [go_sem, Nat.reduceEqDiff, Nat.reduceAdd, Nat.reduceSub, Nat.reduceMul, Nat.reduceLeDiff, Nat.reduceLT, reduceIte, reduceCtorEq, Nat.succ_ne_zero, elemsC, Int.reduceToNat, Nat.reducePow])); repeat ((first | (simp (disch := (first | omega | (simp only [AL, List.length_map]; omega))) only [AR, AL, ifT, ifF, take_all, List.length_cons, List.length_nil, Int.reduceToNat, Int.reducePow, Nat.reducePow]) | (refine wk_intro (by kernel_rfl) ?_) | (refine vp_draw (l := []) (by kernel_rfl) ?_)); try (simp only [go_sem, Nat.reduceEqDiff, Nat.reduceAdd, Nat.reduceSub, Nat.reduceMul, Nat.reduceLeDiff, Nat.reduceLT, reduceIte, reduceCtorEq, Nat.succ_ne_zero, elemsC, Int.reduceToNat, Nat.reducePow]))
    rfl
  have h0 := cmpN_ge (by omega : wth ys ≤ wth xs)
  rw [decide_eq_true (show wth ys ≤ wth xs by omega)]
  refine vf_of (hcmp) ?_; (try (simp only [go_sem, Nat.reduceEqDiff, Nat.reduceAdd, Nat.reduceSub, Nat.reduceMul, Nat.reduceLeDiff, Nat.reduceLT, reduceIte, reduceCtorEq, Nat.succ_ne_zero, elemsC, Int.reduceToNat, Nat.reducePow, h0])); repeat ((first | (simp (disch := (first | omega | (simp only [AL, List.length_map]; omega))) only [AR, AL, ifT, ifF, take_all, List.length_cons, List.length_nil, Int.reduceToNat, Int.reducePow, Nat.reducePow, h0]) | (refine wk_intro (by kernel_rfl) ?_) | (refine vp_draw (l := []) (by kernel_rfl) ?_)); try (simp only [go_sem, Nat.reduceEqDiff, Nat.reduceAdd, Nat.reduceSub, Nat.reduceMul, Nat.reduceLeDiff, Nat.reduceLT, reduceIte, reduceCtorEq, Nat.succ_ne_zero, elemsC, Int.reduceToNat, Nat.reducePow, h0]))
  clear hcmp h0
  refine vp_loop_inv (fun s => s.tmp 0 = .sv (natV xs) ∧ s.tmp 1 = .sv (natV ys) ∧ ∃ c : List Nat, ∃ bor : Nat, Out s 6 40 c ∧ s.tmp 7 = .sv (.int .u64 bor) ∧ s.tmp 8 = .sv (.int .i64 c.length) ∧ okL c ∧ bor ≤ 1 ∧ c.length ≤ xs.length ∧
      wth c + wth (ys.take c.length) = wth (xs.take c.length) + 4294967296 ^ c.length * bor)
    (fun s => match s.tmp 8 with | .sv (.int _ i) => xs.length - i.toNat | _ => 0) ?_ ?_
  · exact ⟨rfl, rfl, [], 0, .inl ⟨rfl, rfl, rfl⟩, rfl, rfl, okL_nil, by omega, by simp, by simp [wth]⟩
  rintro s ⟨i0, i1, c, bor, hO, i7, i8, hc, hcar, hcl, hv⟩
  by_cases hend : c.length = xs.length
  · have h1 : wth c = wth xs - wth ys := by
      have h2 := wth_lt hx
      rw [hend, List.take_length, wth_take_all (by omega)] at hv
      have h3 := wth_lt hc
      rw [hend] at h3
      rcases Nat.eq_zero_or_pos bor with rfl | h6
      · rw [Nat.mul_zero, Nat.add_zero] at hv; omega
      · have h7 : 4294967296 ^ xs.length * 1 ≤ 4294967296 ^ xs.length * bor := Nat.mul_le_mul_left _ h6
        omega
    rw [← h1]
    rcases hO with ⟨rfl, i6, ig⟩ | ⟨hne, i6, iO⟩
    · rw [List.length_nil] at hend
      (try (simp only [go_sem, Nat.reduceEqDiff, Nat.reduceAdd, Nat.reduceSub, Nat.reduceMul, Nat.reduceLeDiff, Nat.reduceLT, reduceIte, reduceCtorEq, Nat.succ_ne_zero, elemsC, Int.reduceToNat, Nat.reducePow, i0, i1, i6, i7, i8])); repeat ((first | (simp (disch := (first | omega | (simp only [AL, List.length_map]; omega))) only [AR, AL, ifT, ifF, take_all, List.length_cons, List.length_nil, Int.reduceToNat, Int.reducePow, Nat.reducePow, i0, i1, i6, i7, i8]) | (refine wk_intro (by kernel_rfl) ?_) | (refine vp_draw (l := []) (by kernel_rfl) ?_)); try (simp only [go_sem, Nat.reduceEqDiff, Nat.reduceAdd, Nat.reduceSub, Nat.reduceMul, Nat.reduceLeDiff, Nat.reduceLT, reduceIte, reduceCtorEq, Nat.succ_ne_zero, elemsC, Int.reduceToNat, Nat.reducePow, i0, i1, i6, i7, i8]))
      refine vf_of (ref1_Trim [] okL_nil (by simp)) ?_; (try (simp only [go_sem, Nat.reduceEqDiff, Nat.reduceAdd, Nat.reduceSub, Nat.reduceMul, Nat.reduceLeDiff, Nat.reduceLT, reduceIte, reduceCtorEq, Nat.succ_ne_zero, elemsC, Int.reduceToNat, Nat.reducePow, i0, i1, i6, i7, i8])); repeat ((first | (simp (disch := (first | omega | (simp only [AL, List.length_map]; omega))) only [AR, AL, ifT, ifF, take_all, List.length_cons, List.length_nil, Int.reduceToNat, Int.reducePow, Nat.reducePow, i0, i1, i6, i7, i8]) | (refine wk_intro (by kernel_rfl) ?_) | (refine vp_draw (l := []) (by kernel_rfl) ?_)); try (simp only [go_sem, Nat.reduceEqDiff, Nat.reduceAdd, Nat.reduceSub, Nat.reduceMul, Nat.reduceLeDiff, Nat.reduceLT, reduceIte, reduceCtorEq, Nat.succ_ne_zero, elemsC, Int.reduceToNat, Nat.reducePow, i0, i1, i6, i7, i8]))
    · (try (simp only [go_sem, Nat.reduceEqDiff, Nat.reduceAdd, Nat.reduceSub, Nat.reduceMul, Nat.reduceLeDiff, Nat.reduceLT, reduceIte, reduceCtorEq, Nat.succ_ne_zero, elemsC, Int.reduceToNat, Nat.reducePow, i0, i1, i6, i7, i8, iO])); repeat ((first | (simp (disch := (first | omega | (simp only [AL, List.length_map]; omega))) only [AR, AL, ifT, ifF, take_all, List.length_cons, List.length_nil, Int.reduceToNat, Int.reducePow, Nat.reducePow, i0, i1, i6, i7, i8, iO]) | (refine wk_intro (by kernel_rfl) ?_) | (refine vp_draw (l := []) (by kernel_rfl) ?_)); try (simp only [go_sem, Nat.reduceEqDiff, Nat.reduceAdd, Nat.reduceSub, Nat.reduceMul, Nat.reduceLeDiff, Nat.reduceLT, reduceIte, reduceCtorEq, Nat.succ_ne_zero, elemsC, Int.reduceToNat, Nat.reducePow, i0, i1, i6, i7, i8, iO]))
      refine vf_of (fn_natV (ref1_Trim c hc (by omega)) rfl) ?_; (try (simp only [go_sem, Nat.reduceEqDiff, Nat.reduceAdd, Nat.reduceSub, Nat.reduceMul, Nat.reduceLeDiff, Nat.reduceLT, reduceIte, reduceCtorEq, Nat.succ_ne_zero, elemsC, Int.reduceToNat, Nat.reducePow, i0, i1, i6, i7, i8, iO])); repeat ((first | (simp (disch := (first | omega | (simp only [AL, List.length_map]; omega))) only [AR, AL, ifT, ifF, take_all, List.length_cons, List.length_nil, Int.reduceToNat, Int.reducePow, Nat.reducePow, i0, i1, i6, i7, i8, iO]) | (refine wk_intro (by kernel_rfl) ?_) | (refine vp_draw (l := []) (by kernel_rfl) ?_)); try (simp only [go_sem, Nat.reduceEqDiff, Nat.reduceAdd, Nat.reduceSub, Nat.reduceMul, Nat.reduceLeDiff, Nat.reduceLT, reduceIte, reduceCtorEq, Nat.succ_ne_zero, elemsC, Int.reduceToNat, Nat.reducePow, i0, i1, i6, i7, i8, iO]))
  · have h1 := getD_lt hx c.length
    have h2 := getD_lt hy c.length
    have key : ∀ z b, z < 4294967296 → b ≤ 1 → xs.getD c.length 0 + 4294967296 * b = z + (ys.getD c.length 0 + bor) → okL (c ++ [z]) ∧ b ≤ 1 ∧ (c ++ [z]).length ≤ xs.length ∧ wth (c ++ [z]) + wth (ys.take (c ++ [z]).length) = wth (xs.take (c ++ [z]).length) + 4294967296 ^ (c ++ [z]).length * b := by
      intro z b hz hb he
      rw [List.length_append, List.length_singleton, wth_snoc, wth_take_succ, wth_take_succ]
      refine ⟨okL_append.2 ⟨hc, by simp [okL]; omega⟩, by omega, by omega, ?_⟩
      have e1 : 4294967296 ^ c.length * xs.getD c.length 0 + 4294967296 ^ (c.length + 1) * b = 4294967296 ^ c.length * z + 4294967296 ^ c.length * ys.getD c.length 0 + 4294967296 ^ c.length * bor := by
        rw [Nat.pow_succ, Nat.mul_assoc, ← Nat.mul_add, he, Nat.mul_add, Nat.mul_add, Nat.add_assoc]
      omega
    clear hv
    rcases hO with ⟨rfl, i6, ig⟩ | ⟨hne, i6, iO⟩
    · generalize hxi : xs.getD ([] : List Nat).length 0 = x at *
      generalize hyi : ys.getD ([] : List Nat).length 0 = y at *
      rw [List.length_nil] at hxi hyi
      by_cases hxy : x < y + bor
      · have h9 : (x : Int) + 4294967296 = ((x + 4294967296 : Nat) : Int) := by omega
        (try (simp only [go_sem, Nat.reduceEqDiff, Nat.reduceAdd, Nat.reduceSub, Nat.reduceMul, Nat.reduceLeDiff, Nat.reduceLT, reduceIte, reduceCtorEq, Nat.succ_ne_zero, elemsC, Int.reduceToNat, Nat.reducePow, h9, i0, i1, i6, i7, i8, ig, N0])); repeat ((first | (simp (disch := (first | omega | (simp only [AL, List.length_map]; omega))) only [AR, AL, ifT, ifF, take_all, List.length_cons, List.length_nil, Int.reduceToNat, Int.reducePow, Nat.reducePow, h9, i0, i1, i6, i7, i8, ig, N0]) | (refine wk_intro (by kernel_rfl) ?_) | (refine vp_draw (l := []) (by kernel_rfl) ?_)); try (simp only [go_sem, Nat.reduceEqDiff, Nat.reduceAdd, Nat.reduceSub, Nat.reduceMul, Nat.reduceLeDiff, Nat.reduceLT, reduceIte, reduceCtorEq, Nat.succ_ne_zero, elemsC, Int.reduceToNat, Nat.reducePow, h9, i0, i1, i6, i7, i8, ig, N0]))
        refine vf_of (ref1_at xs 0 hx (by omega) (by omega)) ?_; (try (simp only [go_sem, Nat.reduceEqDiff, Nat.reduceAdd, Nat.reduceSub, Nat.reduceMul, Nat.reduceLeDiff, Nat.reduceLT, reduceIte, reduceCtorEq, Nat.succ_ne_zero, elemsC, Int.reduceToNat, Nat.reducePow, h9, i0, i1, i6, i7, i8, ig, N0, hxi])); repeat ((first | (simp (disch := (first | omega | (simp only [AL, List.length_map]; omega))) only [AR, AL, ifT, ifF, take_all, List.length_cons, List.length_nil, Int.reduceToNat, Int.reducePow, Nat.reducePow, h9, i0, i1, i6, i7, i8, ig, N0, hxi]) | (refine wk_intro (by kernel_rfl) ?_) | (refine vp_draw (l := []) (by kernel_rfl) ?_)); try (simp only [go_sem, Nat.reduceEqDiff, Nat.reduceAdd, Nat.reduceSub, Nat.reduceMul, Nat.reduceLeDiff, Nat.reduceLT, reduceIte, reduceCtorEq, Nat.succ_ne_zero, elemsC, Int.reduceToNat, Nat.reducePow, h9, i0, i1, i6, i7, i8, ig, N0, hxi]))
        refine vf_of (ref1_at ys 0 hy (by omega) (by omega)) ?_; (try (simp only [go_sem, Nat.reduceEqDiff, Nat.reduceAdd, Nat.reduceSub, Nat.reduceMul, Nat.reduceLeDiff, Nat.reduceLT, reduceIte, reduceCtorEq, Nat.succ_ne_zero, elemsC, Int.reduceToNat, Nat.reducePow, h9, i0, i1, i6, i7, i8, ig, N0, hyi])); repeat ((first | (simp (disch := (first | omega | (simp only [AL, List.length_map]; omega))) only [AR, AL, ifT, ifF, take_all, List.length_cons, List.length_nil, Int.reduceToNat, Int.reducePow, Nat.reducePow, h9, i0, i1, i6, i7, i8, ig, N0, hyi]) | (refine wk_intro (by kernel_rfl) ?_) | (refine vp_draw (l := []) (by kernel_rfl) ?_)); try (simp only [go_sem, Nat.reduceEqDiff, Nat.reduceAdd, Nat.reduceSub, Nat.reduceMul, Nat.reduceLeDiff, Nat.reduceLT, reduceIte, reduceCtorEq, Nat.succ_ne_zero, elemsC, Int.reduceToNat, Nat.reducePow, h9, i0, i1, i6, i7, i8, ig, N0, hyi]))
        exact ⟨⟨[x + 4294967296 - (y + bor)], 1, .inr ⟨by simp, rfl, by simp [St.put, St.new, ig]⟩, rfl, rfl, key _ 1 (by omega) (by omega) (by omega)⟩, by omega⟩
      · (try (simp only [go_sem, Nat.reduceEqDiff, Nat.reduceAdd, Nat.reduceSub, Nat.reduceMul, Nat.reduceLeDiff, Nat.reduceLT, reduceIte, reduceCtorEq, Nat.succ_ne_zero, elemsC, Int.reduceToNat, Nat.reducePow, i0, i1, i6, i7, i8, ig, N0])); repeat ((first | (simp (disch := (first | omega | (simp only [AL, List.length_map]; omega))) only [AR, AL, ifT, ifF, take_all, List.length_cons, List.length_nil, Int.reduceToNat, Int.reducePow, Nat.reducePow, i0, i1, i6, i7, i8, ig, N0]) | (refine wk_intro (by kernel_rfl) ?_) | (refine vp_draw (l := []) (by kernel_rfl) ?_)); try (simp only [go_sem, Nat.reduceEqDiff, Nat.reduceAdd, Nat.reduceSub, Nat.reduceMul, Nat.reduceLeDiff, Nat.reduceLT, reduceIte, reduceCtorEq, Nat.succ_ne_zero, elemsC, Int.reduceToNat, Nat.reducePow, i0, i1, i6, i7, i8, ig, N0]))
        refine vf_of (ref1_at xs 0 hx (by omega) (by omega)) ?_; (try (simp only [go_sem, Nat.reduceEqDiff, Nat.reduceAdd, Nat.reduceSub, Nat.reduceMul, Nat.reduceLeDiff, Nat.reduceLT, reduceIte, reduceCtorEq, Nat.succ_ne_zero, elemsC, Int.reduceToNat, Nat.reducePow, i0, i1, i6, i7, i8, ig, N0, hxi])); repeat ((first | (simp (disch := (first | omega | (simp only [AL, List.length_map]; omega))) only [AR, AL, ifT, ifF, take_all, List.length_cons, List.length_nil, Int.reduceToNat, Int.reducePow, Nat.reducePow, i0, i1, i6, i7, i8, ig, N0, hxi]) | (refine wk_intro (by kernel_rfl) ?_) | (refine vp_draw (l := []) (by kernel_rfl) ?_)); try (simp only [go_sem, Nat.reduceEqDiff, Nat.reduceAdd, Nat.reduceSub, Nat.reduceMul, Nat.reduceLeDiff, Nat.reduceLT, reduceIte, reduceCtorEq, Nat.succ_ne_zero, elemsC, Int.reduceToNat, Nat.reducePow, i0, i1, i6, i7, i8, ig, N0, hxi]))
        refine vf_of (ref1_at ys 0 hy (by omega) (by omega)) ?_; (try (simp only [go_sem, Nat.reduceEqDiff, Nat.reduceAdd, Nat.reduceSub, Nat.reduceMul, Nat.reduceLeDiff, Nat.reduceLT, reduceIte, reduceCtorEq, Nat.succ_ne_zero, elemsC, Int.reduceToNat, Nat.reducePow, i0, i1, i6, i7, i8, ig, N0, hyi])); repeat ((first | (simp (disch := (first | omega | (simp only [AL, List.length_map]; omega))) only [AR, AL, ifT, ifF, take_all, List.length_cons, List.length_nil, Int.reduceToNat, Int.reducePow, Nat.reducePow, i0, i1, i6, i7, i8, ig, N0, hyi]) | (refine wk_intro (by kernel_rfl) ?_) | (refine vp_draw (l := []) (by kernel_rfl) ?_)); try (simp only [go_sem, Nat.reduceEqDiff, Nat.reduceAdd, Nat.reduceSub, Nat.reduceMul, Nat.reduceLeDiff, Nat.reduceLT, reduceIte, reduceCtorEq, Nat.succ_ne_zero, elemsC, Int.reduceToNat, Nat.reducePow, i0, i1, i6, i7, i8, ig, N0, hyi]))
        exact ⟨⟨[x - (y + bor)], 0, .inr ⟨by simp, rfl, by simp [St.put, St.new, ig]⟩, rfl, rfl, key _ 0 (by omega) (by omega) (by omega)⟩, by omega⟩
    · generalize hxi : xs.getD c.length 0 = x at *
      generalize hyi : ys.getD c.length 0 = y at *
      by_cases hxy : x < y + bor
      · have h9 : (x : Int) + 4294967296 = ((x + 4294967296 : Nat) : Int) := by omega
        (try (simp only [go_sem, Nat.reduceEqDiff, Nat.reduceAdd, Nat.reduceSub, Nat.reduceMul, Nat.reduceLeDiff, Nat.reduceLT, reduceIte, reduceCtorEq, Nat.succ_ne_zero, elemsC, Int.reduceToNat, Nat.reducePow, h9, i0, i1, i6, i7, i8, iO, N0])); repeat ((first | (simp (disch := (first | omega | (simp only [AL, List.length_map]; omega))) only [AR, AL, ifT, ifF, take_all, List.length_cons, List.length_nil, Int.reduceToNat, Int.reducePow, Nat.reducePow, h9, i0, i1, i6, i7, i8, iO, N0]) | (refine wk_intro (by kernel_rfl) ?_) | (refine vp_draw (l := []) (by kernel_rfl) ?_)); try (simp only [go_sem, Nat.reduceEqDiff, Nat.reduceAdd, Nat.reduceSub, Nat.reduceMul, Nat.reduceLeDiff, Nat.reduceLT, reduceIte, reduceCtorEq, Nat.succ_ne_zero, elemsC, Int.reduceToNat, Nat.reducePow, h9, i0, i1, i6, i7, i8, iO, N0]))
        refine vf_of (ref1_at xs c.length hx (by omega) (by omega)) ?_; (try (simp only [go_sem, Nat.reduceEqDiff, Nat.reduceAdd, Nat.reduceSub, Nat.reduceMul, Nat.reduceLeDiff, Nat.reduceLT, reduceIte, reduceCtorEq, Nat.succ_ne_zero, elemsC, Int.reduceToNat, Nat.reducePow, h9, i0, i1, i6, i7, i8, iO, N0, hxi])); repeat ((first | (simp (disch := (first | omega | (simp only [AL, List.length_map]; omega))) only [AR, AL, ifT, ifF, take_all, List.length_cons, List.length_nil, Int.reduceToNat, Int.reducePow, Nat.reducePow, h9, i0, i1, i6, i7, i8, iO, N0, hxi]) | (refine wk_intro (by kernel_rfl) ?_) | (refine vp_draw (l := []) (by kernel_rfl) ?_)); try (simp only [go_sem, Nat.reduceEqDiff, Nat.reduceAdd, Nat.reduceSub, Nat.reduceMul, Nat.reduceLeDiff, Nat.reduceLT, reduceIte, reduceCtorEq, Nat.succ_ne_zero, elemsC, Int.reduceToNat, Nat.reducePow, h9, i0, i1, i6, i7, i8, iO, N0, hxi]))
        refine vf_of (ref1_at ys c.length hy (by omega) (by omega)) ?_; (try (simp only [go_sem, Nat.reduceEqDiff, Nat.reduceAdd, Nat.reduceSub, Nat.reduceMul, Nat.reduceLeDiff, Nat.reduceLT, reduceIte, reduceCtorEq, Nat.succ_ne_zero, elemsC, Int.reduceToNat, Nat.reducePow, h9, i0, i1, i6, i7, i8, iO, N0, hyi])); repeat ((first | (simp (disch := (first | omega | (simp only [AL, List.length_map]; omega))) only [AR, AL, ifT, ifF, take_all, List.length_cons, List.length_nil, Int.reduceToNat, Int.reducePow, Nat.reducePow, h9, i0, i1, i6, i7, i8, iO, N0, hyi]) | (refine wk_intro (by kernel_rfl) ?_) | (refine vp_draw (l := []) (by kernel_rfl) ?_)); try (simp only [go_sem, Nat.reduceEqDiff, Nat.reduceAdd, Nat.reduceSub, Nat.reduceMul, Nat.reduceLeDiff, Nat.reduceLT, reduceIte, reduceCtorEq, Nat.succ_ne_zero, elemsC, Int.reduceToNat, Nat.reducePow, h9, i0, i1, i6, i7, i8, iO, N0, hyi]))
        exact ⟨⟨c ++ [x + 4294967296 - (y + bor)], 1, .inr ⟨by simp, by rw [List.length_append]; rfl, by simp [St.put, St.new, St.grow]⟩, rfl, by rw [List.length_append]; rfl, key _ 1 (by omega) (by omega) (by omega)⟩, by omega⟩
      · (try (simp only [go_sem, Nat.reduceEqDiff, Nat.reduceAdd, Nat.reduceSub, Nat.reduceMul, Nat.reduceLeDiff, Nat.reduceLT, reduceIte, reduceCtorEq, Nat.succ_ne_zero, elemsC, Int.reduceToNat, Nat.reducePow, i0, i1, i6, i7, i8, iO, N0])); repeat ((first | (simp (disch := (first | omega | (simp only [AL, List.length_map]; omega))) only [AR, AL, ifT, ifF, take_all, List.length_cons, List.length_nil, Int.reduceToNat, Int.reducePow, Nat.reducePow, i0, i1, i6, i7, i8, iO, N0]) | (refine wk_intro (by kernel_rfl) ?_) | (refine vp_draw (l := []) (by kernel_rfl) ?_)); try (simp only [go_sem, Nat.reduceEqDiff, Nat.reduceAdd, Nat.reduceSub, Nat.reduceMul, Nat.reduceLeDiff, Nat.reduceLT, reduceIte, reduceCtorEq, Nat.succ_ne_zero, elemsC, Int.reduceToNat, Nat.reducePow, i0, i1, i6, i7, i8, iO, N0]))
        refine vf_of (ref1_at xs c.length hx (by omega) (by omega)) ?_; (try (simp only [go_sem, Nat.reduceEqDiff, Nat.reduceAdd, Nat.reduceSub, Nat.reduceMul, Nat.reduceLeDiff, Nat.reduceLT, reduceIte, reduceCtorEq, Nat.succ_ne_zero, elemsC, Int.reduceToNat, Nat.reducePow, i0, i1, i6, i7, i8, iO, N0, hxi])); repeat ((first | (simp (disch := (first | omega | (simp only [AL, List.length_map]; omega))) only [AR, AL, ifT, ifF, take_all, List.length_cons, List.length_nil, Int.reduceToNat, Int.reducePow, Nat.reducePow, i0, i1, i6, i7, i8, iO, N0, hxi]) | (refine wk_intro (by kernel_rfl) ?_) | (refine vp_draw (l := []) (by kernel_rfl) ?_)); try (simp only [go_sem, Nat.reduceEqDiff, Nat.reduceAdd, Nat.reduceSub, Nat.reduceMul, Nat.reduceLeDiff, Nat.reduceLT, reduceIte, reduceCtorEq, Nat.succ_ne_zero, elemsC, Int.reduceToNat, Nat.reducePow, i0, i1, i6, i7, i8, iO, N0, hxi]))
        refine vf_of (ref1_at ys c.length hy (by omega) (by omega)) ?_; (try (simp only [go_sem, Nat.reduceEqDiff, Nat.reduceAdd, Nat.reduceSub, Nat.reduceMul, Nat.reduceLeDiff, Nat.reduceLT, reduceIte, reduceCtorEq, Nat.succ_ne_zero, elemsC, Int.reduceToNat, Nat.reducePow, i0, i1, i6, i7, i8, iO, N0, hyi])); repeat ((first | (simp (disch := (first | omega | (simp only [AL, List.length_map]; omega))) only [AR, AL, ifT, ifF, take_all, List.length_cons, List.length_nil, Int.reduceToNat, Int.reducePow, Nat.reducePow, i0, i1, i6, i7, i8, iO, N0, hyi]) | (refine wk_intro (by kernel_rfl) ?_) | (refine vp_draw (l := []) (by kernel_rfl) ?_)); try (simp only [go_sem, Nat.reduceEqDiff, Nat.reduceAdd, Nat.reduceSub, Nat.reduceMul, Nat.reduceLeDiff, Nat.reduceLT, reduceIte, reduceCtorEq, Nat.succ_ne_zero, elemsC, Int.reduceToNat, Nat.reducePow, i0, i1, i6, i7, i8, iO, N0, hyi]))
        exact ⟨⟨c ++ [x - (y + bor)], 0, .inr ⟨by simp, by rw [List.length_append]; rfl, by simp [St.put, St.new, St.grow]⟩, rfl, by rw [List.length_append]; rfl, key _ 0 (by omega) (by omega) (by omega)⟩, by omega⟩
end Go.Proofs.YtdnmhnjblgkjaaaGreat

/- The document's naturals (vernierref1): Mul, in the evaluator. -/
namespace Go.Proofs.YtdnmhnjblgkjaaaGreat
set_option linter.unusedSimpArgs false
set_option linter.unusedVariables false
set_option maxRecDepth 8000
open Go.Ev
theorem ref1_Mul (xs ys : List Nat) (hx : okL xs) (hy : okL ys) (hl : xs.length ≤ 1073741824) (hm : ys.length ≤ 1073741824) :
    Go.Ev.Fn CX 68 [natV xs, natV ys] (natV (lim (wth xs * wth ys))) := by
  refine Go.Ev.Fn.intro (fn := Tryz.f68) (body := (Tryz.f68).body.get!) (by kernel_rfl) (by kernel_rfl) (by kernel_rfl) (fun _ => rfl) (Nat.le_of_ble_eq_true (by kernel_rfl)) ?_; unfold Tryz.f68; simp only [Option.get!_some]
  (try (simp only [go_sem, Nat.reduceEqDiff, Nat.reduceAdd, Nat.reduceSub, Nat.reduceMul, Nat.reduceLeDiff, Nat.reduceLT, reduceIte, reduceCtorEq, Nat.succ_ne_zero, elemsC, Int.reduceToNat, Nat.reducePow])); repeat ((first | (simp (disch := (first | omega | (simp only [AL, List.length_map]; omega))) only [AR, AL, ifT, ifF, take_all, List.length_cons, List.length_nil, Int.reduceToNat, Int.reducePow, Nat.reducePow]) | (refine wk_intro (by kernel_rfl) ?_)); try (simp only [go_sem, Nat.reduceEqDiff, Nat.reduceAdd, Nat.reduceSub, Nat.reduceMul, Nat.reduceLeDiff, Nat.reduceLT, reduceIte, reduceCtorEq, Nat.succ_ne_zero, elemsC, Int.reduceToNat, Nat.reducePow]))
  refine vp_loop_inv (fun s' => s'.tmp 0 = .sv (natV xs) ∧ s'.tmp 1 = .sv (natV ys) ∧ s'.tmp 5 = .ref 14 0 1 0 (xs.length + ys.length) ∧
      ∃ c : List Nat, ∃ i : Nat, s'.obj 14 0 = some (c.map limb) ∧ s'.tmp 6 = .sv (.int .i64 i) ∧ c.length = xs.length + ys.length ∧ okL c ∧ i ≤ xs.length ∧ (∀ j, i + ys.length ≤ j → c.getD j 0 = 0) ∧
        wth (c.take (i + ys.length)) = wth (xs.take i) * wth ys)
    (fun s => match s.tmp 6 with | .sv (.int _ i) => xs.length - i.toNat | _ => 0) ?_ ?_
  · refine ⟨rfl, rfl, rfl, List.replicate (xs.length + ys.length) 0, 0, rfl, rfl, List.length_replicate .., okL_replicate _, by omega, fun j _ => ?_, ?_⟩
    · simp only [List.getD_eq_getElem?_getD, List.getElem?_replicate]
      split <;> rfl
    · rw [List.take_replicate, wth_replicate, List.take_zero, wth_nil, Nat.zero_mul]
  rintro s' ⟨i0, i1, i5, c0, i, iO, i6, hc0, hok0, hi, hz, hv⟩
  by_cases hend : i = xs.length
  · subst hend
    (try (simp only [go_sem, Nat.reduceEqDiff, Nat.reduceAdd, Nat.reduceSub, Nat.reduceMul, Nat.reduceLeDiff, Nat.reduceLT, reduceIte, reduceCtorEq, Nat.succ_ne_zero, elemsC, Int.reduceToNat, Nat.reducePow, i0, i1, i5, iO, i6])); repeat ((first | (simp (disch := (first | omega | (simp only [AL, List.length_map]; omega))) only [AR, AL, ifT, ifF, take_all, List.length_cons, List.length_nil, Int.reduceToNat, Int.reducePow, Nat.reducePow, i0, i1, i5, iO, i6]) | (refine wk_intro (by kernel_rfl) ?_) | (refine vp_draw (l := []) (by kernel_rfl) ?_)); try (simp only [go_sem, Nat.reduceEqDiff, Nat.reduceAdd, Nat.reduceSub, Nat.reduceMul, Nat.reduceLeDiff, Nat.reduceLT, reduceIte, reduceCtorEq, Nat.succ_ne_zero, elemsC, Int.reduceToNat, Nat.reducePow, i0, i1, i5, iO, i6]))
    refine vf_of (fn_natV (ref1_Trim c0 hok0 (by omega)) hc0) ?_; (try (simp only [go_sem, Nat.reduceEqDiff, Nat.reduceAdd, Nat.reduceSub, Nat.reduceMul, Nat.reduceLeDiff, Nat.reduceLT, reduceIte, reduceCtorEq, Nat.succ_ne_zero, elemsC, Int.reduceToNat, Nat.reducePow, i0, i1, i5, iO, i6])); repeat ((first | (simp (disch := (first | omega | (simp only [AL, List.length_map]; omega))) only [AR, AL, ifT, ifF, take_all, List.length_cons, List.length_nil, Int.reduceToNat, Int.reducePow, Nat.reducePow, i0, i1, i5, iO, i6]) | (refine wk_intro (by kernel_rfl) ?_) | (refine vp_draw (l := []) (by kernel_rfl) ?_)); try (simp only [go_sem, Nat.reduceEqDiff, Nat.reduceAdd, Nat.reduceSub, Nat.reduceMul, Nat.reduceLeDiff, Nat.reduceLT, reduceIte, reduceCtorEq, Nat.succ_ne_zero, elemsC, Int.reduceToNat, Nat.reducePow, i0, i1, i5, iO, i6]))
    have e : wth c0 = wth xs * wth ys := by
      rw [List.take_of_length_le (by omega), List.take_of_length_le (Nat.le_refl _)] at hv
      exact hv
    rw [e]
  · have h1 := getD_lt hx i
    have hvs := wth_take_succ xs i
    have hz0 := hz (i + ys.length) (Nat.le_refl _)
    (try (simp only [go_sem, Nat.reduceEqDiff, Nat.reduceAdd, Nat.reduceSub, Nat.reduceMul, Nat.reduceLeDiff, Nat.reduceLT, reduceIte, reduceCtorEq, Nat.succ_ne_zero, elemsC, Int.reduceToNat, Nat.reducePow, i0, i1, i5, iO, i6])); repeat ((first | (simp (disch := (first | omega | (simp only [AL, List.length_map]; omega))) only [AR, AL, ifT, ifF, take_all, List.length_cons, List.length_nil, Int.reduceToNat, Int.reducePow, Nat.reducePow, i0, i1, i5, iO, i6]) | (refine wk_intro (by kernel_rfl) ?_) | (refine vp_draw (l := []) (by kernel_rfl) ?_)); try (simp only [go_sem, Nat.reduceEqDiff, Nat.reduceAdd, Nat.reduceSub, Nat.reduceMul, Nat.reduceLeDiff, Nat.reduceLT, reduceIte, reduceCtorEq, Nat.succ_ne_zero, elemsC, Int.reduceToNat, Nat.reducePow, i0, i1, i5, iO, i6]))
    generalize hvv : xs.getD i 0 = v at *
    refine vp_loop_inv (fun s' => s'.tmp 0 = .sv (natV xs) ∧ s'.tmp 1 = .sv (natV ys) ∧ s'.tmp 5 = .ref 14 0 1 0 (xs.length + ys.length) ∧ s'.tmp 6 = .sv (.int .i64 i) ∧
        ∃ c : List Nat, ∃ k carry : Nat, s'.obj 14 0 = some (c.map limb) ∧ s'.tmp 8 = .sv (.int .i64 k) ∧ s'.tmp 7 = .sv (.int .u64 carry) ∧ c.length = xs.length + ys.length ∧ okL c ∧ k ≤ ys.length + 1 ∧ carry < 4294967296 ∧ (k = ys.length + 1 → carry = 0) ∧
          (∀ j, i + k ≤ j → c.getD j 0 = c0.getD j 0) ∧ wth (c.take (i + k)) + 4294967296 ^ (i + k) * carry = wth (c0.take (i + k)) + 4294967296 ^ i * (v * wth (ys.take k)))
      (fun s => match s.tmp 8 with | .sv (.int _ i) => ys.length + 1 - i.toNat | _ => 0) ?_ ?_
    · refine ⟨i0, i1, i5, i6, c0, 0, 0, iO, rfl, rfl, hc0, hok0, by omega, by omega, fun _ => rfl, fun _ _ => rfl, ?_⟩
      rw [List.take_zero, wth_nil, Nat.mul_zero, Nat.mul_zero, Nat.mul_zero]
    rintro s2 ⟨j0, j1, j5, j6, c, k, carry, jO, j8, j7, hc, hok, hk, hcar, hcz, hsame, hw⟩
    by_cases hend2 : ys.length ≤ k ∧ carry = 0
    · obtain ⟨hk2, rfl⟩ := hend2
      have hfin : wth (c.take (i + 1 + ys.length)) = wth (xs.take (i + 1)) * wth ys := by
        rw [Nat.mul_zero, Nat.add_zero, List.take_of_length_le (l := ys) hk2] at hw
        have hc0t : wth (c0.take (i + ys.length + 1)) = wth (c0.take (i + ys.length)) := by rw [wth_take_succ, hz0, Nat.mul_zero, Nat.add_zero]
        have hgoal : wth (c.take (i + ys.length + 1)) = wth (c0.take (i + ys.length)) + 4294967296 ^ i * (v * wth ys) := by
          rcases Nat.lt_or_ge ys.length k with h3 | h3
          · obtain rfl : k = ys.length + 1 := by omega
            rw [← Nat.add_assoc, hc0t] at hw
            exact hw
          · obtain rfl : k = ys.length := by omega
            rw [wth_take_succ, hsame _ (Nat.le_refl _), hz0, Nat.mul_zero, Nat.add_zero, hw]
        rw [show i + 1 + ys.length = i + ys.length + 1 by omega, hgoal, hv, hvs, Nat.add_mul, Nat.mul_assoc]
      have hc' : ∀ j, i + 1 + ys.length ≤ j → c.getD j 0 = 0 := fun j hj => (hsame j (by omega)).trans (hz j (by omega))
      clear hw hcz hsame hvs hv hz
      by_cases hk3 : k < ys.length
      · omega
      · (try (simp only [go_sem, Nat.reduceEqDiff, Nat.reduceAdd, Nat.reduceSub, Nat.reduceMul, Nat.reduceLeDiff, Nat.reduceLT, reduceIte, reduceCtorEq, Nat.succ_ne_zero, elemsC, Int.reduceToNat, Nat.reducePow, j0, j1, j5, j6, jO, j8, j7])); repeat ((first | (simp (disch := (first | omega | (simp only [AL, List.length_map]; omega))) only [AR, AL, ifT, ifF, take_all, List.length_cons, List.length_nil, Int.reduceToNat, Int.reducePow, Nat.reducePow, j0, j1, j5, j6, jO, j8, j7]) | (refine wk_intro (by kernel_rfl) ?_) | (refine vp_draw (l := []) (by kernel_rfl) ?_)); try (simp only [go_sem, Nat.reduceEqDiff, Nat.reduceAdd, Nat.reduceSub, Nat.reduceMul, Nat.reduceLeDiff, Nat.reduceLT, reduceIte, reduceCtorEq, Nat.succ_ne_zero, elemsC, Int.reduceToNat, Nat.reducePow, j0, j1, j5, j6, jO, j8, j7]))
        exact ⟨⟨c, i + 1, rfl, rfl, hc, hok, by omega, hc', hfin⟩, by omega⟩
    · have hk4 : k ≤ ys.length := by
        rcases Nat.lt_or_ge ys.length k with h3 | h3
        · exact absurd ⟨by omega, hcz (by omega)⟩ hend2
        · exact h3
      have h2 := getD_lt hy k
      have h3 := getD_lt hok (i + k)
      have h4 := limb_mul h1 h2
      have hs := hsame (i + k) (Nat.le_refl _)
      have hys := wth_take_succ ys k
      have hzk : k = ys.length → ys.getD k 0 = 0 ∧ c.getD (i + k) 0 = 0 := fun h => ⟨getD_ge (by omega), by rw [hs, h, hz0]⟩
      generalize hww : ys.getD k 0 = w at *
      generalize hu : c.getD (i + k) 0 = u at *
      have hnew : ∀ x, carry + v * w + u = x → wth ((c.set (i + k) (x % 4294967296)).take (i + (k + 1))) + 4294967296 ^ (i + (k + 1)) * (x / 4294967296) = wth (c0.take (i + (k + 1))) + 4294967296 ^ i * (v * wth (ys.take (k + 1))) := by
        intro x hx
        rw [show i + (k + 1) = i + k + 1 by omega, wth_set_take (by omega), wth_take_succ c0, ← hs, hys]
        have e1 : 4294967296 ^ (i + k) * (x % 4294967296) + 4294967296 ^ (i + k + 1) * (x / 4294967296) = 4294967296 ^ (i + k) * x := by
          rw [Nat.pow_succ, Nat.mul_assoc, ← Nat.mul_add, Nat.mod_add_div]
        have e2 : 4294967296 ^ (i + k) * x = 4294967296 ^ (i + k) * carry + 4294967296 ^ (i + k) * (v * w) + 4294967296 ^ (i + k) * u := by
          rw [← hx, Nat.mul_add, Nat.mul_add]
        have e3 : 4294967296 ^ i * (v * (wth (ys.take k) + 4294967296 ^ k * w)) = 4294967296 ^ i * (v * wth (ys.take k)) + 4294967296 ^ (i + k) * (v * w) := by
          rw [Nat.mul_add, Nat.mul_add, Nat.pow_add, Nat.mul_left_comm v, ← Nat.mul_assoc (4294967296 ^ i) (4294967296 ^ k)]
        rw [e3]
        omega
      have hcz' : ∀ x, carry + v * w + u = x → k + 1 = ys.length + 1 → x / 4294967296 = 0 := by
        intro x hx h
        obtain ⟨rfl, rfl⟩ := hzk (by omega)
        rw [Nat.mul_zero, Nat.add_zero] at hx
        omega
      generalize hp : v * w = p at *
      have hnew := hnew _ rfl
      have hcz' := hcz' _ rfl
      clear hw hcz hvs hv hys hzk
      by_cases hk5 : k < ys.length
      · (try (simp only [go_sem, Nat.reduceEqDiff, Nat.reduceAdd, Nat.reduceSub, Nat.reduceMul, Nat.reduceLeDiff, Nat.reduceLT, reduceIte, reduceCtorEq, Nat.succ_ne_zero, elemsC, Int.reduceToNat, Nat.reducePow, j0, j1, j5, j6, jO, j8, j7])); repeat ((first | (simp (disch := (first | omega | (simp only [AL, List.length_map]; omega))) only [AR, AL, ifT, ifF, take_all, List.length_cons, List.length_nil, Int.reduceToNat, Int.reducePow, Nat.reducePow, j0, j1, j5, j6, jO, j8, j7]) | (refine wk_intro (by kernel_rfl) ?_)); try (simp only [go_sem, Nat.reduceEqDiff, Nat.reduceAdd, Nat.reduceSub, Nat.reduceMul, Nat.reduceLeDiff, Nat.reduceLT, reduceIte, reduceCtorEq, Nat.succ_ne_zero, elemsC, Int.reduceToNat, Nat.reducePow, j0, j1, j5, j6, jO, j8, j7]))
        refine vp_draw (l := [1]) (by kernel_rfl) ?_; (try (simp only [go_sem, Nat.reduceEqDiff, Nat.reduceAdd, Nat.reduceSub, Nat.reduceMul, Nat.reduceLeDiff, Nat.reduceLT, reduceIte, reduceCtorEq, Nat.succ_ne_zero, elemsC, Int.reduceToNat, Nat.reducePow, j0, j1, j5, j6, jO, j8, j7])); repeat ((first | (simp (disch := (first | omega | (simp only [AL, List.length_map]; omega))) only [AR, AL, ifT, ifF, take_all, List.length_cons, List.length_nil, Int.reduceToNat, Int.reducePow, Nat.reducePow, j0, j1, j5, j6, jO, j8, j7]) | (refine wk_intro (by kernel_rfl) ?_) | (refine vp_draw (l := []) (by kernel_rfl) ?_)); try (simp only [go_sem, Nat.reduceEqDiff, Nat.reduceAdd, Nat.reduceSub, Nat.reduceMul, Nat.reduceLeDiff, Nat.reduceLT, reduceIte, reduceCtorEq, Nat.succ_ne_zero, elemsC, Int.reduceToNat, Nat.reducePow, j0, j1, j5, j6, jO, j8, j7]))
        refine vf_of (ref1_at ys k hy (by omega) (by omega)) ?_; (try (simp only [go_sem, Nat.reduceEqDiff, Nat.reduceAdd, Nat.reduceSub, Nat.reduceMul, Nat.reduceLeDiff, Nat.reduceLT, reduceIte, reduceCtorEq, Nat.succ_ne_zero, elemsC, Int.reduceToNat, Nat.reducePow, j0, j1, j5, j6, jO, j8, j7, hvv, hww, hp, hu])); repeat ((first | (simp (disch := (first | omega | (simp only [AL, List.length_map]; omega))) only [AR, AL, ifT, ifF, take_all, List.length_cons, List.length_nil, Int.reduceToNat, Int.reducePow, Nat.reducePow, j0, j1, j5, j6, jO, j8, j7, hvv, hww, hp, hu]) | (refine wk_intro (by kernel_rfl) ?_) | (refine vp_draw (l := []) (by kernel_rfl) ?_)); try (simp only [go_sem, Nat.reduceEqDiff, Nat.reduceAdd, Nat.reduceSub, Nat.reduceMul, Nat.reduceLeDiff, Nat.reduceLT, reduceIte, reduceCtorEq, Nat.succ_ne_zero, elemsC, Int.reduceToNat, Nat.reducePow, j0, j1, j5, j6, jO, j8, j7, hvv, hww, hp, hu]))
        exact ⟨⟨c.set (i + k) ((carry + p + u) % 4294967296), k + 1, (carry + p + u) / 4294967296, rfl, rfl, rfl, by rw [List.length_set]; exact hc, okL_set hok _ _ (Nat.mod_lt _ (by omega)), by omega, by omega, hcz', fun j hj => (getD_set_ne (by omega)).trans (hsame j (by omega)), hnew⟩, by omega⟩
      · have hcp : 0 < carry := by
          rcases Nat.eq_zero_or_pos carry with h | h
          · exact absurd ⟨by omega, h⟩ hend2
          · exact h
        (try (simp only [go_sem, Nat.reduceEqDiff, Nat.reduceAdd, Nat.reduceSub, Nat.reduceMul, Nat.reduceLeDiff, Nat.reduceLT, reduceIte, reduceCtorEq, Nat.succ_ne_zero, elemsC, Int.reduceToNat, Nat.reducePow, j0, j1, j5, j6, jO, j8, j7])); repeat ((first | (simp (disch := (first | omega | (simp only [AL, List.length_map]; omega))) only [AR, AL, ifT, ifF, take_all, List.length_cons, List.length_nil, Int.reduceToNat, Int.reducePow, Nat.reducePow, j0, j1, j5, j6, jO, j8, j7]) | (refine wk_intro (by kernel_rfl) ?_)); try (simp only [go_sem, Nat.reduceEqDiff, Nat.reduceAdd, Nat.reduceSub, Nat.reduceMul, Nat.reduceLeDiff, Nat.reduceLT, reduceIte, reduceCtorEq, Nat.succ_ne_zero, elemsC, Int.reduceToNat, Nat.reducePow, j0, j1, j5, j6, jO, j8, j7]))
        refine vp_draw (l := [1]) (by kernel_rfl) ?_; (try (simp only [go_sem, Nat.reduceEqDiff, Nat.reduceAdd, Nat.reduceSub, Nat.reduceMul, Nat.reduceLeDiff, Nat.reduceLT, reduceIte, reduceCtorEq, Nat.succ_ne_zero, elemsC, Int.reduceToNat, Nat.reducePow, j0, j1, j5, j6, jO, j8, j7])); repeat ((first | (simp (disch := (first | omega | (simp only [AL, List.length_map]; omega))) only [AR, AL, ifT, ifF, take_all, List.length_cons, List.length_nil, Int.reduceToNat, Int.reducePow, Nat.reducePow, j0, j1, j5, j6, jO, j8, j7]) | (refine wk_intro (by kernel_rfl) ?_) | (refine vp_draw (l := []) (by kernel_rfl) ?_)); try (simp only [go_sem, Nat.reduceEqDiff, Nat.reduceAdd, Nat.reduceSub, Nat.reduceMul, Nat.reduceLeDiff, Nat.reduceLT, reduceIte, reduceCtorEq, Nat.succ_ne_zero, elemsC, Int.reduceToNat, Nat.reducePow, j0, j1, j5, j6, jO, j8, j7]))
        refine vf_of (ref1_at ys k hy (by omega) (by omega)) ?_; (try (simp only [go_sem, Nat.reduceEqDiff, Nat.reduceAdd, Nat.reduceSub, Nat.reduceMul, Nat.reduceLeDiff, Nat.reduceLT, reduceIte, reduceCtorEq, Nat.succ_ne_zero, elemsC, Int.reduceToNat, Nat.reducePow, j0, j1, j5, j6, jO, j8, j7, hvv, hww, hp, hu])); repeat ((first | (simp (disch := (first | omega | (simp only [AL, List.length_map]; omega))) only [AR, AL, ifT, ifF, take_all, List.length_cons, List.length_nil, Int.reduceToNat, Int.reducePow, Nat.reducePow, j0, j1, j5, j6, jO, j8, j7, hvv, hww, hp, hu]) | (refine wk_intro (by kernel_rfl) ?_) | (refine vp_draw (l := []) (by kernel_rfl) ?_)); try (simp only [go_sem, Nat.reduceEqDiff, Nat.reduceAdd, Nat.reduceSub, Nat.reduceMul, Nat.reduceLeDiff, Nat.reduceLT, reduceIte, reduceCtorEq, Nat.succ_ne_zero, elemsC, Int.reduceToNat, Nat.reducePow, j0, j1, j5, j6, jO, j8, j7, hvv, hww, hp, hu]))
        have e1 : (carry + p + u) % 4294967296 = carry + p + u := by omega
        rw [e1] at hnew
        exact ⟨⟨c.set (i + k) (carry + p + u), k + 1, (carry + p + u) / 4294967296, rfl, rfl, rfl, by rw [List.length_set]; exact hc, okL_set hok _ _ (by omega), by omega, by omega, hcz', fun j hj => (getD_set_ne (by omega)).trans (hsame j (by omega)), hnew⟩, by omega⟩
end Go.Proofs.YtdnmhnjblgkjaaaGreat

/- The document's naturals (vernierref1): Shift upwards and downwards, in the evaluator. -/
namespace Go.Proofs.YtdnmhnjblgkjaaaGreat
set_option linter.unusedSimpArgs false
set_option linter.unusedVariables false
set_option maxRecDepth 8000
open Go.Ev
theorem or_low2 {k : Nat} (v low : Nat) (h : low < 2 ^ k) : v * 2 ^ k ||| low = v * 2 ^ k + low := by
  rw [Nat.mul_comm]
  exact (Nat.two_pow_add_eq_or_of_lt h v).symm
theorem pow_split {k : Nat} (h : k < 32) : 2 ^ k * 2 ^ (32 - k) = 4294967296 := by rw [← Nat.pow_add, show k + (32 - k) = 32 by omega]
/-- A limb moved upwards, and what comes from below. -/
theorem shl_limb {k v low : Nat} (hk : k < 32) (hv : v < 4294967296) (hl : low < 2 ^ k) :
    v * 2 ^ k + low < 18446744073709551616 ∧ (v * 2 ^ k + low) % 4294967296 + 4294967296 * (v * 2 ^ k / 4294967296) = v * 2 ^ k + low ∧ v * 2 ^ k / 4294967296 < 2 ^ k := by
  have hDE := pow_split hk
  have hk2 : (2 : Nat) ^ k ≤ 2147483648 := Nat.pow_le_pow_right (n := 2) (by omega) (show k ≤ 31 by omega)
  have h1 : v * 2 ^ k ≤ 4294967295 * 2 ^ k := Nat.mul_le_mul_right _ (by omega)
  have hmod : v * 2 ^ k % 4294967296 = 2 ^ k * (v % 2 ^ (32 - k)) := by
    conv => lhs; rw [← hDE]
    rw [Nat.mul_comm v, Nat.mul_mod_mul_left]
  have h3 : v % 2 ^ (32 - k) + 1 ≤ 2 ^ (32 - k) := Nat.mod_lt _ (Nat.pow_pos (by omega))
  have h4 : 2 ^ k * (v % 2 ^ (32 - k) + 1) ≤ 2 ^ k * 2 ^ (32 - k) := Nat.mul_le_mul_left _ h3
  rw [hDE, Nat.mul_add, Nat.mul_one, ← hmod] at h4
  generalize v * 2 ^ k = x at *
  generalize 2 ^ k = D at *
  omega
theorem ref1_shift_up (xs : List Nat) (m : Nat) (hx : okL xs) (hl : xs.length ≤ 1073741824) (s : Int) (hs : s = (m : Int)) (hm : m ≤ 4096) :
    Go.Ev.Fn CX 98 [natV xs, .int .i64 s] (natV (lim (wth xs * 2 ^ m))) := by
  refine Go.Ev.Fn.intro (fn := Tryz.f98) (body := (Tryz.f98).body.get!) (by kernel_rfl) (by kernel_rfl) (by kernel_rfl) (fun _ => rfl) (Nat.le_of_ble_eq_true (by kernel_rfl)) ?_; unfold Tryz.f98; simp only [Option.get!_some]
  have lx := lim_length_le hx
  subst hs
  have e1 : (if (-4096 : Int) > (m : Int) then (-4096 : Int) else (m : Int)) = (m : Int) := if_neg (by omega)
  have e2 : (if (4096 : Int) < (m : Int) then (4096 : Int) else (m : Int)) = (m : Int) := if_neg (by omega)
  (try (simp only [go_sem, Nat.reduceEqDiff, Nat.reduceAdd, Nat.reduceSub, Nat.reduceMul, Nat.reduceLeDiff, Nat.reduceLT, reduceIte, reduceCtorEq, Nat.succ_ne_zero, elemsC, Int.reduceToNat, Nat.reducePow, e1, e2])); repeat ((first | (simp (disch := (first | omega | (simp only [AL, List.length_map]; omega))) only [AR, AL, ifT, ifF, take_all, List.length_cons, List.length_nil, Int.reduceToNat, Int.reducePow, Nat.reducePow, e1, e2]) | (refine wk_intro (by kernel_rfl) ?_) | (refine vp_draw (l := []) (by kernel_rfl) ?_)); try (simp only [go_sem, Nat.reduceEqDiff, Nat.reduceAdd, Nat.reduceSub, Nat.reduceMul, Nat.reduceLeDiff, Nat.reduceLT, reduceIte, reduceCtorEq, Nat.succ_ne_zero, elemsC, Int.reduceToNat, Nat.reducePow, e1, e2]))
  refine vf_of (ref1_Trim xs hx (by omega)) ?_; (try (simp only [go_sem, Nat.reduceEqDiff, Nat.reduceAdd, Nat.reduceSub, Nat.reduceMul, Nat.reduceLeDiff, Nat.reduceLT, reduceIte, reduceCtorEq, Nat.succ_ne_zero, elemsC, Int.reduceToNat, Nat.reducePow, e1, e2, tdiv32, tmod32])); repeat ((first | (simp (disch := (first | omega | (simp only [AL, List.length_map]; omega))) only [AR, AL, ifT, ifF, take_all, List.length_cons, List.length_nil, Int.reduceToNat, Int.reducePow, Nat.reducePow, e1, e2, tdiv32, tmod32]) | (refine wk_intro (by kernel_rfl) ?_) | (refine vp_draw (l := []) (by kernel_rfl) ?_)); try (simp only [go_sem, Nat.reduceEqDiff, Nat.reduceAdd, Nat.reduceSub, Nat.reduceMul, Nat.reduceLeDiff, Nat.reduceLT, reduceIte, reduceCtorEq, Nat.succ_ne_zero, elemsC, Int.reduceToNat, Nat.reducePow, e1, e2, tdiv32, tmod32]))
  have ha := okL_lim (wth xs)
  have va := wth_lim (wth xs)
  generalize lim (wth xs) = a at *
  rw [← va]
  clear va
  have hk : m % 32 < 32 := Nat.mod_lt _ (by omega)
  have hpow : 2 ^ m = 4294967296 ^ (m / 32) * 2 ^ (m % 32) := by
    rw [show (4294967296 : Nat) = 2 ^ 32 by rfl, ← Nat.pow_mul, ← Nat.pow_add, Nat.div_add_mod]
  rw [hpow]
  generalize m % 32 = k at *
  have hw128 : m / 32 ≤ 128 := by omega
  generalize m / 32 = w at *
  refine vp_loop_inv (fun s' => s'.tmp 5 = .sv (natV a) ∧ s'.tmp 11 = .sv (.int .u64 k) ∧ ∃ c : List Nat, ∃ low : Nat, s'.tmp 10 = .ref 61 0 1 0 (w + c.length) ∧ s'.obj 61 0 = some ((List.replicate w 0 ++ c).map limb) ∧ s'.tmp 12 = .sv (.int .u64 low) ∧ s'.tmp 13 = .sv (.int .i64 c.length) ∧
      okL c ∧ c.length ≤ a.length + 1 ∧ low < 2 ^ k ∧ wth c + 4294967296 ^ c.length * low = wth (a.take c.length) * 2 ^ k)
    (fun s => match s.tmp 13 with | .sv (.int _ i) => a.length + 1 - i.toNat | _ => 0) ?_ ?_
  · exact ⟨rfl, rfl, [], 0, rfl, by rw [List.append_nil]; rfl, rfl, rfl, okL_nil, by simp, Nat.pow_pos (by omega), by rw [List.length_nil, List.take_zero, wth_nil, Nat.zero_mul, Nat.mul_zero]⟩
  clear e1 e2
  rintro s' ⟨i5, i11, c, low, i10, iO, i12, i13, hc, hcl, hlow, hv⟩
  have hDl : 2 ^ k ≤ 2147483648 := Nat.pow_le_pow_right (n := 2) (by omega) (show k ≤ 31 by omega)
  by_cases hend : c.length = a.length + 1
  · have hfin : wth (List.replicate w 0 ++ c) = wth a * (4294967296 ^ w * 2 ^ k) := by
      rw [wth_append, wth_replicate, Nat.zero_add, List.length_replicate, Nat.mul_left_comm]
      congr 1
      rw [hend, List.take_of_length_le (by omega)] at hv
      rcases Nat.eq_zero_or_pos low with rfl | h0
      · rw [Nat.mul_zero, Nat.add_zero] at hv; exact hv
      · exfalso
        have h1 := wth_lt ha
        have h2 : wth a * 2 ^ k < 4294967296 ^ a.length * 4294967296 := Nat.lt_of_lt_of_le (Nat.mul_lt_mul_of_pos_right h1 (Nat.pow_pos (by omega))) (Nat.mul_le_mul_left _ (by omega))
        have h3 : 4294967296 ^ (a.length + 1) * 1 ≤ 4294967296 ^ (a.length + 1) * low := Nat.mul_le_mul_left _ h0
        rw [Nat.pow_succ] at h3 hv
        generalize 4294967296 ^ a.length * 4294967296 = P at *
        omega
    have hrl : (List.replicate w 0 ++ c).length = w + c.length := by rw [List.length_append, List.length_replicate]
    have hro : okL (List.replicate w 0 ++ c) := okL_append.2 ⟨okL_replicate _, hc⟩
    clear hv hc
    generalize List.replicate w 0 ++ c = r at *
    (try (simp only [go_sem, Nat.reduceEqDiff, Nat.reduceAdd, Nat.reduceSub, Nat.reduceMul, Nat.reduceLeDiff, Nat.reduceLT, reduceIte, reduceCtorEq, Nat.succ_ne_zero, elemsC, Int.reduceToNat, Nat.reducePow, i5, i11, i10, iO, i12, i13])); repeat ((first | (simp (disch := (first | omega | (simp only [AL, List.length_map]; omega))) only [AR, AL, ifT, ifF, take_all, List.length_cons, List.length_nil, Int.reduceToNat, Int.reducePow, Nat.reducePow, i5, i11, i10, iO, i12, i13]) | (refine wk_intro (by kernel_rfl) ?_) | (refine vp_draw (l := []) (by kernel_rfl) ?_)); try (simp only [go_sem, Nat.reduceEqDiff, Nat.reduceAdd, Nat.reduceSub, Nat.reduceMul, Nat.reduceLeDiff, Nat.reduceLT, reduceIte, reduceCtorEq, Nat.succ_ne_zero, elemsC, Int.reduceToNat, Nat.reducePow, i5, i11, i10, iO, i12, i13]))
    refine vf_of (fn_natV (ref1_Trim r hro (by omega)) hrl) ?_; (try (simp only [go_sem, Nat.reduceEqDiff, Nat.reduceAdd, Nat.reduceSub, Nat.reduceMul, Nat.reduceLeDiff, Nat.reduceLT, reduceIte, reduceCtorEq, Nat.succ_ne_zero, elemsC, Int.reduceToNat, Nat.reducePow, i5, i11, i10, iO, i12, i13])); repeat ((first | (simp (disch := (first | omega | (simp only [AL, List.length_map]; omega))) only [AR, AL, ifT, ifF, take_all, List.length_cons, List.length_nil, Int.reduceToNat, Int.reducePow, Nat.reducePow, i5, i11, i10, iO, i12, i13]) | (refine wk_intro (by kernel_rfl) ?_) | (refine vp_draw (l := []) (by kernel_rfl) ?_)); try (simp only [go_sem, Nat.reduceEqDiff, Nat.reduceAdd, Nat.reduceSub, Nat.reduceMul, Nat.reduceLeDiff, Nat.reduceLT, reduceIte, reduceCtorEq, Nat.succ_ne_zero, elemsC, Int.reduceToNat, Nat.reducePow, i5, i11, i10, iO, i12, i13]))
    rw [hfin]
  · have h1 := getD_lt ha c.length
    have ht := wth_take_succ a c.length
    have hor := or_low2 (a.getD c.length 0) low hlow
    obtain ⟨g1, g2, g3⟩ := shl_limb hk h1 hlow
    generalize hvv : a.getD c.length 0 = v at *
    have hv' : ∀ z, z = (v * 2 ^ k + low) % 4294967296 → wth (c ++ [z]) + 4294967296 ^ (c ++ [z]).length * (v * 2 ^ k / 4294967296) = wth (a.take (c ++ [z]).length) * 2 ^ k := by
      intro z hz
      rw [List.length_append, List.length_singleton, wth_snoc, ht, Nat.add_mul, ← hv, hz, Nat.pow_succ, Nat.mul_assoc (4294967296 ^ c.length) 4294967296, Nat.add_assoc, ← Nat.mul_add, g2, Nat.mul_add, Nat.mul_assoc]
      omega
    have hj : bitsSV .or .u64 ((v * 2 ^ k : Nat) : Int) (low : Int) = some (.int .u64 ((v * 2 ^ k + low : Nat) : Int)) := by
      rw [b_or64 (by omega) (by omega), hor]
    have hw64 : v * 2 ^ k % 18446744073709551616 = v * 2 ^ k := Nat.mod_eq_of_lt (by omega)
    clear hv ht hpow
    have hk64 : min k 64 = k := by omega
    (try (simp only [go_sem, Nat.reduceEqDiff, Nat.reduceAdd, Nat.reduceSub, Nat.reduceMul, Nat.reduceLeDiff, Nat.reduceLT, reduceIte, reduceCtorEq, Nat.succ_ne_zero, elemsC, Int.reduceToNat, Nat.reducePow, i5, i11, i10, iO, i12, i13, N0])); repeat ((first | (simp (disch := (first | omega | (simp only [AL, List.length_map]; omega))) only [AR, AL, ifT, ifF, take_all, List.length_cons, List.length_nil, Int.reduceToNat, Int.reducePow, Nat.reducePow, i5, i11, i10, iO, i12, i13, N0]) | (refine wk_intro (by kernel_rfl) ?_) | (refine vp_draw (l := []) (by kernel_rfl) ?_)); try (simp only [go_sem, Nat.reduceEqDiff, Nat.reduceAdd, Nat.reduceSub, Nat.reduceMul, Nat.reduceLeDiff, Nat.reduceLT, reduceIte, reduceCtorEq, Nat.succ_ne_zero, elemsC, Int.reduceToNat, Nat.reducePow, i5, i11, i10, iO, i12, i13, N0]))
    refine vf_of (ref1_at a c.length ha (by omega) (by omega)) ?_; (try (simp only [go_sem, Nat.reduceEqDiff, Nat.reduceAdd, Nat.reduceSub, Nat.reduceMul, Nat.reduceLeDiff, Nat.reduceLT, reduceIte, reduceCtorEq, Nat.succ_ne_zero, elemsC, Int.reduceToNat, Nat.reducePow, i5, i11, i10, iO, i12, i13, N0, hvv, hj, hw64, hk64])); repeat ((first | (simp (disch := (first | omega | (simp only [AL, List.length_map]; omega))) only [AR, AL, ifT, ifF, take_all, List.length_cons, List.length_nil, Int.reduceToNat, Int.reducePow, Nat.reducePow, i5, i11, i10, iO, i12, i13, N0, hvv, hj, hw64, hk64]) | (refine wk_intro (by kernel_rfl) ?_) | (refine vp_draw (l := []) (by kernel_rfl) ?_)); try (simp only [go_sem, Nat.reduceEqDiff, Nat.reduceAdd, Nat.reduceSub, Nat.reduceMul, Nat.reduceLeDiff, Nat.reduceLT, reduceIte, reduceCtorEq, Nat.succ_ne_zero, elemsC, Int.reduceToNat, Nat.reducePow, i5, i11, i10, iO, i12, i13, N0, hvv, hj, hw64, hk64]))
    have hz : (v * 2 ^ k + low) % 4294967296 < 4294967296 := Nat.mod_lt _ (by omega)
    refine ⟨⟨c ++ [(v * 2 ^ k + low) % 4294967296], v * 2 ^ k / 4294967296, by rw [List.length_append]; rfl, by rw [← List.append_assoc, List.map_append (l₂ := [_])]; rfl, rfl, by rw [List.length_append]; rfl, okL_append.2 ⟨hc, okL_cons.2 ⟨hz, okL_nil⟩⟩, by rw [List.length_append, List.length_singleton]; omega, g3, hv' _ rfl⟩, by omega⟩
/-- A limb moved downwards, and what comes from above. -/
theorem shr_limb {k x y z W : Nat} (hk : k < 32) (hW : W = x + 4294967296 * (y + 4294967296 * z)) : W / 2 ^ k % 4294967296 = (x + 4294967296 * y) / 2 ^ k % 4294967296 ∧ W / 2 ^ k / 4294967296 = (y + 4294967296 * z) / 2 ^ k ∨ ¬ x < 4294967296 := by
  by_cases hx : x < 4294967296
  · left
    have h1 : 2 ^ k * 4294967296 * 2 ^ (32 - k) = 4294967296 * 4294967296 := by rw [Nat.mul_right_comm, pow_split hk]
    constructor
    · rw [← Nat.mod_mul_right_div_self, ← Nat.mod_mul_right_div_self]
      congr 1
      have h2 : W = x + 4294967296 * y + 2 ^ k * 4294967296 * (2 ^ (32 - k) * z) := by
        rw [← Nat.mul_assoc, h1, hW, Nat.mul_add, Nat.add_assoc, Nat.mul_assoc]
      rw [h2, Nat.add_mul_mod_self_left]
    · rw [Nat.div_div_eq_div_mul, Nat.mul_comm, ← Nat.div_div_eq_div_mul]
      congr 1
      rw [hW, Nat.add_mul_div_left _ _ (by omega), Nat.div_eq_of_lt hx, Nat.zero_add]
  · exact .inr hx
theorem or_high {x y : Nat} (hx : x < 4294967296) : x ||| y * 4294967296 = x + 4294967296 * y := by
  rw [Nat.or_comm, or_add y x hx]
  omega
end Go.Proofs.YtdnmhnjblgkjaaaGreat

/- The document's naturals (vernierref1): DivMod and Gcd, in the evaluator. -/
namespace Go.Proofs.YtdnmhnjblgkjaaaGreat
set_option linter.unusedSimpArgs false
set_option linter.unusedVariables false
set_option maxRecDepth 8000
open Go.Ev
theorem wth_at (xs : List Nat) {w : Nat} (h : w < xs.length) : wth xs = wth (xs.take w) + 4294967296 ^ w * (xs.getD w 0 + 4294967296 * wth (xs.drop (w + 1))) := by
  conv => lhs; rw [← List.take_append_drop w xs, wth_append]
  rw [List.length_take, Nat.min_eq_left (by omega), wth_drop h]
theorem wth_set_add (q : List Nat) {w : Nat} (h : w < q.length) (e : Nat) : wth (q.set w (q.getD w 0 + e)) = wth q + 4294967296 ^ w * e := by
  have h1 := wth_at (q.set w (q.getD w 0 + e)) (w := w) (by rw [List.length_set]; exact h)
  rw [getD_set_self h, List.drop_set_of_lt (by omega), List.take_set_of_le (Nat.le_refl _)] at h1
  rw [h1, wth_at q h]
  generalize 4294967296 * wth (q.drop (w + 1)) = D
  rw [Nat.mul_add, Nat.mul_add, Nat.mul_add]
  omega
theorem pow_32 (J : Nat) : 2 ^ J = 4294967296 ^ (J / 32) * 2 ^ (J % 32) := by
  rw [show (4294967296 : Nat) = 2 ^ 32 by rfl, ← Nat.pow_mul, ← Nat.pow_add, Nat.div_add_mod]
theorem wth_shr (xs : List Nat) (hx : okL xs) {w : Nat} (h : w < xs.length) : wth xs / 4294967296 ^ w = xs.getD w 0 + 4294967296 * wth (xs.drop (w + 1)) := by
  rw [wth_at xs h, Nat.add_comm, Nat.mul_add_div (Nat.pow_pos (by omega)), Nat.div_eq_of_lt (wth_low hx w), Nat.add_zero]
/-- A bit of a row. -/
theorem bit_get (xs : List Nat) (hx : okL xs) (J : Nat) (h : J / 32 < xs.length) : xs.getD (J / 32) 0 / 2 ^ (J % 32) % 2 = wth xs / 2 ^ J % 2 := by
  rw [pow_32 J, ← Nat.div_div_eq_div_mul, wth_shr xs hx h]
  have hk : J % 32 < 32 := Nat.mod_lt _ (by omega)
  generalize wth (xs.drop (J / 32 + 1)) = Z
  generalize xs.getD (J / 32) 0 = x
  generalize J % 32 = j at *
  have e : x + 4294967296 * Z = x + 2 ^ j * (2 * (2 ^ (31 - j) * Z)) := by
    rw [← Nat.mul_assoc 2, ← Nat.pow_succ', ← Nat.mul_assoc, show (31 - j).succ = 32 - j by omega, pow_split hk]
  rw [e, Nat.add_mul_div_left _ _ (Nat.pow_pos (by omega)), Nat.add_mul_mod_self_left]
/-- A bit that is not there yet. -/
theorem bit_set (q : List Nat) (hq : okL q) (J Q : Nat) (h : J / 32 < q.length) (hv : wth q = Q * 2 ^ (J + 1)) :
    q.getD (J / 32) 0 ||| 2 ^ (J % 32) = q.getD (J / 32) 0 + 2 ^ (J % 32) ∧ q.getD (J / 32) 0 + 2 ^ (J % 32) < 4294967296 ∧ wth (q.set (J / 32) (q.getD (J / 32) 0 + 2 ^ (J % 32))) = (2 * Q + 1) * 2 ^ J := by
  have hk : J % 32 < 32 := Nat.mod_lt _ (by omega)
  have h1 : q.getD (J / 32) 0 = (Q * 2 ^ (J % 32 + 1)) % 4294967296 := by
    have h2 := wth_shr q hq h
    rw [hv, Nat.pow_succ, pow_32 J, Nat.mul_assoc, Nat.mul_left_comm, Nat.mul_div_cancel_left _ (Nat.pow_pos (by omega)), ← Nat.pow_succ] at h2
    rw [h2, Nat.add_mul_mod_self_left, Nat.mod_eq_of_lt (getD_lt hq _)]
  have h3 : q.getD (J / 32) 0 = 2 ^ (J % 32 + 1) * (Q % 2 ^ (31 - J % 32)) := by
    rw [h1, show (4294967296 : Nat) = 2 ^ (J % 32 + 1) * 2 ^ (31 - J % 32) by rw [← Nat.pow_add, show J % 32 + 1 + (31 - J % 32) = 32 by omega], Nat.mul_comm Q, Nat.mul_mod_mul_left]
  refine ⟨?_, ?_, ?_⟩
  · rw [h3]
    exact (Nat.two_pow_add_eq_or_of_lt (Nat.pow_lt_pow_right (by omega) (by omega)) _).symm
  · have h4 : Q % 2 ^ (31 - J % 32) + 1 ≤ 2 ^ (31 - J % 32) := Nat.mod_lt _ (Nat.pow_pos (by omega))
    have h5 : 2 ^ (J % 32 + 1) * (Q % 2 ^ (31 - J % 32) + 1) ≤ 2 ^ (J % 32 + 1) * 2 ^ (31 - J % 32) := Nat.mul_le_mul_left _ h4
    rw [← Nat.pow_add, show J % 32 + 1 + (31 - J % 32) = 32 by omega, Nat.mul_add, Nat.mul_one, ← h3] at h5
    have h6 : 0 < 2 ^ (J % 32) := Nat.pow_pos (by omega)
    have h7 : 2 ^ (J % 32 + 1) = 2 ^ (J % 32) + 2 ^ (J % 32) := by rw [Nat.pow_succ]; omega
    have h8 : (2 : Nat) ^ 32 = 4294967296 := rfl
    omega
  · rw [wth_set_add q h, hv, ← pow_32 J, Nat.pow_succ, Nat.add_mul, Nat.one_mul, Nat.mul_comm (2 ^ J) 2, ← Nat.mul_assoc, Nat.mul_comm Q 2]
/-- One bit of a division. -/
theorem bit_step {X y J r b : Nat} (hy : 0 < y) (hr : r = X / 2 ^ (J + 1) % y) (hb : b = X / 2 ^ J % 2) :
    X / 2 ^ J % y = (if y ≤ r * 2 + b then r * 2 + b - y else r * 2 + b) ∧ X / 2 ^ J / y = 2 * (X / 2 ^ (J + 1) / y) + (if y ≤ r * 2 + b then 1 else 0) := by
  have e1 : X / 2 ^ J = 2 * (X / 2 ^ (J + 1)) + b := by
    rw [Nat.pow_succ, ← Nat.div_div_eq_div_mul, hb, Nat.add_comm, Nat.mod_add_div]
  have e2 := Nat.div_add_mod (X / 2 ^ (J + 1)) y
  rw [← hr] at e2
  generalize X / 2 ^ (J + 1) / y = Q at *
  have hr' : r < y := by rw [hr]; exact Nat.mod_lt _ hy
  have hb' : b < 2 := by rw [hb]; exact Nat.mod_lt _ (by omega)
  clear hr hb
  have e3 : X / 2 ^ J = y * (2 * Q) + (r * 2 + b) := by
    rw [e1, ← e2, Nat.mul_add, Nat.mul_left_comm]
    omega
  generalize X / 2 ^ J = A at *
  subst e3
  split
  · rename_i h
    have e4 : y * (2 * Q) + (r * 2 + b) = y * (2 * Q + 1) + (r * 2 + b - y) := by rw [Nat.mul_add, Nat.mul_one]; omega
    rw [e4, Nat.mul_add_mod, Nat.mul_add_div hy, Nat.mod_eq_of_lt (by omega), Nat.div_eq_of_lt (by omega), Nat.add_zero]
    exact ⟨rfl, rfl⟩
  · rename_i h
    rw [Nat.mul_add_mod, Nat.mul_add_div hy, Nat.mod_eq_of_lt (by omega), Nat.div_eq_of_lt (by omega)]
    exact ⟨rfl, rfl⟩
theorem and_one (x : Nat) : x &&& 1 = x % 2 := Nat.and_two_pow_sub_one_eq_mod x 1
set_option maxHeartbeats 4000000 in
theorem ref1_DivMod (xs ys : List Nat) (hx : okL xs) (hy : okL ys) (hl : xs.length ≤ 16777216) (hm : ys.length ≤ 16777216) :
    Go.Ev.Fn CX 71 [natV xs, natV ys] (.tup [natV (lim (wth xs / wth ys)), natV (lim (remN (wth xs) (wth ys))), .bool (decide (wth ys ≠ 0))]) := by
  refine Go.Ev.Fn.intro (fn := Tryz.f71) (body := (Tryz.f71).body.get!) (by kernel_rfl) (by kernel_rfl) (by kernel_rfl) (fun _ => rfl) (Nat.le_of_ble_eq_true (by kernel_rfl)) ?_; unfold Tryz.f71; simp only [Option.get!_some]
  have hTo := ref1_To xs hx (by omega)
  have hTo2 := ref1_To ys hy (by omega)
  have hsm := ref1_small xs (wth ys) hx (by omega)
  generalize hX : wth xs = X at *
  generalize hY : wth ys = Y at *
  (try (simp only [go_sem, Nat.reduceEqDiff, Nat.reduceAdd, Nat.reduceSub, Nat.reduceMul, Nat.reduceLeDiff, Nat.reduceLT, reduceIte, reduceCtorEq, Nat.succ_ne_zero, elemsC, Int.reduceToNat, Nat.reducePow])); repeat ((first | (simp (disch := (first | omega | (simp only [AL, List.length_map]; omega))) only [AR, AL, ifT, ifF, take_all, List.length_cons, List.length_nil, Int.reduceToNat, Int.reducePow, Nat.reducePow]) | (refine wk_intro (by kernel_rfl) ?_) | (refine vp_draw (l := []) (by kernel_rfl) ?_)); try (simp only [go_sem, Nat.reduceEqDiff, Nat.reduceAdd, Nat.reduceSub, Nat.reduceMul, Nat.reduceLeDiff, Nat.reduceLT, reduceIte, reduceCtorEq, Nat.succ_ne_zero, elemsC, Int.reduceToNat, Nat.reducePow]))
  refine vf_of (ref1_Trim ys hy (by omega)) ?_; (try (simp only [go_sem, Nat.reduceEqDiff, Nat.reduceAdd, Nat.reduceSub, Nat.reduceMul, Nat.reduceLeDiff, Nat.reduceLT, reduceIte, reduceCtorEq, Nat.succ_ne_zero, elemsC, Int.reduceToNat, Nat.reducePow])); repeat ((first | (simp (disch := (first | omega | (simp only [AL, List.length_map]; omega))) only [AR, AL, ifT, ifF, take_all, List.length_cons, List.length_nil, Int.reduceToNat, Int.reducePow, Nat.reducePow]) | (refine wk_intro (by kernel_rfl) ?_) | (refine vp_draw (l := []) (by kernel_rfl) ?_)); try (simp only [go_sem, Nat.reduceEqDiff, Nat.reduceAdd, Nat.reduceSub, Nat.reduceMul, Nat.reduceLeDiff, Nat.reduceLT, reduceIte, reduceCtorEq, Nat.succ_ne_zero, elemsC, Int.reduceToNat, Nat.reducePow]))
  rw [hY]
  rcases Nat.eq_zero_or_pos Y with h0 | h0
  · subst h0
    rw [lim_zero, Nat.div_zero, lim_zero, show remN X 0 = 0 by rfl, lim_zero]
    (try (simp only [go_sem, Nat.reduceEqDiff, Nat.reduceAdd, Nat.reduceSub, Nat.reduceMul, Nat.reduceLeDiff, Nat.reduceLT, reduceIte, reduceCtorEq, Nat.succ_ne_zero, elemsC, Int.reduceToNat, Nat.reducePow])); repeat ((first | (simp (disch := (first | omega | (simp only [AL, List.length_map]; omega))) only [AR, AL, ifT, ifF, take_all, List.length_cons, List.length_nil, Int.reduceToNat, Int.reducePow, Nat.reducePow]) | (refine wk_intro (by kernel_rfl) ?_) | (refine vp_draw (l := []) (by kernel_rfl) ?_)); try (simp only [go_sem, Nat.reduceEqDiff, Nat.reduceAdd, Nat.reduceSub, Nat.reduceMul, Nat.reduceLeDiff, Nat.reduceLT, reduceIte, reduceCtorEq, Nat.succ_ne_zero, elemsC, Int.reduceToNat, Nat.reducePow]))
    rfl
  have e0 : remN X Y = X % Y := if_neg (by omega)
  have e1 : decide (Y ≠ 0) = true := decide_eq_true (by omega)
  have hn0 : 0 < (lim Y).length := List.length_pos_iff.2 (fun h => by have := lim_eq_nil.1 h; omega)
  rw [e0, e1]
  (try (simp only [go_sem, Nat.reduceEqDiff, Nat.reduceAdd, Nat.reduceSub, Nat.reduceMul, Nat.reduceLeDiff, Nat.reduceLT, reduceIte, reduceCtorEq, Nat.succ_ne_zero, elemsC, Int.reduceToNat, Nat.reducePow])); repeat ((first | (simp (disch := (first | omega | (simp only [AL, List.length_map]; omega))) only [AR, AL, ifT, ifF, take_all, List.length_cons, List.length_nil, Int.reduceToNat, Int.reducePow, Nat.reducePow]) | (refine wk_intro (by kernel_rfl) ?_) | (refine vp_draw (l := []) (by kernel_rfl) ?_)); try (simp only [go_sem, Nat.reduceEqDiff, Nat.reduceAdd, Nat.reduceSub, Nat.reduceMul, Nat.reduceLeDiff, Nat.reduceLT, reduceIte, reduceCtorEq, Nat.succ_ne_zero, elemsC, Int.reduceToNat, Nat.reducePow]))
  refine vf_of (hTo) ?_; (try (simp only [go_sem, Nat.reduceEqDiff, Nat.reduceAdd, Nat.reduceSub, Nat.reduceMul, Nat.reduceLeDiff, Nat.reduceLT, reduceIte, reduceCtorEq, Nat.succ_ne_zero, elemsC, Int.reduceToNat, Nat.reducePow])); repeat ((first | (simp (disch := (first | omega | (simp only [AL, List.length_map]; omega))) only [AR, AL, ifT, ifF, take_all, List.length_cons, List.length_nil, Int.reduceToNat, Int.reducePow, Nat.reducePow]) | (refine wk_intro (by kernel_rfl) ?_) | (refine vp_draw (l := []) (by kernel_rfl) ?_)); try (simp only [go_sem, Nat.reduceEqDiff, Nat.reduceAdd, Nat.reduceSub, Nat.reduceMul, Nat.reduceLeDiff, Nat.reduceLT, reduceIte, reduceCtorEq, Nat.succ_ne_zero, elemsC, Int.reduceToNat, Nat.reducePow]))
  refine vf_of (hTo2) ?_; (try (simp only [go_sem, Nat.reduceEqDiff, Nat.reduceAdd, Nat.reduceSub, Nat.reduceMul, Nat.reduceLeDiff, Nat.reduceLT, reduceIte, reduceCtorEq, Nat.succ_ne_zero, elemsC, Int.reduceToNat, Nat.reducePow])); repeat ((first | (simp (disch := (first | omega | (simp only [AL, List.length_map]; omega))) only [AR, AL, ifT, ifF, take_all, List.length_cons, List.length_nil, Int.reduceToNat, Int.reducePow, Nat.reducePow]) | (refine wk_intro (by kernel_rfl) ?_) | (refine vp_draw (l := []) (by kernel_rfl) ?_)); try (simp only [go_sem, Nat.reduceEqDiff, Nat.reduceAdd, Nat.reduceSub, Nat.reduceMul, Nat.reduceLeDiff, Nat.reduceLT, reduceIte, reduceCtorEq, Nat.succ_ne_zero, elemsC, Int.reduceToNat, Nat.reducePow]))
  by_cases hX2 : X < 18446744073709551616 ∧ Y < 18446744073709551616
  · obtain ⟨hX3, hY3⟩ := hX2
    have hq : X / Y < 18446744073709551616 := Nat.lt_of_le_of_lt (Nat.div_le_self _ _) hX3
    have hr : X % Y < 18446744073709551616 := Nat.lt_trans (Nat.mod_lt _ h0) hY3
    have hY4 : Y ≠ 0 := by omega
    rw [if_pos hX3, if_pos hY3, decide_eq_true hX3, decide_eq_true hY3]
    have oQ := ref1_Of (X / Y) hq
    have oR := ref1_Of (X % Y) hr
    have hqm : X / Y % 18446744073709551616 = X / Y := Nat.mod_eq_of_lt hq
    (try (simp only [go_sem, Nat.reduceEqDiff, Nat.reduceAdd, Nat.reduceSub, Nat.reduceMul, Nat.reduceLeDiff, Nat.reduceLT, reduceIte, reduceCtorEq, Nat.succ_ne_zero, elemsC, Int.reduceToNat, Nat.reducePow, hqm])); repeat ((first | (simp (disch := (first | omega | (simp only [AL, List.length_map]; omega))) only [AR, AL, ifT, ifF, take_all, List.length_cons, List.length_nil, Int.reduceToNat, Int.reducePow, Nat.reducePow, hqm]) | (refine wk_intro (by kernel_rfl) ?_) | (refine vp_draw (l := []) (by kernel_rfl) ?_)); try (simp only [go_sem, Nat.reduceEqDiff, Nat.reduceAdd, Nat.reduceSub, Nat.reduceMul, Nat.reduceLeDiff, Nat.reduceLT, reduceIte, reduceCtorEq, Nat.succ_ne_zero, elemsC, Int.reduceToNat, Nat.reducePow, hqm]))
    refine vf_of (oQ) ?_; (try (simp only [go_sem, Nat.reduceEqDiff, Nat.reduceAdd, Nat.reduceSub, Nat.reduceMul, Nat.reduceLeDiff, Nat.reduceLT, reduceIte, reduceCtorEq, Nat.succ_ne_zero, elemsC, Int.reduceToNat, Nat.reducePow, hqm])); repeat ((first | (simp (disch := (first | omega | (simp only [AL, List.length_map]; omega))) only [AR, AL, ifT, ifF, take_all, List.length_cons, List.length_nil, Int.reduceToNat, Int.reducePow, Nat.reducePow, hqm]) | (refine wk_intro (by kernel_rfl) ?_) | (refine vp_draw (l := []) (by kernel_rfl) ?_)); try (simp only [go_sem, Nat.reduceEqDiff, Nat.reduceAdd, Nat.reduceSub, Nat.reduceMul, Nat.reduceLeDiff, Nat.reduceLT, reduceIte, reduceCtorEq, Nat.succ_ne_zero, elemsC, Int.reduceToNat, Nat.reducePow, hqm]))
    refine vf_of (oR) ?_; (try (simp only [go_sem, Nat.reduceEqDiff, Nat.reduceAdd, Nat.reduceSub, Nat.reduceMul, Nat.reduceLeDiff, Nat.reduceLT, reduceIte, reduceCtorEq, Nat.succ_ne_zero, elemsC, Int.reduceToNat, Nat.reducePow])); repeat ((first | (simp (disch := (first | omega | (simp only [AL, List.length_map]; omega))) only [AR, AL, ifT, ifF, take_all, List.length_cons, List.length_nil, Int.reduceToNat, Int.reducePow, Nat.reducePow]) | (refine wk_intro (by kernel_rfl) ?_) | (refine vp_draw (l := []) (by kernel_rfl) ?_)); try (simp only [go_sem, Nat.reduceEqDiff, Nat.reduceAdd, Nat.reduceSub, Nat.reduceMul, Nat.reduceLeDiff, Nat.reduceLT, reduceIte, reduceCtorEq, Nat.succ_ne_zero, elemsC, Int.reduceToNat, Nat.reducePow]))
  · have hdec : (decide (X < 18446744073709551616) && decide (Y < 18446744073709551616)) = false := by
      rw [← Bool.decide_and]; exact decide_eq_false hX2
    by_cases hY1 : Y < 4294967296
    · have hY3 : Y < 18446744073709551616 := by omega
      have hX3 : ¬ X < 18446744073709551616 := fun h => hX2 ⟨h, hY3⟩
      have hr : X % Y < 18446744073709551616 := Nat.lt_trans (Nat.mod_lt _ h0) hY3
      have hsm := hsm h0 hY1
      have oR := ref1_Of (X % Y) hr
      rw [if_pos hY3, if_neg hX3, decide_eq_true hY3, decide_eq_false hX3]
      (try (simp only [go_sem, Nat.reduceEqDiff, Nat.reduceAdd, Nat.reduceSub, Nat.reduceMul, Nat.reduceLeDiff, Nat.reduceLT, reduceIte, reduceCtorEq, Nat.succ_ne_zero, elemsC, Int.reduceToNat, Nat.reducePow])); repeat ((first | (simp (disch := (first | omega | (simp only [AL, List.length_map]; omega))) only [AR, AL, ifT, ifF, take_all, List.length_cons, List.length_nil, Int.reduceToNat, Int.reducePow, Nat.reducePow]) | (refine wk_intro (by kernel_rfl) ?_) | (refine vp_draw (l := []) (by kernel_rfl) ?_)); try (simp only [go_sem, Nat.reduceEqDiff, Nat.reduceAdd, Nat.reduceSub, Nat.reduceMul, Nat.reduceLeDiff, Nat.reduceLT, reduceIte, reduceCtorEq, Nat.succ_ne_zero, elemsC, Int.reduceToNat, Nat.reducePow]))
      refine vf_of (hsm) ?_; (try (simp only [go_sem, Nat.reduceEqDiff, Nat.reduceAdd, Nat.reduceSub, Nat.reduceMul, Nat.reduceLeDiff, Nat.reduceLT, reduceIte, reduceCtorEq, Nat.succ_ne_zero, elemsC, Int.reduceToNat, Nat.reducePow])); repeat ((first | (simp (disch := (first | omega | (simp only [AL, List.length_map]; omega))) only [AR, AL, ifT, ifF, take_all, List.length_cons, List.length_nil, Int.reduceToNat, Int.reducePow, Nat.reducePow]) | (refine wk_intro (by kernel_rfl) ?_) | (refine vp_draw (l := []) (by kernel_rfl) ?_)); try (simp only [go_sem, Nat.reduceEqDiff, Nat.reduceAdd, Nat.reduceSub, Nat.reduceMul, Nat.reduceLeDiff, Nat.reduceLT, reduceIte, reduceCtorEq, Nat.succ_ne_zero, elemsC, Int.reduceToNat, Nat.reducePow]))
      refine vf_of (oR) ?_; (try (simp only [go_sem, Nat.reduceEqDiff, Nat.reduceAdd, Nat.reduceSub, Nat.reduceMul, Nat.reduceLeDiff, Nat.reduceLT, reduceIte, reduceCtorEq, Nat.succ_ne_zero, elemsC, Int.reduceToNat, Nat.reducePow])); repeat ((first | (simp (disch := (first | omega | (simp only [AL, List.length_map]; omega))) only [AR, AL, ifT, ifF, take_all, List.length_cons, List.length_nil, Int.reduceToNat, Int.reducePow, Nat.reducePow]) | (refine wk_intro (by kernel_rfl) ?_) | (refine vp_draw (l := []) (by kernel_rfl) ?_)); try (simp only [go_sem, Nat.reduceEqDiff, Nat.reduceAdd, Nat.reduceSub, Nat.reduceMul, Nat.reduceLeDiff, Nat.reduceLT, reduceIte, reduceCtorEq, Nat.succ_ne_zero, elemsC, Int.reduceToNat, Nat.reducePow]))
    · clear hsm hTo hTo2
      have hcases : (¬ X < 18446744073709551616 ∧ Y < 18446744073709551616) ∨ (X < 18446744073709551616 ∧ ¬ Y < 18446744073709551616) ∨ (¬ X < 18446744073709551616 ∧ ¬ Y < 18446744073709551616) := by omega
      rcases hcases with ⟨hX3, hY3⟩ | ⟨hX3, hY3⟩ | ⟨hX3, hY3⟩
      all_goals
        simp only [hX3, hY3, if_true, if_false, decide_true, decide_false]
        (try (simp only [go_sem, Nat.reduceEqDiff, Nat.reduceAdd, Nat.reduceSub, Nat.reduceMul, Nat.reduceLeDiff, Nat.reduceLT, reduceIte, reduceCtorEq, Nat.succ_ne_zero, elemsC, Int.reduceToNat, Nat.reducePow])); repeat ((first | (simp (disch := (first | omega | (simp only [AL, List.length_map]; omega))) only [AR, AL, ifT, ifF, take_all, List.length_cons, List.length_nil, Int.reduceToNat, Int.reducePow, Nat.reducePow]) | (refine wk_intro (by kernel_rfl) ?_)); try (simp only [go_sem, Nat.reduceEqDiff, Nat.reduceAdd, Nat.reduceSub, Nat.reduceMul, Nat.reduceLeDiff, Nat.reduceLT, reduceIte, reduceCtorEq, Nat.succ_ne_zero, elemsC, Int.reduceToNat, Nat.reducePow]))
        refine vp_loop_inv (fun s => s.tmp 0 = .sv (natV xs) ∧ s.tmp 1 = .sv (natV ys) ∧ s.tmp 13 = .ref 58 0 1 0 xs.length ∧ ∃ q : List Nat, ∃ I R : Nat, s.obj 58 0 = some (q.map limb) ∧ s.tmp 15 = .sv (.int .i64 ((I : Int) - 1)) ∧ ((s.tmp 14 = .nil ∧ R = 0) ∨ s.tmp 14 = .sv (natV (lim R))) ∧
            q.length = xs.length ∧ okL q ∧ I ≤ 32 * xs.length ∧ R = X / 2 ^ I % Y ∧ wth q = X / 2 ^ I / Y * 2 ^ I)
          (fun s => match s.tmp 15 with | .sv (.int _ i) => (i + 1).toNat | _ => 0) ?_ ?_
        · have hXlt := wth_lt hx
          rw [hX] at hXlt
          have h32 : (4294967296 : Nat) ^ xs.length = 2 ^ (32 * xs.length) := by rw [Nat.pow_mul]
          rw [h32] at hXlt
          refine ⟨rfl, rfl, rfl, List.replicate xs.length 0, 32 * xs.length, 0, rfl, rfl, .inl ⟨rfl, rfl⟩, List.length_replicate .., okL_replicate _, Nat.le_refl _, ?_, ?_⟩
          · rw [Nat.div_eq_of_lt hXlt, Nat.zero_mod]
          · rw [Nat.div_eq_of_lt hXlt, Nat.zero_div, Nat.zero_mul, wth_replicate]
        rintro s ⟨i0, i1, i13, q, I, R, iO, i15, hR, hql, hqk, hI, hRv, hqv⟩
        rcases Nat.eq_zero_or_pos I with rfl | hI0
        · rw [Nat.pow_zero, Nat.div_one] at hRv hqv
          rw [Nat.mul_one] at hqv
          subst hRv
          rcases hR with ⟨i14, hR0⟩ | i14
          · (try (simp only [go_sem, Nat.reduceEqDiff, Nat.reduceAdd, Nat.reduceSub, Nat.reduceMul, Nat.reduceLeDiff, Nat.reduceLT, reduceIte, reduceCtorEq, Nat.succ_ne_zero, elemsC, Int.reduceToNat, Nat.reducePow, i0, i1, i13, iO, i15, i14])); repeat ((first | (simp (disch := (first | omega | (simp only [AL, List.length_map]; omega))) only [AR, AL, ifT, ifF, take_all, List.length_cons, List.length_nil, Int.reduceToNat, Int.reducePow, Nat.reducePow, i0, i1, i13, iO, i15, i14]) | (refine wk_intro (by kernel_rfl) ?_) | (refine vp_draw (l := []) (by kernel_rfl) ?_)); try (simp only [go_sem, Nat.reduceEqDiff, Nat.reduceAdd, Nat.reduceSub, Nat.reduceMul, Nat.reduceLeDiff, Nat.reduceLT, reduceIte, reduceCtorEq, Nat.succ_ne_zero, elemsC, Int.reduceToNat, Nat.reducePow, i0, i1, i13, iO, i15, i14]))
            refine vf_of (fn_natV (ref1_Trim q hqk (by omega)) hql) ?_; (try (simp only [go_sem, Nat.reduceEqDiff, Nat.reduceAdd, Nat.reduceSub, Nat.reduceMul, Nat.reduceLeDiff, Nat.reduceLT, reduceIte, reduceCtorEq, Nat.succ_ne_zero, elemsC, Int.reduceToNat, Nat.reducePow, i0, i1, i13, iO, i15, i14])); repeat ((first | (simp (disch := (first | omega | (simp only [AL, List.length_map]; omega))) only [AR, AL, ifT, ifF, take_all, List.length_cons, List.length_nil, Int.reduceToNat, Int.reducePow, Nat.reducePow, i0, i1, i13, iO, i15, i14]) | (refine wk_intro (by kernel_rfl) ?_) | (refine vp_draw (l := []) (by kernel_rfl) ?_)); try (simp only [go_sem, Nat.reduceEqDiff, Nat.reduceAdd, Nat.reduceSub, Nat.reduceMul, Nat.reduceLeDiff, Nat.reduceLT, reduceIte, reduceCtorEq, Nat.succ_ne_zero, elemsC, Int.reduceToNat, Nat.reducePow, i0, i1, i13, iO, i15, i14]))
            refine vf_of (ref1_Trim [] okL_nil (by simp)) ?_; (try (simp only [go_sem, Nat.reduceEqDiff, Nat.reduceAdd, Nat.reduceSub, Nat.reduceMul, Nat.reduceLeDiff, Nat.reduceLT, reduceIte, reduceCtorEq, Nat.succ_ne_zero, elemsC, Int.reduceToNat, Nat.reducePow, i0, i1, i13, iO, i15, i14])); repeat ((first | (simp (disch := (first | omega | (simp only [AL, List.length_map]; omega))) only [AR, AL, ifT, ifF, take_all, List.length_cons, List.length_nil, Int.reduceToNat, Int.reducePow, Nat.reducePow, i0, i1, i13, iO, i15, i14]) | (refine wk_intro (by kernel_rfl) ?_) | (refine vp_draw (l := []) (by kernel_rfl) ?_)); try (simp only [go_sem, Nat.reduceEqDiff, Nat.reduceAdd, Nat.reduceSub, Nat.reduceMul, Nat.reduceLeDiff, Nat.reduceLT, reduceIte, reduceCtorEq, Nat.succ_ne_zero, elemsC, Int.reduceToNat, Nat.reducePow, i0, i1, i13, iO, i15, i14]))
            rw [hqv, hR0, lim_zero, wth_nil, lim_zero]
            exact ⟨rfl, rfl⟩
          · have hRl : (lim (X % Y)).length ≤ ys.length := by
              have h1 : (lim Y).length ≤ ys.length := by rw [← hY]; exact lim_length_le hy
              have h2 := Nat.mod_lt X h0
              have h3 := trimL_length (okL_lim (X % Y)) (okL_lim Y) (trimL_lim _) (by rw [wth_lim, wth_lim]; omega)
              omega
            (try (simp only [go_sem, Nat.reduceEqDiff, Nat.reduceAdd, Nat.reduceSub, Nat.reduceMul, Nat.reduceLeDiff, Nat.reduceLT, reduceIte, reduceCtorEq, Nat.succ_ne_zero, elemsC, Int.reduceToNat, Nat.reducePow, i0, i1, i13, iO, i15, i14])); repeat ((first | (simp (disch := (first | omega | (simp only [AL, List.length_map]; omega))) only [AR, AL, ifT, ifF, take_all, List.length_cons, List.length_nil, Int.reduceToNat, Int.reducePow, Nat.reducePow, i0, i1, i13, iO, i15, i14]) | (refine wk_intro (by kernel_rfl) ?_) | (refine vp_draw (l := []) (by kernel_rfl) ?_)); try (simp only [go_sem, Nat.reduceEqDiff, Nat.reduceAdd, Nat.reduceSub, Nat.reduceMul, Nat.reduceLeDiff, Nat.reduceLT, reduceIte, reduceCtorEq, Nat.succ_ne_zero, elemsC, Int.reduceToNat, Nat.reducePow, i0, i1, i13, iO, i15, i14]))
            refine vf_of (fn_natV (ref1_Trim q hqk (by omega)) hql) ?_; (try (simp only [go_sem, Nat.reduceEqDiff, Nat.reduceAdd, Nat.reduceSub, Nat.reduceMul, Nat.reduceLeDiff, Nat.reduceLT, reduceIte, reduceCtorEq, Nat.succ_ne_zero, elemsC, Int.reduceToNat, Nat.reducePow, i0, i1, i13, iO, i15, i14])); repeat ((first | (simp (disch := (first | omega | (simp only [AL, List.length_map]; omega))) only [AR, AL, ifT, ifF, take_all, List.length_cons, List.length_nil, Int.reduceToNat, Int.reducePow, Nat.reducePow, i0, i1, i13, iO, i15, i14]) | (refine wk_intro (by kernel_rfl) ?_) | (refine vp_draw (l := []) (by kernel_rfl) ?_)); try (simp only [go_sem, Nat.reduceEqDiff, Nat.reduceAdd, Nat.reduceSub, Nat.reduceMul, Nat.reduceLeDiff, Nat.reduceLT, reduceIte, reduceCtorEq, Nat.succ_ne_zero, elemsC, Int.reduceToNat, Nat.reducePow, i0, i1, i13, iO, i15, i14]))
            refine vf_of (ref1_Trim (lim (X % Y)) (okL_lim _) (by omega)) ?_; (try (simp only [go_sem, Nat.reduceEqDiff, Nat.reduceAdd, Nat.reduceSub, Nat.reduceMul, Nat.reduceLeDiff, Nat.reduceLT, reduceIte, reduceCtorEq, Nat.succ_ne_zero, elemsC, Int.reduceToNat, Nat.reducePow, i0, i1, i13, iO, i15, i14])); repeat ((first | (simp (disch := (first | omega | (simp only [AL, List.length_map]; omega))) only [AR, AL, ifT, ifF, take_all, List.length_cons, List.length_nil, Int.reduceToNat, Int.reducePow, Nat.reducePow, i0, i1, i13, iO, i15, i14]) | (refine wk_intro (by kernel_rfl) ?_) | (refine vp_draw (l := []) (by kernel_rfl) ?_)); try (simp only [go_sem, Nat.reduceEqDiff, Nat.reduceAdd, Nat.reduceSub, Nat.reduceMul, Nat.reduceLeDiff, Nat.reduceLT, reduceIte, reduceCtorEq, Nat.succ_ne_zero, elemsC, Int.reduceToNat, Nat.reducePow, i0, i1, i13, iO, i15, i14]))
            rw [hqv, wth_lim]
            exact ⟨rfl, rfl⟩
        · obtain ⟨J, rfl⟩ : ∃ J, I = J + 1 := ⟨I - 1, by omega⟩
          have h5 : ((J + 1 : Nat) : Int) - 1 = (J : Int) := by omega
          rw [h5] at i15
          have hRY : R < Y := by rw [hRv]; exact Nat.mod_lt _ h0
          have hlY : (lim Y).length ≤ ys.length := by rw [← hY]; exact lim_length_le hy
          have hRl : (lim R).length ≤ (lim Y).length := trimL_length (okL_lim _) (okL_lim _) (trimL_lim _) (by rw [wth_lim, wth_lim]; omega)
          have hS := ref1_shift_up (lim R) 1 (okL_lim R) (by omega) 1 rfl (by omega)
          rw [wth_lim, Nat.pow_one] at hS
          have hlen : ∀ z, z ≤ R * 2 + 1 → (lim z).length ≤ ys.length + 1 := by
            intro z hz
            have h1 := trimL_length (xs := lim z) (ys := 0 :: lim Y) (okL_lim _) (okL_cons.2 ⟨by omega, okL_lim _⟩) (trimL_lim _) (by rw [wth_cons, wth_lim, wth_lim]; omega)
            rw [List.length_cons] at h1
            omega
          have hw : J / 32 < xs.length := by omega
          have hbg := bit_get xs hx J hw
          have hbs := bit_set q hqk J (X / 2 ^ (J + 1) / Y) (by omega) hqv
          rw [hX] at hbg
          obtain ⟨hst1, hst2⟩ := bit_step h0 hRv rfl
          have hb2 : X / 2 ^ J % 2 < 2 := Nat.mod_lt _ (by omega)
          have hx1 := getD_lt hx (J / 32)
          have hq1 := getD_lt hqk (J / 32)
          have hj : J % 32 < 32 := Nat.mod_lt _ (by omega)
          generalize hB : X / 2 ^ J % 2 = B at *
          generalize hxw : xs.getD (J / 32) 0 = x at *
          have hxj : x / 2 ^ (J % 32) < 4294967296 := Nat.lt_of_le_of_lt (Nat.div_le_self _ _) hx1
          have hand : bitsSV .and .u32 ((x / 2 ^ (J % 32) : Nat) : Int) 1 = some (.int .u32 (B : Int)) := by
            have := b_and32 (a := x / 2 ^ (J % 32)) (b := 1) hxj (by omega)
            rw [and_one, hbg] at this
            exact this
          have hmin : min (J % 32) 32 = J % 32 := Nat.min_eq_left (by omega)
          clear hbg hRv hI0
          rcases hR with ⟨i14, hR0⟩ | i14
          all_goals (first | (have hR1 : lim R = [] := by rw [hR0, lim_zero]); rw [hR1] at hS | skip)
          all_goals
            (try (simp only [go_sem, Nat.reduceEqDiff, Nat.reduceAdd, Nat.reduceSub, Nat.reduceMul, Nat.reduceLeDiff, Nat.reduceLT, reduceIte, reduceCtorEq, Nat.succ_ne_zero, elemsC, Int.reduceToNat, Nat.reducePow, i0, i1, i13, iO, i15, i14])); repeat ((first | (simp (disch := (first | omega | (simp only [AL, List.length_map]; omega))) only [AR, AL, ifT, ifF, take_all, List.length_cons, List.length_nil, Int.reduceToNat, Int.reducePow, Nat.reducePow, i0, i1, i13, iO, i15, i14]) | (refine wk_intro (by kernel_rfl) ?_) | (refine vp_draw (l := []) (by kernel_rfl) ?_)); try (simp only [go_sem, Nat.reduceEqDiff, Nat.reduceAdd, Nat.reduceSub, Nat.reduceMul, Nat.reduceLeDiff, Nat.reduceLT, reduceIte, reduceCtorEq, Nat.succ_ne_zero, elemsC, Int.reduceToNat, Nat.reducePow, i0, i1, i13, iO, i15, i14]))
            refine vf_of (hS) ?_; (try (simp only [go_sem, Nat.reduceEqDiff, Nat.reduceAdd, Nat.reduceSub, Nat.reduceMul, Nat.reduceLeDiff, Nat.reduceLT, reduceIte, reduceCtorEq, Nat.succ_ne_zero, elemsC, Int.reduceToNat, Nat.reducePow, i0, i1, i13, iO, i15, i14, tdiv32, tmod32, hxw, hmin, hand])); repeat ((first | (simp (disch := (first | omega | (simp only [AL, List.length_map]; omega))) only [AR, AL, ifT, ifF, take_all, List.length_cons, List.length_nil, Int.reduceToNat, Int.reducePow, Nat.reducePow, i0, i1, i13, iO, i15, i14, tdiv32, tmod32, hxw, hmin, hand]) | (refine wk_intro (by kernel_rfl) ?_) | (refine vp_draw (l := []) (by kernel_rfl) ?_)); try (simp only [go_sem, Nat.reduceEqDiff, Nat.reduceAdd, Nat.reduceSub, Nat.reduceMul, Nat.reduceLeDiff, Nat.reduceLT, reduceIte, reduceCtorEq, Nat.succ_ne_zero, elemsC, Int.reduceToNat, Nat.reducePow, i0, i1, i13, iO, i15, i14, tdiv32, tmod32, hxw, hmin, hand]))
            refine vc_cut (Mid := fun s' => s'.tmp 0 = .sv (natV xs) ∧ s'.tmp 1 = .sv (natV ys) ∧ s'.tmp 13 = .ref 58 0 1 0 xs.length ∧ s'.obj 58 0 = some (q.map limb) ∧ s'.tmp 15 = .sv (.int .i64 (J : Int)) ∧ s'.tmp 14 = .sv (natV (lim (R * 2 + B)))) ?_ ?_
            · have hB01 : B = 0 ∨ B = 1 := by omega
              rcases hB01 with hB0 | hB1
              · have hbq : ((B : Int) == 1) = false := beqF (by omega)
                (try (simp only [go_sem, Nat.reduceEqDiff, Nat.reduceAdd, Nat.reduceSub, Nat.reduceMul, Nat.reduceLeDiff, Nat.reduceLT, reduceIte, reduceCtorEq, Nat.succ_ne_zero, elemsC, Int.reduceToNat, Nat.reducePow, i0, i1, i13, iO, i15, i14, hbq])); repeat ((first | (simp (disch := (first | omega | (simp only [AL, List.length_map]; omega))) only [AR, AL, ifT, ifF, take_all, List.length_cons, List.length_nil, Int.reduceToNat, Int.reducePow, Nat.reducePow, i0, i1, i13, iO, i15, i14, hbq]) | (refine wk_intro (by kernel_rfl) ?_) | (refine vp_draw (l := []) (by kernel_rfl) ?_)); try (simp only [go_sem, Nat.reduceEqDiff, Nat.reduceAdd, Nat.reduceSub, Nat.reduceMul, Nat.reduceLeDiff, Nat.reduceLT, reduceIte, reduceCtorEq, Nat.succ_ne_zero, elemsC, Int.reduceToNat, Nat.reducePow, i0, i1, i13, iO, i15, i14, hbq]))
                rw [hB0, Nat.add_zero]
              · have hbq : ((B : Int) == 1) = true := beqT (by omega)
                have hA := ref1_Add (lim (R * 2)) [1] (okL_lim _) (by simp [okL]) (by have := hlen (R * 2) (by omega); omega) (by simp)
                rw [wth_lim, show wth [1] = B by rw [hB1]; rfl] at hA
                (try (simp only [go_sem, Nat.reduceEqDiff, Nat.reduceAdd, Nat.reduceSub, Nat.reduceMul, Nat.reduceLeDiff, Nat.reduceLT, reduceIte, reduceCtorEq, Nat.succ_ne_zero, elemsC, Int.reduceToNat, Nat.reducePow, i0, i1, i13, iO, i15, i14, hbq])); repeat ((first | (simp (disch := (first | omega | (simp only [AL, List.length_map]; omega))) only [AR, AL, ifT, ifF, take_all, List.length_cons, List.length_nil, Int.reduceToNat, Int.reducePow, Nat.reducePow, i0, i1, i13, iO, i15, i14, hbq]) | (refine wk_intro (by kernel_rfl) ?_) | (refine vp_draw (l := []) (by kernel_rfl) ?_)); try (simp only [go_sem, Nat.reduceEqDiff, Nat.reduceAdd, Nat.reduceSub, Nat.reduceMul, Nat.reduceLeDiff, Nat.reduceLT, reduceIte, reduceCtorEq, Nat.succ_ne_zero, elemsC, Int.reduceToNat, Nat.reducePow, i0, i1, i13, iO, i15, i14, hbq]))
                refine vf_of (hA) ?_; (try (simp only [go_sem, Nat.reduceEqDiff, Nat.reduceAdd, Nat.reduceSub, Nat.reduceMul, Nat.reduceLeDiff, Nat.reduceLT, reduceIte, reduceCtorEq, Nat.succ_ne_zero, elemsC, Int.reduceToNat, Nat.reducePow, i0, i1, i13, iO, i15, i14, hbq])); repeat ((first | (simp (disch := (first | omega | (simp only [AL, List.length_map]; omega))) only [AR, AL, ifT, ifF, take_all, List.length_cons, List.length_nil, Int.reduceToNat, Int.reducePow, Nat.reducePow, i0, i1, i13, iO, i15, i14, hbq]) | (refine wk_intro (by kernel_rfl) ?_) | (refine vp_draw (l := []) (by kernel_rfl) ?_)); try (simp only [go_sem, Nat.reduceEqDiff, Nat.reduceAdd, Nat.reduceSub, Nat.reduceMul, Nat.reduceLeDiff, Nat.reduceLT, reduceIte, reduceCtorEq, Nat.succ_ne_zero, elemsC, Int.reduceToNat, Nat.reducePow, i0, i1, i13, iO, i15, i14, hbq]))
            rintro s' ⟨j0, j1, j13, jO, j15, j14⟩
            have hrl := hlen (R * 2 + B) (by omega)
            have hC := ref1_Cmp (lim (R * 2 + B)) ys (okL_lim _) hy (by omega) (by omega)
            have hSb := ref1_Sub (lim (R * 2 + B)) ys (okL_lim _) hy (by omega) (by omega)
            rw [wth_lim, hY] at hC hSb
            clear hlen hrl hS hand
            by_cases hYR : Y ≤ R * 2 + B
            · have hc : decide (cmpN (R * 2 + B) Y ≥ 0) = true := by
                have := cmpN_ge hYR
                rw [decide_eq_false_iff_not] at this
                exact decide_eq_true (by omega)
              rw [if_pos hYR] at hst1 hst2
              obtain ⟨hb1, hb3, hb4⟩ := hbs
              have hp2 : 2 ^ (J % 32) < 4294967296 := show 2 ^ (J % 32) < 2 ^ 32 from Nat.pow_lt_pow_right (by omega) hj
              have hsh : IntKind.u32.wrap (1 * ((2 ^ (J % 32) : Nat) : Int)) = ((2 ^ (J % 32) : Nat) : Int) := by rw [Int.one_mul, u32_nat, Nat.mod_eq_of_lt hp2]
              first | (exfalso; omega) | skip
              all_goals
                (try (simp only [go_sem, Nat.reduceEqDiff, Nat.reduceAdd, Nat.reduceSub, Nat.reduceMul, Nat.reduceLeDiff, Nat.reduceLT, reduceIte, reduceCtorEq, Nat.succ_ne_zero, elemsC, Int.reduceToNat, Nat.reducePow, j0, j1, j13, jO, j15, j14])); repeat ((first | (simp (disch := (first | omega | (simp only [AL, List.length_map]; omega))) only [AR, AL, ifT, ifF, take_all, List.length_cons, List.length_nil, Int.reduceToNat, Int.reducePow, Nat.reducePow, j0, j1, j13, jO, j15, j14]) | (refine wk_intro (by kernel_rfl) ?_) | (refine vp_draw (l := []) (by kernel_rfl) ?_)); try (simp only [go_sem, Nat.reduceEqDiff, Nat.reduceAdd, Nat.reduceSub, Nat.reduceMul, Nat.reduceLeDiff, Nat.reduceLT, reduceIte, reduceCtorEq, Nat.succ_ne_zero, elemsC, Int.reduceToNat, Nat.reducePow, j0, j1, j13, jO, j15, j14]))
                refine vf_of (hC) ?_; (try (simp only [go_sem, Nat.reduceEqDiff, Nat.reduceAdd, Nat.reduceSub, Nat.reduceMul, Nat.reduceLeDiff, Nat.reduceLT, reduceIte, reduceCtorEq, Nat.succ_ne_zero, elemsC, Int.reduceToNat, Nat.reducePow, j0, j1, j13, jO, j15, j14, hc])); repeat ((first | (simp (disch := (first | omega | (simp only [AL, List.length_map]; omega))) only [AR, AL, ifT, ifF, take_all, List.length_cons, List.length_nil, Int.reduceToNat, Int.reducePow, Nat.reducePow, j0, j1, j13, jO, j15, j14, hc]) | (refine wk_intro (by kernel_rfl) ?_) | (refine vp_draw (l := []) (by kernel_rfl) ?_)); try (simp only [go_sem, Nat.reduceEqDiff, Nat.reduceAdd, Nat.reduceSub, Nat.reduceMul, Nat.reduceLeDiff, Nat.reduceLT, reduceIte, reduceCtorEq, Nat.succ_ne_zero, elemsC, Int.reduceToNat, Nat.reducePow, j0, j1, j13, jO, j15, j14, hc]))
                refine vf_of (hSb) ?_; (try (simp only [go_sem, Nat.reduceEqDiff, Nat.reduceAdd, Nat.reduceSub, Nat.reduceMul, Nat.reduceLeDiff, Nat.reduceLT, reduceIte, reduceCtorEq, Nat.succ_ne_zero, elemsC, Int.reduceToNat, Nat.reducePow, j0, j1, j13, jO, j15, j14, tdiv32, tmod32, hmin, hsh, hb1])); repeat ((first | (simp (disch := (first | omega | (simp only [AL, List.length_map]; omega))) only [AR, AL, ifT, ifF, take_all, List.length_cons, List.length_nil, Int.reduceToNat, Int.reducePow, Nat.reducePow, j0, j1, j13, jO, j15, j14, tdiv32, tmod32, hmin, hsh, hb1]) | (refine wk_intro (by kernel_rfl) ?_) | (refine vp_draw (l := []) (by kernel_rfl) ?_)); try (simp only [go_sem, Nat.reduceEqDiff, Nat.reduceAdd, Nat.reduceSub, Nat.reduceMul, Nat.reduceLeDiff, Nat.reduceLT, reduceIte, reduceCtorEq, Nat.succ_ne_zero, elemsC, Int.reduceToNat, Nat.reducePow, j0, j1, j13, jO, j15, j14, tdiv32, tmod32, hmin, hsh, hb1]))
                refine ⟨⟨q.set (J / 32) (q.getD (J / 32) 0 + 2 ^ (J % 32)), J, R * 2 + B - Y, rfl, rfl, .inr rfl, by rw [List.length_set]; exact hql, okL_set hqk _ _ hb3, by omega, hst1.symm, ?_⟩, by omega⟩
                rw [hb4, hst2]
            · have hc : decide (cmpN (R * 2 + B) Y ≥ 0) = false := by
                rw [cmpN_lt (by omega)]; rfl
              rw [if_neg hYR] at hst1 hst2
              (try (simp only [go_sem, Nat.reduceEqDiff, Nat.reduceAdd, Nat.reduceSub, Nat.reduceMul, Nat.reduceLeDiff, Nat.reduceLT, reduceIte, reduceCtorEq, Nat.succ_ne_zero, elemsC, Int.reduceToNat, Nat.reducePow, j0, j1, j13, jO, j15, j14])); repeat ((first | (simp (disch := (first | omega | (simp only [AL, List.length_map]; omega))) only [AR, AL, ifT, ifF, take_all, List.length_cons, List.length_nil, Int.reduceToNat, Int.reducePow, Nat.reducePow, j0, j1, j13, jO, j15, j14]) | (refine wk_intro (by kernel_rfl) ?_) | (refine vp_draw (l := []) (by kernel_rfl) ?_)); try (simp only [go_sem, Nat.reduceEqDiff, Nat.reduceAdd, Nat.reduceSub, Nat.reduceMul, Nat.reduceLeDiff, Nat.reduceLT, reduceIte, reduceCtorEq, Nat.succ_ne_zero, elemsC, Int.reduceToNat, Nat.reducePow, j0, j1, j13, jO, j15, j14]))
              refine vf_of (hC) ?_; (try (simp only [go_sem, Nat.reduceEqDiff, Nat.reduceAdd, Nat.reduceSub, Nat.reduceMul, Nat.reduceLeDiff, Nat.reduceLT, reduceIte, reduceCtorEq, Nat.succ_ne_zero, elemsC, Int.reduceToNat, Nat.reducePow, j0, j1, j13, jO, j15, j14, hc])); repeat ((first | (simp (disch := (first | omega | (simp only [AL, List.length_map]; omega))) only [AR, AL, ifT, ifF, take_all, List.length_cons, List.length_nil, Int.reduceToNat, Int.reducePow, Nat.reducePow, j0, j1, j13, jO, j15, j14, hc]) | (refine wk_intro (by kernel_rfl) ?_) | (refine vp_draw (l := []) (by kernel_rfl) ?_)); try (simp only [go_sem, Nat.reduceEqDiff, Nat.reduceAdd, Nat.reduceSub, Nat.reduceMul, Nat.reduceLeDiff, Nat.reduceLT, reduceIte, reduceCtorEq, Nat.succ_ne_zero, elemsC, Int.reduceToNat, Nat.reducePow, j0, j1, j13, jO, j15, j14, hc]))
              refine ⟨⟨q, J, R * 2 + B, rfl, rfl, .inr rfl, hql, hqk, by omega, hst1.symm, ?_⟩, by omega⟩
              rw [hqv, hst2]
              show X / 2 ^ (J + 1) / Y * 2 ^ (J + 1) = 2 * (X / 2 ^ (J + 1) / Y) * 2 ^ J
              generalize X / 2 ^ (J + 1) / Y = Qv
              rw [Nat.pow_succ', ← Nat.mul_assoc, Nat.mul_comm Qv]
theorem ref1_Gcd (xs ys : List Nat) (hx : okL xs) (hy : okL ys) (hl : xs.length ≤ 16777216) (hm : ys.length ≤ 16777216) :
    Go.Ev.Fn CX 70 [natV xs, natV ys] (natV (lim (Nat.gcd (wth xs) (wth ys)))) := by
  refine Go.Ev.Fn.intro (fn := Tryz.f70) (body := (Tryz.f70).body.get!) (by kernel_rfl) (by kernel_rfl) (by kernel_rfl) (fun _ => rfl) (Nat.le_of_ble_eq_true (by kernel_rfl)) ?_; unfold Tryz.f70; simp only [Option.get!_some]
  have lx := lim_length_le hx
  have ly := lim_length_le hy
  (try (simp only [go_sem, Nat.reduceEqDiff, Nat.reduceAdd, Nat.reduceSub, Nat.reduceMul, Nat.reduceLeDiff, Nat.reduceLT, reduceIte, reduceCtorEq, Nat.succ_ne_zero, elemsC, Int.reduceToNat, Nat.reducePow])); repeat ((first | (simp (disch := (first | omega | (simp only [AL, List.length_map]; omega))) only [AR, AL, ifT, ifF, take_all, List.length_cons, List.length_nil, Int.reduceToNat, Int.reducePow, Nat.reducePow]) | (refine wk_intro (by kernel_rfl) ?_) | (refine vp_draw (l := []) (by kernel_rfl) ?_)); try (simp only [go_sem, Nat.reduceEqDiff, Nat.reduceAdd, Nat.reduceSub, Nat.reduceMul, Nat.reduceLeDiff, Nat.reduceLT, reduceIte, reduceCtorEq, Nat.succ_ne_zero, elemsC, Int.reduceToNat, Nat.reducePow]))
  refine vf_of (ref1_Trim xs hx (by omega)) ?_; (try (simp only [go_sem, Nat.reduceEqDiff, Nat.reduceAdd, Nat.reduceSub, Nat.reduceMul, Nat.reduceLeDiff, Nat.reduceLT, reduceIte, reduceCtorEq, Nat.succ_ne_zero, elemsC, Int.reduceToNat, Nat.reducePow])); repeat ((first | (simp (disch := (first | omega | (simp only [AL, List.length_map]; omega))) only [AR, AL, ifT, ifF, take_all, List.length_cons, List.length_nil, Int.reduceToNat, Int.reducePow, Nat.reducePow]) | (refine wk_intro (by kernel_rfl) ?_) | (refine vp_draw (l := []) (by kernel_rfl) ?_)); try (simp only [go_sem, Nat.reduceEqDiff, Nat.reduceAdd, Nat.reduceSub, Nat.reduceMul, Nat.reduceLeDiff, Nat.reduceLT, reduceIte, reduceCtorEq, Nat.succ_ne_zero, elemsC, Int.reduceToNat, Nat.reducePow]))
  refine vf_of (ref1_Trim ys hy (by omega)) ?_; (try (simp only [go_sem, Nat.reduceEqDiff, Nat.reduceAdd, Nat.reduceSub, Nat.reduceMul, Nat.reduceLeDiff, Nat.reduceLT, reduceIte, reduceCtorEq, Nat.succ_ne_zero, elemsC, Int.reduceToNat, Nat.reducePow])); repeat ((first | (simp (disch := (first | omega | (simp only [AL, List.length_map]; omega))) only [AR, AL, ifT, ifF, take_all, List.length_cons, List.length_nil, Int.reduceToNat, Int.reducePow, Nat.reducePow]) | (refine wk_intro (by kernel_rfl) ?_) | (refine vp_draw (l := []) (by kernel_rfl) ?_)); try (simp only [go_sem, Nat.reduceEqDiff, Nat.reduceAdd, Nat.reduceSub, Nat.reduceMul, Nat.reduceLeDiff, Nat.reduceLT, reduceIte, reduceCtorEq, Nat.succ_ne_zero, elemsC, Int.reduceToNat, Nat.reducePow]))
  refine vp_loop_inv (fun s => ∃ a b : Nat, s.tmp 5 = .sv (natV (lim a)) ∧ s.tmp 6 = .sv (natV (lim b)) ∧ (lim a).length ≤ 16777216 ∧ (lim b).length ≤ 16777216 ∧ Nat.gcd a b = Nat.gcd (wth xs) (wth ys))
    (fun s => match s.tmp 6 with | .sv (.sl _ cs) => (match decL cs with | some l => wth l | none => 0) | _ => 0) ⟨_, _, rfl, rfl, by omega, by omega, rfl⟩ ?_
  rintro s ⟨a, b, i0, i1, la, lb, hg⟩
  by_cases hb : b = 0
  · subst hb
    rw [lim_zero] at i1
    rw [← hg, Nat.gcd_zero_right]
    (try (simp only [go_sem, Nat.reduceEqDiff, Nat.reduceAdd, Nat.reduceSub, Nat.reduceMul, Nat.reduceLeDiff, Nat.reduceLT, reduceIte, reduceCtorEq, Nat.succ_ne_zero, elemsC, Int.reduceToNat, Nat.reducePow, i0, i1])); repeat ((first | (simp (disch := (first | omega | (simp only [AL, List.length_map]; omega))) only [AR, AL, ifT, ifF, take_all, List.length_cons, List.length_nil, Int.reduceToNat, Int.reducePow, Nat.reducePow, i0, i1]) | (refine wk_intro (by kernel_rfl) ?_) | (refine vp_draw (l := []) (by kernel_rfl) ?_)); try (simp only [go_sem, Nat.reduceEqDiff, Nat.reduceAdd, Nat.reduceSub, Nat.reduceMul, Nat.reduceLeDiff, Nat.reduceLT, reduceIte, reduceCtorEq, Nat.succ_ne_zero, elemsC, Int.reduceToNat, Nat.reducePow, i0, i1]))
  · have h1 : 0 < (lim b).length := List.length_pos_iff.2 (fun h => hb (lim_eq_nil.1 h))
    (try (simp only [go_sem, Nat.reduceEqDiff, Nat.reduceAdd, Nat.reduceSub, Nat.reduceMul, Nat.reduceLeDiff, Nat.reduceLT, reduceIte, reduceCtorEq, Nat.succ_ne_zero, elemsC, Int.reduceToNat, Nat.reducePow, i0, i1])); repeat ((first | (simp (disch := (first | omega | (simp only [AL, List.length_map]; omega))) only [AR, AL, ifT, ifF, take_all, List.length_cons, List.length_nil, Int.reduceToNat, Int.reducePow, Nat.reducePow, i0, i1]) | (refine wk_intro (by kernel_rfl) ?_) | (refine vp_draw (l := []) (by kernel_rfl) ?_)); try (simp only [go_sem, Nat.reduceEqDiff, Nat.reduceAdd, Nat.reduceSub, Nat.reduceMul, Nat.reduceLeDiff, Nat.reduceLT, reduceIte, reduceCtorEq, Nat.succ_ne_zero, elemsC, Int.reduceToNat, Nat.reducePow, i0, i1]))
    refine vf_of (ref1_DivMod (lim a) (lim b) (okL_lim a) (okL_lim b) la lb) ?_; (try (simp only [go_sem, Nat.reduceEqDiff, Nat.reduceAdd, Nat.reduceSub, Nat.reduceMul, Nat.reduceLeDiff, Nat.reduceLT, reduceIte, reduceCtorEq, Nat.succ_ne_zero, elemsC, Int.reduceToNat, Nat.reducePow, i0, i1])); repeat ((first | (simp (disch := (first | omega | (simp only [AL, List.length_map]; omega))) only [AR, AL, ifT, ifF, take_all, List.length_cons, List.length_nil, Int.reduceToNat, Int.reducePow, Nat.reducePow, i0, i1]) | (refine wk_intro (by kernel_rfl) ?_) | (refine vp_draw (l := []) (by kernel_rfl) ?_)); try (simp only [go_sem, Nat.reduceEqDiff, Nat.reduceAdd, Nat.reduceSub, Nat.reduceMul, Nat.reduceLeDiff, Nat.reduceLT, reduceIte, reduceCtorEq, Nat.succ_ne_zero, elemsC, Int.reduceToNat, Nat.reducePow, i0, i1]))
    have e1 : remN (wth (lim a)) (wth (lim b)) = a % b := by rw [wth_lim, wth_lim]; exact if_neg hb
    rw [e1, decL_map (okL_lim _), decL_map (okL_lim _)]
    dsimp only
    rw [wth_lim, wth_lim]
    have h2 : a % b < b := Nat.mod_lt _ (by omega)
    have h3 := trimL_length (okL_lim (a % b)) (okL_lim b) (trimL_lim _) (by rw [wth_lim, wth_lim]; omega)
    refine ⟨⟨b, a % b, rfl, rfl, lb, by omega, ?_⟩, h2⟩
    rw [← hg, Nat.gcd_comm b, ← Nat.gcd_rec, Nat.gcd_comm]
end Go.Proofs.YtdnmhnjblgkjaaaGreat
