/- Part 9 of the proof: the evaluator, contracts of functions and their plain laws (joined by program). No condition. -/
import Derived.Test.YthbjgdmcnonofaaGreatPart8
/- vernierref1.Bits; vernierref4.root, Sqrt, in the evaluator. -/
namespace Go.Proofs.YthbjgdmcnonofaaGreat
set_option linter.unusedSimpArgs false
set_option linter.unusedVariables false
set_option maxRecDepth 8000
open Go.Ev
theorem blen_half {x : Nat} (h : x ≠ 0) : blen x = blen (x / 2) + 1 := by
  have h1 := blen_iff (x := x) (k := blen x)
  have h2 := blen_iff (x := x / 2) (k := blen (x / 2))
  have h3 := blen_iff (x := x) (k := blen (x / 2) + 1)
  have h4 := blen_iff (x := x / 2) (k := blen x - 1)
  have h5 : blen x ≠ 0 := fun e => by rw [e] at h1; simp at h1; omega
  have h6 : x < 2 ^ blen x := h1.1 (Nat.le_refl _)
  have h7 : x / 2 < 2 ^ blen (x / 2) := h2.1 (Nat.le_refl _)
  rw [Nat.pow_succ] at h3
  have h8 : 2 ^ blen x = 2 ^ (blen x - 1) * 2 := by rw [← Nat.pow_succ, Nat.succ_eq_add_one, show blen x - 1 + 1 = blen x by omega]
  have h9 := h3.2 (by omega)
  have h10 := h4.2 (by omega)
  omega
theorem ref1_Bits {N : Nat} (h : (lim N).length ≤ 1000000) : Go.Ev.Fn CX 201 [natV (lim N)] (.int .i64 (blen N : Nat)) := by
  have t := ref1_Trim (lim N) (okL_lim N) (by omega)
  rw [wth_lim] at t
  by_cases h0 : N = 0
  · subst h0
    have e : (lim 0).length = 0 := by rw [lim_zero]; rfl
    have e2 : blen 0 = 0 := rfl
    rw [e2]
    refine Go.Ev.Fn.intro (fn := Tryz.f201) (body := (Tryz.f201).body.get!) (by kernel_rfl) (by kernel_rfl) (by kernel_rfl) (fun _ => rfl) (Nat.le_of_ble_eq_true (by kernel_rfl)) ?_; unfold Tryz.f201; simp only [Option.get!_some]
    repeat (first | (simp only [go_sem, Nat.reduceEqDiff, Nat.reduceAdd, Nat.reduceSub, Nat.reduceMul, Nat.reduceLeDiff, Nat.reduceLT, reduceIte, reduceCtorEq, Nat.succ_ne_zero, elemsC, Int.reduceToNat, Nat.reducePow]) | (simp (disch := (first | omega | (simp only [AL, List.length_map]; omega))) only [AR, AL, ifT, ifF, take_all, List.length_cons, List.length_nil, Int.reduceToNat, Int.reducePow, Nat.reducePow]) | (refine wk_intro (by kernel_rfl) ?_) | (refine vf_of (by first | exact t) ?_))
    rfl
  · have e := blen_lims N h0
    have hl := lim_pos h0
    have hg := getD_lt (okL_lim N) ((lim N).length - 1)
    have hb : blen ((lim N).getD ((lim N).length - 1) 0) ≤ 32 := blen_iff.2 hg
    rw [e]
    generalize hgx : (lim N).getD ((lim N).length - 1) 0 = x at *
    generalize hcs : lim N = cs at *
    refine Go.Ev.Fn.intro (fn := Tryz.f201) (body := (Tryz.f201).body.get!) (by kernel_rfl) (by kernel_rfl) (by kernel_rfl) (fun _ => rfl) (Nat.le_of_ble_eq_true (by kernel_rfl)) ?_; unfold Tryz.f201; simp only [Option.get!_some]
    repeat (first | (simp only [go_sem, Nat.reduceEqDiff, Nat.reduceAdd, Nat.reduceSub, Nat.reduceMul, Nat.reduceLeDiff, Nat.reduceLT, reduceIte, reduceCtorEq, Nat.succ_ne_zero, elemsC, Int.reduceToNat, Nat.reducePow, hgx]) | (simp (disch := (first | omega | (simp only [AL, List.length_map]; omega))) only [AR, AL, ifT, ifF, take_all, List.length_cons, List.length_nil, Int.reduceToNat, Int.reducePow, Nat.reducePow, hgx]) | (refine wk_intro (by kernel_rfl) ?_) | (refine vf_of (by first | exact t) ?_))
    refine vp_loop_inv (fun s => ∃ y : Nat, y < 4294967296 ∧ blen y ≤ 32 ∧ s.tmp 5 = .sv (.int .u32 (y : Int)) ∧ blen y ≤ blen x ∧ s.tmp 4 = .sv (.int .i64 ((32 * (cs.length - 1) + (blen x - blen y) : Nat) : Int)))
      (fun s => match s.tmp 5 with | .sv (.int _ i) => i.toNat | _ => 0) ⟨x, hg, hb, rfl, Nat.le_refl _, by rw [Nat.sub_self, Nat.add_zero]; first | rfl | (congr 2; omega)⟩ ?_
    rintro s ⟨y, g1, g2, i5, g3, i4⟩
    by_cases hy : y = 0
    · subst hy
      rw [show blen 0 = 0 from rfl, Nat.sub_zero] at i4
      repeat (first | (simp only [go_sem, Nat.reduceEqDiff, Nat.reduceAdd, Nat.reduceSub, Nat.reduceMul, Nat.reduceLeDiff, Nat.reduceLT, reduceIte, reduceCtorEq, Nat.succ_ne_zero, elemsC, Int.reduceToNat, Nat.reducePow, i5, i4]) | (simp (disch := (first | omega | (simp only [AL, List.length_map]; omega))) only [AR, AL, ifT, ifF, take_all, List.length_cons, List.length_nil, Int.reduceToNat, Int.reducePow, Nat.reducePow, i5, i4]) | (refine wk_intro (by kernel_rfl) ?_))
    · have e2 := blen_half hy
      repeat (first | (simp only [go_sem, Nat.reduceEqDiff, Nat.reduceAdd, Nat.reduceSub, Nat.reduceMul, Nat.reduceLeDiff, Nat.reduceLT, reduceIte, reduceCtorEq, Nat.succ_ne_zero, elemsC, Int.reduceToNat, Nat.reducePow, i5, i4]) | (simp (disch := (first | omega | (simp only [AL, List.length_map]; omega))) only [AR, AL, ifT, ifF, take_all, List.length_cons, List.length_nil, Int.reduceToNat, Int.reducePow, Nat.reducePow, i5, i4]) | (refine wk_intro (by kernel_rfl) ?_))
      exact ⟨⟨y / 2, by omega, by omega, by first | rfl | (congr 2; omega), by omega, by first | rfl | (congr 2; omega)⟩, by omega⟩
/-- There is a root, rounded down. -/
theorem sqrt_ex (a : Nat) : ∃ r, r * r ≤ a ∧ a < (r + 1) * (r + 1) := by
  induction a with
  | zero => exact ⟨0, by omega, by omega⟩
  | succ a ih =>
    obtain ⟨r, h1, h2⟩ := ih
    by_cases h : (r + 1) * (r + 1) ≤ a + 1
    · refine ⟨r + 1, h, ?_⟩
      have : (r + 1 + 1) * (r + 1 + 1) = (r + 1) * (r + 1) + (r + 1) + (r + 2) := by
        rw [Nat.add_mul, Nat.mul_add]; omega
      omega
    · exact ⟨r, by omega, by omega⟩
noncomputable def rtN (a : Nat) : Nat := (sqrt_ex a).choose
theorem rtN_le (a : Nat) : rtN a * rtN a ≤ a := (sqrt_ex a).choose_spec.1
theorem lt_rtN (a : Nat) : a < (rtN a + 1) * (rtN a + 1) := (sqrt_ex a).choose_spec.2
theorem rtN_eq {a r : Nat} (h1 : r * r ≤ a) (h2 : a < (r + 1) * (r + 1)) : r = rtN a := by
  have h3 := rtN_le a
  have h4 := lt_rtN a
  rcases Nat.lt_trichotomy r (rtN a) with h | h | h
  · have := Nat.mul_le_mul (show r + 1 ≤ rtN a from h) (show r + 1 ≤ rtN a from h)
    omega
  · exact h
  · have := Nat.mul_le_mul (show rtN a + 1 ≤ r from h) (show rtN a + 1 ≤ r from h)
    omega
theorem rtN_self (a : Nat) : rtN a ≤ a := by
  have := rtN_le a
  rcases Nat.eq_zero_or_pos (rtN a) with h | h
  · omega
  · have := Nat.le_mul_of_pos_left (rtN a) h
    omega
theorem ref4_root {a : Nat} (h : (lim a).length ≤ 100) : Go.Ev.Fn CX 160 [natV (lim a)] (natV (lim (rtN a))) := by
  have b := ref1_Bits (N := a) (by omega)
  have hb : a < 2 ^ blen a := blen_iff.1 (Nat.le_refl _)
  have hB : blen a ≤ 3200 := by
    obtain ⟨K, hK⟩ : ∃ K : Nat, K = 3200 := ⟨_, rfl⟩
    rw [← hK]
    refine blen_iff.2 (Nat.lt_of_lt_of_le lim_len_pow ?_)
    rw [show (4294967296 : Nat) = 2 ^ 32 from rfl, ← Nat.pow_mul]
    exact Nat.pow_le_pow_right (by omega) (by omega)
  generalize hBB : blen a = B at *
  have hK : a < 2 ^ ((B + 1) / 2) * 2 ^ ((B + 1) / 2) := by
    rw [← Nat.pow_add]
    exact Nat.lt_of_lt_of_le hb (Nat.pow_le_pow_right (by omega) (by omega))
  have tq : ((B : Int) + 1).tdiv 2 = (((B + 1) / 2 : Nat) : Int) := _root_.id rfl
  have tq2 : ((B + 1 : Nat) : Int).tdiv 2 = (((B + 1) / 2 : Nat) : Int) := _root_.id rfl
  refine Go.Ev.Fn.intro (fn := Tryz.f160) (body := (Tryz.f160).body.get!) (by kernel_rfl) (by kernel_rfl) (by kernel_rfl) (fun _ => rfl) (Nat.le_of_ble_eq_true (by kernel_rfl)) ?_; unfold Tryz.f160; simp only [Option.get!_some]
  repeat (first | (simp only [go_sem, Nat.reduceEqDiff, Nat.reduceAdd, Nat.reduceSub, Nat.reduceMul, Nat.reduceLeDiff, Nat.reduceLT, reduceIte, reduceCtorEq, Nat.succ_ne_zero, elemsC, Int.reduceToNat, Nat.reducePow, tq, tq2]) | (simp (disch := (first | omega | (simp only [AL, List.length_map]; omega))) only [AR, AL, ifT, ifF, take_all, List.length_cons, List.length_nil, Int.reduceToNat, Int.reducePow, Nat.reducePow, tq, tq2]) | (refine wk_intro (by kernel_rfl) ?_) | (refine vf_of (by first | exact b) ?_))
  refine vp_loop_inv (fun s => s.tmp 0 = .sv (natV (lim a)) ∧ ∃ k r : Nat, k ≤ 1602 ∧ s.tmp 4 = .sv (.int .i64 ((k : Int) - 1)) ∧ (s.tmp 3 = .sv (natV (lim r)) ∨ r = 0 ∧ s.tmp 3 = .nil) ∧ r * r ≤ a ∧ a < (r + 2 ^ k) * (r + 2 ^ k))
    (fun s => match s.tmp 4 with | .sv (.int _ i) => (i + 1).toNat | _ => 0) ?_ ?_
  · refine ⟨rfl, (B + 1) / 2 + 1, 0, by omega, by rw [show ((((B + 1) / 2 + 1 : Nat) : Int) - 1) = (((B + 1) / 2 : Nat) : Int) by omega]; rfl, .inr ⟨rfl, rfl⟩, by omega, ?_⟩
    rw [Nat.zero_add, Nat.pow_succ]
    have := Nat.mul_le_mul (Nat.le_mul_of_pos_right (2 ^ ((B + 1) / 2)) (show 0 < 2 by omega)) (Nat.le_mul_of_pos_right (2 ^ ((B + 1) / 2)) (show 0 < 2 by omega))
    omega
  rintro s ⟨i0, k, r, hk, i4, i3, g1, g2⟩
  rcases Nat.eq_zero_or_pos k with h0 | h0
  · subst h0
    obtain rfl := rtN_eq g1 g2
    rcases i3 with i3 | ⟨e, i3⟩
    · repeat (first | (simp only [go_sem, Nat.reduceEqDiff, Nat.reduceAdd, Nat.reduceSub, Nat.reduceMul, Nat.reduceLeDiff, Nat.reduceLT, reduceIte, reduceCtorEq, Nat.succ_ne_zero, elemsC, Int.reduceToNat, Nat.reducePow, i0, i4, i3]) | (simp (disch := (first | omega | (simp only [AL, List.length_map]; omega))) only [AR, AL, ifT, ifF, take_all, List.length_cons, List.length_nil, Int.reduceToNat, Int.reducePow, Nat.reducePow, i0, i4, i3]) | (refine wk_intro (by kernel_rfl) ?_))
    · rw [e, lim_zero]
      repeat (first | (simp only [go_sem, Nat.reduceEqDiff, Nat.reduceAdd, Nat.reduceSub, Nat.reduceMul, Nat.reduceLeDiff, Nat.reduceLT, reduceIte, reduceCtorEq, Nat.succ_ne_zero, elemsC, Int.reduceToNat, Nat.reducePow, i0, i4, i3]) | (simp (disch := (first | omega | (simp only [AL, List.length_map]; omega))) only [AR, AL, ifT, ifF, take_all, List.length_cons, List.length_nil, Int.reduceToNat, Int.reducePow, Nat.reducePow, i0, i4, i3]) | (refine wk_intro (by kernel_rfl) ?_))
      rfl
  · obtain ⟨j, rfl⟩ : ∃ j, k = j + 1 := ⟨k - 1, by omega⟩
    have p := ref4_pow2 (n := j) (by omega)
    have l := lim_len_shl (a := 1) (n := j)
    have l1 := lim_len1
    rw [Nat.one_mul] at l
    have lr : (lim r).length ≤ 100 := Nat.le_trans (lim_len_mono (by rcases Nat.eq_zero_or_pos r with e | e; (omega); (have := Nat.le_mul_of_pos_left r e; omega))) h
    have s1 := ref1_AddL (N := r) (D := 2 ^ j) (by omega) (by omega)
    have l2 := lim_len_add (a := r) (b := 2 ^ j) (L := 200) (by omega) (by omega)
    have m := ref1_MulL (N := r + 2 ^ j) (D := r + 2 ^ j) (by omega) (by omega)
    have l3 := lim_len_mul (a := r + 2 ^ j) (b := r + 2 ^ j)
    have c := ref1_CmpL (N := (r + 2 ^ j) * (r + 2 ^ j)) (D := a) (by omega) (by omega)
    have e1 : decide (cmpN ((r + 2 ^ j) * (r + 2 ^ j)) a ≤ 0) = decide ((r + 2 ^ j) * (r + 2 ^ j) ≤ a) := decide_eq_decide.2 (by unfold cmpN; split <;> (try split) <;> omega)
    have e4 : ((j + 1 : Nat) : Int) - 1 = (j : Int) := by omega
    rw [e4] at i4
    generalize hz : cmpN ((r + 2 ^ j) * (r + 2 ^ j)) a = z at *
    by_cases hle : (r + 2 ^ j) * (r + 2 ^ j) ≤ a
    · rw [decide_eq_true hle] at e1
      rw [show r + 2 ^ (j + 1) = r + 2 ^ j + 2 ^ j by rw [Nat.pow_succ]; omega] at g2
      generalize hu : (r + 2 ^ j) * (r + 2 ^ j) = u at *
      generalize hv : r + 2 ^ j = v at *
      generalize hw : (v + 2 ^ j) * (v + 2 ^ j) = w at *
      rcases i3 with i3 | ⟨e, i3⟩
      · repeat (first | (simp only [go_sem, Nat.reduceEqDiff, Nat.reduceAdd, Nat.reduceSub, Nat.reduceMul, Nat.reduceLeDiff, Nat.reduceLT, reduceIte, reduceCtorEq, Nat.succ_ne_zero, elemsC, Int.reduceToNat, Nat.reducePow, i0, i4, i3]) | (simp (disch := (first | omega | (simp only [AL, List.length_map]; omega))) only [AR, AL, ifT, ifF, take_all, List.length_cons, List.length_nil, Int.reduceToNat, Int.reducePow, Nat.reducePow, i0, i4, i3]) | (refine wk_intro (by kernel_rfl) ?_))
        repeat (first | (simp only [go_sem, Nat.reduceEqDiff, Nat.reduceAdd, Nat.reduceSub, Nat.reduceMul, Nat.reduceLeDiff, Nat.reduceLT, reduceIte, reduceCtorEq, Nat.succ_ne_zero, elemsC, Int.reduceToNat, Nat.reducePow, i0, i4, i3, e1]) | (simp (disch := (first | omega | (simp only [AL, List.length_map]; omega))) only [AR, AL, ifT, ifF, take_all, List.length_cons, List.length_nil, Int.reduceToNat, Int.reducePow, Nat.reducePow, i0, i4, i3, e1]) | (refine wk_intro (by kernel_rfl) ?_) | (refine vf_of (by first | exact p | exact s1 | exact m | exact c) ?_))
        exact ⟨⟨j, v, by omega, by first | rfl | (congr 2; omega), .inl rfl, by rw [hu]; exact hle, by rw [hw]; exact g2⟩, by omega⟩
      · subst e
        rw [lim_zero] at s1
        repeat (first | (simp only [go_sem, Nat.reduceEqDiff, Nat.reduceAdd, Nat.reduceSub, Nat.reduceMul, Nat.reduceLeDiff, Nat.reduceLT, reduceIte, reduceCtorEq, Nat.succ_ne_zero, elemsC, Int.reduceToNat, Nat.reducePow, i0, i4, i3, e1]) | (simp (disch := (first | omega | (simp only [AL, List.length_map]; omega))) only [AR, AL, ifT, ifF, take_all, List.length_cons, List.length_nil, Int.reduceToNat, Int.reducePow, Nat.reducePow, i0, i4, i3, e1]) | (refine wk_intro (by kernel_rfl) ?_) | (refine vf_of (by first | exact p | exact s1 | exact m | exact c) ?_))
        exact ⟨⟨j, v, by omega, by first | rfl | (congr 2; omega), .inl rfl, by rw [hu]; exact hle, by rw [hw]; exact g2⟩, by omega⟩
    · rw [decide_eq_false hle] at e1
      generalize hu : (r + 2 ^ j) * (r + 2 ^ j) = u at *
      generalize hv : r + 2 ^ j = v at *
      rcases i3 with i3 | ⟨e, i3⟩
      · repeat (first | (simp only [go_sem, Nat.reduceEqDiff, Nat.reduceAdd, Nat.reduceSub, Nat.reduceMul, Nat.reduceLeDiff, Nat.reduceLT, reduceIte, reduceCtorEq, Nat.succ_ne_zero, elemsC, Int.reduceToNat, Nat.reducePow, i0, i4, i3]) | (simp (disch := (first | omega | (simp only [AL, List.length_map]; omega))) only [AR, AL, ifT, ifF, take_all, List.length_cons, List.length_nil, Int.reduceToNat, Int.reducePow, Nat.reducePow, i0, i4, i3]) | (refine wk_intro (by kernel_rfl) ?_))
        repeat (first | (simp only [go_sem, Nat.reduceEqDiff, Nat.reduceAdd, Nat.reduceSub, Nat.reduceMul, Nat.reduceLeDiff, Nat.reduceLT, reduceIte, reduceCtorEq, Nat.succ_ne_zero, elemsC, Int.reduceToNat, Nat.reducePow, i0, i4, i3, e1]) | (simp (disch := (first | omega | (simp only [AL, List.length_map]; omega))) only [AR, AL, ifT, ifF, take_all, List.length_cons, List.length_nil, Int.reduceToNat, Int.reducePow, Nat.reducePow, i0, i4, i3, e1]) | (refine wk_intro (by kernel_rfl) ?_) | (refine vf_of (by first | exact p | exact s1 | exact m | exact c) ?_))
        exact ⟨⟨j, r, by omega, by first | rfl | (congr 2; omega), .inl (by first | rfl | exact i3), g1, by rw [hv, hu]; omega⟩, by omega⟩
      · subst e
        rw [lim_zero] at s1
        repeat (first | (simp only [go_sem, Nat.reduceEqDiff, Nat.reduceAdd, Nat.reduceSub, Nat.reduceMul, Nat.reduceLeDiff, Nat.reduceLT, reduceIte, reduceCtorEq, Nat.succ_ne_zero, elemsC, Int.reduceToNat, Nat.reducePow, i0, i4, i3, e1]) | (simp (disch := (first | omega | (simp only [AL, List.length_map]; omega))) only [AR, AL, ifT, ifF, take_all, List.length_cons, List.length_nil, Int.reduceToNat, Int.reducePow, Nat.reducePow, i0, i4, i3, e1]) | (refine wk_intro (by kernel_rfl) ?_) | (refine vf_of (by first | exact p | exact s1 | exact m | exact c) ?_))
        exact ⟨⟨j, 0, by omega, by first | rfl | (congr 2; omega), .inr (by first | rfl | exact ⟨rfl, rfl⟩ | exact ⟨rfl, i3⟩), g1, by rw [hv, hu]; omega⟩, by omega⟩
theorem ref4_Sqrt {a b w : Nat} (ha : (lim a).length ≤ 60) (hb : (lim b).length ≤ 60) (hw : w ≤ 1000) : Go.Ev.Fn CX 90 [ivV (a : Int) (b : Int), .int .i64 (w : Int)] (ivV (rtN (a * 2 ^ w) : Int) ((rtN (b * 2 ^ w) + 1 : Nat) : Int)) := by
  have s1 := ref1_shl (N := a) (m := w) (by omega) (by omega)
  have s2 := ref1_shl (N := b) (m := w) (by omega) (by omega)
  have l1 := lim_len_shl (a := a) (n := w)
  have l2 := lim_len_shl (a := b) (n := w)
  have r1 := ref4_root (a := a * 2 ^ w) (by omega)
  have r2 := ref4_root (a := b * 2 ^ w) (by omega)
  have o := ref4_Whole 1 (by omega)
  have l3 := lim_len_mono (rtN_self (b * 2 ^ w))
  have l4 : (lim (rtN (b * 2 ^ w) : Int).natAbs).length ≤ 1000 := by rw [Int.natAbs_natCast]; omega
  have p := ref4_Plus (rtN (b * 2 ^ w) : Int) 1 (by omega) (Nat.le_trans lim_len1 (by omega))
  have q : ∀ n : Nat, intV (n : Int) = .agg [.bool false, natV (lim n)] := fun n => iv_eq (Int.natAbs_natCast n) (decide_eq_false (by omega))
  rw [show ((rtN (b * 2 ^ w) : Int) + 1) = ((rtN (b * 2 ^ w) + 1 : Nat) : Int) from rfl, q, q] at p
  have qq : ∀ m n : Nat, ivV (m : Int) (n : Int) = .agg [.bool false, natV (lim m), .bool false, natV (lim n)] := fun m n => by
    show SV.agg [.bool (decide ((m : Int) < 0)), natV (lim (m : Int).natAbs), .bool (decide ((n : Int) < 0)), natV (lim (n : Int).natAbs)] = _
    rw [Int.natAbs_natCast, Int.natAbs_natCast, decide_eq_false (by omega), decide_eq_false (by omega)]
  rw [qq, qq]
  generalize rtN (b * 2 ^ w) + 1 = y at *
  generalize rtN (b * 2 ^ w) = z at *
  generalize rtN (a * 2 ^ w) = x at *
  generalize a * 2 ^ w = u at *
  generalize b * 2 ^ w = v at *
  refine Go.Ev.Fn.intro (fn := Tryz.f90) (body := (Tryz.f90).body.get!) (by kernel_rfl) (by kernel_rfl) (by kernel_rfl) (fun _ => rfl) (Nat.le_of_ble_eq_true (by kernel_rfl)) ?_; unfold Tryz.f90; simp only [Option.get!_some]
  repeat (first | (simp only [go_sem, Nat.reduceEqDiff, Nat.reduceAdd, Nat.reduceSub, Nat.reduceMul, Nat.reduceLeDiff, Nat.reduceLT, reduceIte, reduceCtorEq, Nat.succ_ne_zero, elemsC, Int.reduceToNat, Nat.reducePow]) | (simp (disch := (first | omega | (simp only [AL, List.length_map]; omega))) only [AR, AL, ifT, ifF, take_all, List.length_cons, List.length_nil, Int.reduceToNat, Int.reducePow, Nat.reducePow]) | (refine wk_intro (by kernel_rfl) ?_) | (refine vp_draw (id := 1) (l := [7, 9, 14, 16]) (by kernel_rfl) ?_) | (refine vf_of (by first | exact s1 | exact r1 | exact s2 | exact r2 | exact o | exact p) ?_))
end Go.Proofs.YthbjgdmcnonofaaGreat

/- vernierref4.Prod, in the evaluator. -/
namespace Go.Proofs.YthbjgdmcnonofaaGreat
set_option linter.unusedSimpArgs false
set_option linter.unusedVariables false
set_option maxRecDepth 8000
open Go.Ev
def mnZ (m x : Int) : Int := if x < m then x else m
def mxZ (m x : Int) : Int := if m < x then x else m
def loP (p1 p2 p3 p4 : Int) : Nat → Int
  | 0 => p1
  | 1 => p1
  | 2 => mnZ p1 p2
  | 3 => mnZ (mnZ p1 p2) p3
  | _ => mnZ (mnZ (mnZ p1 p2) p3) p4
def hiP (p1 p2 p3 p4 : Int) : Nat → Int
  | 0 => p1
  | 1 => p1
  | 2 => mxZ p1 p2
  | 3 => mxZ (mxZ p1 p2) p3
  | _ => mxZ (mxZ (mxZ p1 p2) p3) p4
/-- The least and the greatest of four products. -/
def loQ (a b c d : Int) : Int := loP (a * c) (a * d) (b * c) (b * d) 4
def hiQ (a b c d : Int) : Int := hiP (a * c) (a * d) (b * c) (b * d) 4
theorem cmpZ_lt {a b : Int} : decide (cmpZ a b < 0) = decide (a < b) := decide_eq_decide.2 (by unfold cmpZ; split <;> (try split) <;> omega)
theorem cmpZ_gt {a b : Int} : decide (cmpZ a b > 0) = decide (b < a) := decide_eq_decide.2 (by unfold cmpZ; split <;> (try split) <;> omega)
theorem cmpZ_le {a b : Int} : decide (cmpZ a b ≤ 0) = decide (a ≤ b) := decide_eq_decide.2 (by unfold cmpZ; split <;> (try split) <;> omega)
theorem mnZ_is (m x : Int) : mnZ m x = m ∨ mnZ m x = x := by unfold mnZ; split <;> simp
theorem loP_is (p1 p2 p3 p4 : Int) (i : Nat) : loP p1 p2 p3 p4 i = p1 ∨ loP p1 p2 p3 p4 i = p2 ∨ loP p1 p2 p3 p4 i = p3 ∨ loP p1 p2 p3 p4 i = p4 := by
  have h2 := mnZ_is p1 p2
  have h3 := mnZ_is (mnZ p1 p2) p3
  have h4 := mnZ_is (mnZ (mnZ p1 p2) p3) p4
  match i with
  | 0 => exact .inl rfl
  | 1 => exact .inl rfl
  | 2 => show mnZ p1 p2 = _ ∨ mnZ p1 p2 = _ ∨ mnZ p1 p2 = _ ∨ mnZ p1 p2 = _; omega
  | 3 => simp only [loP]; omega
  | _ + 4 => simp only [loP]; omega
theorem mxZ_is (m x : Int) : mxZ m x = m ∨ mxZ m x = x := by unfold mxZ; split <;> simp
theorem hiP_is (p1 p2 p3 p4 : Int) (i : Nat) : hiP p1 p2 p3 p4 i = p1 ∨ hiP p1 p2 p3 p4 i = p2 ∨ hiP p1 p2 p3 p4 i = p3 ∨ hiP p1 p2 p3 p4 i = p4 := by
  have h2 := mxZ_is p1 p2
  have h3 := mxZ_is (mxZ p1 p2) p3
  have h4 := mxZ_is (mxZ (mxZ p1 p2) p3) p4
  match i with
  | 0 => exact .inl rfl
  | 1 => exact .inl rfl
  | 2 => show mxZ p1 p2 = _ ∨ mxZ p1 p2 = _ ∨ mxZ p1 p2 = _ ∨ mxZ p1 p2 = _; omega
  | 3 => simp only [hiP]; omega
  | _ + 4 => simp only [hiP]; omega
set_option maxHeartbeats 1000000 in
theorem ref4_Prod {a b c d : Int} {w : Nat} (ha : (lim a.natAbs).length ≤ 10000) (hb : (lim b.natAbs).length ≤ 10000) (hc : (lim c.natAbs).length ≤ 10000) (hd : (lim d.natAbs).length ≤ 10000) (hw : w ≤ 4096) (h0 : 0 < w) :
    Go.Ev.Fn CX 89 [ivV a b, ivV c d, .int .i64 (w : Int)] (ivV (loQ a b c d / ((2 ^ w : Nat) : Int)) (cdZ (hiQ a b c d) (2 ^ w))) := by
  have m1 := ref4_Times a c (by omega) (by omega)
  have m2 := ref4_Times a d (by omega) (by omega)
  have m3 := ref4_Times b c (by omega) (by omega)
  have m4 := ref4_Times b d (by omega) (by omega)
  have l1 : (lim (a * c).natAbs).length ≤ 20000 := by rw [Int.natAbs_mul]; have := lim_len_mul (a := a.natAbs) (b := c.natAbs); omega
  have l2 : (lim (a * d).natAbs).length ≤ 20000 := by rw [Int.natAbs_mul]; have := lim_len_mul (a := a.natAbs) (b := d.natAbs); omega
  have l3 : (lim (b * c).natAbs).length ≤ 20000 := by rw [Int.natAbs_mul]; have := lim_len_mul (a := b.natAbs) (b := c.natAbs); omega
  have l4 : (lim (b * d).natAbs).length ≤ 20000 := by rw [Int.natAbs_mul]; have := lim_len_mul (a := b.natAbs) (b := d.natAbs); omega
  unfold loQ hiQ
  generalize a * c = p1 at *
  generalize a * d = p2 at *
  generalize b * c = p3 at *
  generalize b * d = p4 at *
  have lL : ∀ i, (lim (loP p1 p2 p3 p4 i).natAbs).length ≤ 20000 := by
    intro i
    rcases loP_is p1 p2 p3 p4 i with h | h | h | h <;> rw [h] <;> assumption
  have lH : ∀ i, (lim (hiP p1 p2 p3 p4 i).natAbs).length ≤ 20000 := by
    intro i
    rcases hiP_is p1 p2 p3 p4 i with h | h | h | h <;> rw [h] <;> assumption
  have s1 := ref4_Less (loP p1 p2 p3 p4 4) w (by have := lL 4; omega) hw h0
  have s2 := ref4_More (hiP p1 p2 p3 p4 4) w (by have := lH 4; omega) hw h0
  have L1 : loP p1 p2 p3 p4 1 = p1 := rfl
  have H1 : hiP p1 p2 p3 p4 1 = p1 := rfl
  have L2 : loP p1 p2 p3 p4 2 = mnZ (loP p1 p2 p3 p4 1) p2 := rfl
  have H2 : hiP p1 p2 p3 p4 2 = mxZ (hiP p1 p2 p3 p4 1) p2 := rfl
  have L3 : loP p1 p2 p3 p4 3 = mnZ (loP p1 p2 p3 p4 2) p3 := rfl
  have H3 : hiP p1 p2 p3 p4 3 = mxZ (hiP p1 p2 p3 p4 2) p3 := rfl
  have L4 : loP p1 p2 p3 p4 4 = mnZ (loP p1 p2 p3 p4 3) p4 := rfl
  have H4 : hiP p1 p2 p3 p4 4 = mxZ (hiP p1 p2 p3 p4 3) p4 := rfl
  generalize loP p1 p2 p3 p4 = lo at *
  generalize hiP p1 p2 p3 p4 = hi at *
  generalize hX : lo 4 / ((2 ^ w : Nat) : Int) = X at *
  generalize hY : cdZ (hi 4) (2 ^ w) = Y at *
  clear hX hY ha hb hc hd
  refine Go.Ev.Fn.intro (fn := Tryz.f89) (body := (Tryz.f89).body.get!) (by kernel_rfl) (by kernel_rfl) (by kernel_rfl) (fun _ => rfl) (Nat.le_of_ble_eq_true (by kernel_rfl)) ?_; unfold Tryz.f89; simp only [Option.get!_some]
  repeat (first | (simp only [go_sem, Nat.reduceEqDiff, Nat.reduceAdd, Nat.reduceSub, Nat.reduceMul, Nat.reduceLeDiff, Nat.reduceLT, reduceIte, reduceCtorEq, Nat.succ_ne_zero, elemsC, Int.reduceToNat, Nat.reducePow]) | (simp (disch := (first | omega | (simp only [AL, List.length_map]; omega))) only [AR, AL, ifT, ifF, take_all, List.length_cons, List.length_nil, Int.reduceToNat, Int.reducePow, Nat.reducePow]) | (refine wk_intro (by kernel_rfl) ?_) | (refine vp_draw (id := 1) (l := []) (by kernel_rfl) ?_) | (refine vp_draw (id := 2) (l := []) (by kernel_rfl) ?_) | (refine vp_draw (id := 6) (l := []) (by kernel_rfl) ?_) | (refine vp_draw (id := 8) (l := []) (by kernel_rfl) ?_) | (refine vp_draw (id := 10) (l := []) (by kernel_rfl) ?_) | (refine vf_of (by first | exact m1 | exact m2 | exact m3 | exact m4) ?_))
  refine vp_loop_inv (fun s => s.tmp 2 = .sv (.int .i64 (w : Int)) ∧ s.tmp 6 = .ptr 6 0 0 ∧ s.obj 6 0 = some [.bool false, .sl 0 [], .bool false, .sl 0 []] ∧ s.tmp 7 = .sv (.sl 4 [.bool (decide (p1 < 0)), natV (lim p1.natAbs), .bool (decide (p2 < 0)), natV (lim p2.natAbs), .bool (decide (p3 < 0)), natV (lim p3.natAbs), .bool (decide (p4 < 0)), natV (lim p4.natAbs)]) ∧ s.tmp 8 = .ptr 8 0 0 ∧ s.tmp 9 = .ptr 9 0 0 ∧
      ∃ i : Nat, s.tmp 10 = .sv (.int .i64 (i : Int)) ∧ 1 ≤ i ∧ i ≤ 4 ∧ s.obj 8 0 = some [.bool (decide (lo i < 0)), natV (lim (lo i).natAbs)] ∧ s.obj 9 0 = some [.bool (decide (hi i < 0)), natV (lim (hi i).natAbs)])
    (fun s => match s.tmp 10 with | .sv (.int _ i) => 4 - i.toNat | _ => 0) ⟨rfl, rfl, rfl, rfl, rfl, rfl, 1, rfl, by omega, by omega, by first | (rw [L1]; done) | (rw [L1]; rfl) | (rw [L1]; exact o8) | (rw [L1]; exact o9), by first | (rw [H1]; done) | (rw [H1]; rfl) | (rw [H1]; exact o8) | (rw [H1]; exact o9)⟩ ?_
  rintro s ⟨i2, i6, o6, i7, i8, i9, i, i10, g1, g2, o8, o9⟩
  obtain rfl | rfl | rfl | rfl : i = 4 ∨ i = 1 ∨ i = 2 ∨ i = 3 := by omega
  · repeat (first | (simp only [go_sem, Nat.reduceEqDiff, Nat.reduceAdd, Nat.reduceSub, Nat.reduceMul, Nat.reduceLeDiff, Nat.reduceLT, reduceIte, reduceCtorEq, Nat.succ_ne_zero, elemsC, Int.reduceToNat, Nat.reducePow, i2, i6, o6, i7, i8, i9, i10, o8, o9]) | (simp (disch := (first | omega | (simp only [AL, List.length_map]; omega))) only [AR, AL, ifT, ifF, take_all, List.length_cons, List.length_nil, Int.reduceToNat, Int.reducePow, Nat.reducePow, i2, i6, o6, i7, i8, i9, i10, o8, o9]) | (refine wk_intro (by kernel_rfl) ?_) | (refine vp_draw (id := 1) (l := []) (by kernel_rfl) ?_) | (refine vp_draw (id := 2) (l := []) (by kernel_rfl) ?_) | (refine vp_draw (id := 6) (l := []) (by kernel_rfl) ?_) | (refine vp_draw (id := 8) (l := []) (by kernel_rfl) ?_) | (refine vp_draw (id := 10) (l := []) (by kernel_rfl) ?_))
    repeat (first | (simp only [go_sem, Nat.reduceEqDiff, Nat.reduceAdd, Nat.reduceSub, Nat.reduceMul, Nat.reduceLeDiff, Nat.reduceLT, reduceIte, reduceCtorEq, Nat.succ_ne_zero, elemsC, Int.reduceToNat, Nat.reducePow, i2, i6, o6, i7, i8, i9, i10, o8, o9]) | (simp (disch := (first | omega | (simp only [AL, List.length_map]; omega))) only [AR, AL, ifT, ifF, take_all, List.length_cons, List.length_nil, Int.reduceToNat, Int.reducePow, Nat.reducePow, i2, i6, o6, i7, i8, i9, i10, o8, o9]) | (refine wk_intro (by kernel_rfl) ?_) | (refine vp_draw (id := 1) (l := []) (by kernel_rfl) ?_) | (refine vp_draw (id := 2) (l := []) (by kernel_rfl) ?_) | (refine vp_draw (id := 6) (l := []) (by kernel_rfl) ?_) | (refine vp_draw (id := 8) (l := []) (by kernel_rfl) ?_) | (refine vp_draw (id := 10) (l := []) (by kernel_rfl) ?_) | (refine vf_of (by first | exact s1 | exact s2) ?_))
  · have c1 := ref4_Cmp p2 (lo 1) (by omega) (by have := lL 1; omega)
    have c2 := ref4_Cmp p2 (hi 1) (by omega) (by have := lH 1; omega)
    have c3 := ref4_Cmp p2 (hi 1) (by omega) (by have := lH 1; omega)
    have e1 := cmpZ_lt (a := p2) (b := lo 1)
    have e2 := cmpZ_gt (a := p2) (b := hi 1)
    generalize cmpZ p2 (lo 1) = z1 at *
    generalize cmpZ p2 (hi 1) = z2 at *
    by_cases k1 : p2 < lo 1
    · rw [decide_eq_true k1] at e1
      rw [mnZ, if_pos k1] at L2
      by_cases k2 : hi 1 < p2
      · rw [decide_eq_true k2] at e2
        rw [mxZ, if_pos k2] at H2
        clear k1 k2
        repeat (first | (simp only [go_sem, Nat.reduceEqDiff, Nat.reduceAdd, Nat.reduceSub, Nat.reduceMul, Nat.reduceLeDiff, Nat.reduceLT, reduceIte, reduceCtorEq, Nat.succ_ne_zero, elemsC, Int.reduceToNat, Nat.reducePow, i2, i6, o6, i7, i8, i9, i10, o8, o9, e1, e2]) | (simp (disch := (first | omega | (simp only [AL, List.length_map]; omega))) only [AR, AL, ifT, ifF, take_all, List.length_cons, List.length_nil, Int.reduceToNat, Int.reducePow, Nat.reducePow, i2, i6, o6, i7, i8, i9, i10, o8, o9, e1, e2]) | (refine wk_intro (by kernel_rfl) ?_) | (refine vp_draw (id := 1) (l := []) (by kernel_rfl) ?_) | (refine vp_draw (id := 2) (l := []) (by kernel_rfl) ?_) | (refine vp_draw (id := 6) (l := []) (by kernel_rfl) ?_) | (refine vp_draw (id := 8) (l := []) (by kernel_rfl) ?_) | (refine vp_draw (id := 10) (l := []) (by kernel_rfl) ?_) | (refine vf_of (by first | exact c1 | exact c2) ?_))
        exact ⟨2, rfl, by omega, by omega, by first | (rw [L2]; done) | (rw [L2]; rfl) | (rw [L2]; exact o8) | (rw [L2]; exact o9), by first | (rw [H2]; done) | (rw [H2]; rfl) | (rw [H2]; exact o8) | (rw [H2]; exact o9)⟩
      · rw [decide_eq_false k2] at e2
        rw [mxZ, if_neg k2] at H2
        clear k1 k2
        repeat (first | (simp only [go_sem, Nat.reduceEqDiff, Nat.reduceAdd, Nat.reduceSub, Nat.reduceMul, Nat.reduceLeDiff, Nat.reduceLT, reduceIte, reduceCtorEq, Nat.succ_ne_zero, elemsC, Int.reduceToNat, Nat.reducePow, i2, i6, o6, i7, i8, i9, i10, o8, o9, e1, e2]) | (simp (disch := (first | omega | (simp only [AL, List.length_map]; omega))) only [AR, AL, ifT, ifF, take_all, List.length_cons, List.length_nil, Int.reduceToNat, Int.reducePow, Nat.reducePow, i2, i6, o6, i7, i8, i9, i10, o8, o9, e1, e2]) | (refine wk_intro (by kernel_rfl) ?_) | (refine vp_draw (id := 1) (l := []) (by kernel_rfl) ?_) | (refine vp_draw (id := 2) (l := []) (by kernel_rfl) ?_) | (refine vp_draw (id := 6) (l := []) (by kernel_rfl) ?_) | (refine vp_draw (id := 8) (l := []) (by kernel_rfl) ?_) | (refine vp_draw (id := 10) (l := []) (by kernel_rfl) ?_) | (refine vf_of (by first | exact c1 | exact c2) ?_))
        exact ⟨2, rfl, by omega, by omega, by first | (rw [L2]; done) | (rw [L2]; rfl) | (rw [L2]; exact o8) | (rw [L2]; exact o9), by first | (rw [H2]; done) | (rw [H2]; rfl) | (rw [H2]; exact o8) | (rw [H2]; exact o9)⟩
    · rw [decide_eq_false k1] at e1
      rw [mnZ, if_neg k1] at L2
      by_cases k2 : hi 1 < p2
      · rw [decide_eq_true k2] at e2
        rw [mxZ, if_pos k2] at H2
        clear k1 k2
        repeat (first | (simp only [go_sem, Nat.reduceEqDiff, Nat.reduceAdd, Nat.reduceSub, Nat.reduceMul, Nat.reduceLeDiff, Nat.reduceLT, reduceIte, reduceCtorEq, Nat.succ_ne_zero, elemsC, Int.reduceToNat, Nat.reducePow, i2, i6, o6, i7, i8, i9, i10, o8, o9, e1, e2]) | (simp (disch := (first | omega | (simp only [AL, List.length_map]; omega))) only [AR, AL, ifT, ifF, take_all, List.length_cons, List.length_nil, Int.reduceToNat, Int.reducePow, Nat.reducePow, i2, i6, o6, i7, i8, i9, i10, o8, o9, e1, e2]) | (refine wk_intro (by kernel_rfl) ?_) | (refine vp_draw (id := 1) (l := []) (by kernel_rfl) ?_) | (refine vp_draw (id := 2) (l := []) (by kernel_rfl) ?_) | (refine vp_draw (id := 6) (l := []) (by kernel_rfl) ?_) | (refine vp_draw (id := 8) (l := []) (by kernel_rfl) ?_) | (refine vp_draw (id := 10) (l := []) (by kernel_rfl) ?_) | (refine vf_of (by first | exact c1 | exact c2) ?_))
        exact ⟨2, rfl, by omega, by omega, by first | (rw [L2]; done) | (rw [L2]; rfl) | (rw [L2]; exact o8) | (rw [L2]; exact o9), by first | (rw [H2]; done) | (rw [H2]; rfl) | (rw [H2]; exact o8) | (rw [H2]; exact o9)⟩
      · rw [decide_eq_false k2] at e2
        rw [mxZ, if_neg k2] at H2
        clear k1 k2
        repeat (first | (simp only [go_sem, Nat.reduceEqDiff, Nat.reduceAdd, Nat.reduceSub, Nat.reduceMul, Nat.reduceLeDiff, Nat.reduceLT, reduceIte, reduceCtorEq, Nat.succ_ne_zero, elemsC, Int.reduceToNat, Nat.reducePow, i2, i6, o6, i7, i8, i9, i10, o8, o9, e1, e2]) | (simp (disch := (first | omega | (simp only [AL, List.length_map]; omega))) only [AR, AL, ifT, ifF, take_all, List.length_cons, List.length_nil, Int.reduceToNat, Int.reducePow, Nat.reducePow, i2, i6, o6, i7, i8, i9, i10, o8, o9, e1, e2]) | (refine wk_intro (by kernel_rfl) ?_) | (refine vp_draw (id := 1) (l := []) (by kernel_rfl) ?_) | (refine vp_draw (id := 2) (l := []) (by kernel_rfl) ?_) | (refine vp_draw (id := 6) (l := []) (by kernel_rfl) ?_) | (refine vp_draw (id := 8) (l := []) (by kernel_rfl) ?_) | (refine vp_draw (id := 10) (l := []) (by kernel_rfl) ?_) | (refine vf_of (by first | exact c1 | exact c2) ?_))
        exact ⟨2, rfl, by omega, by omega, by first | (rw [L2]; done) | (rw [L2]; rfl) | (rw [L2]; exact o8) | (rw [L2]; exact o9), by first | (rw [H2]; done) | (rw [H2]; rfl) | (rw [H2]; exact o8) | (rw [H2]; exact o9)⟩
  · have c1 := ref4_Cmp p3 (lo 2) (by omega) (by have := lL 2; omega)
    have c2 := ref4_Cmp p3 (hi 2) (by omega) (by have := lH 2; omega)
    have c3 := ref4_Cmp p3 (hi 2) (by omega) (by have := lH 2; omega)
    have e1 := cmpZ_lt (a := p3) (b := lo 2)
    have e2 := cmpZ_gt (a := p3) (b := hi 2)
    generalize cmpZ p3 (lo 2) = z1 at *
    generalize cmpZ p3 (hi 2) = z2 at *
    by_cases k1 : p3 < lo 2
    · rw [decide_eq_true k1] at e1
      rw [mnZ, if_pos k1] at L3
      by_cases k2 : hi 2 < p3
      · rw [decide_eq_true k2] at e2
        rw [mxZ, if_pos k2] at H3
        clear k1 k2
        repeat (first | (simp only [go_sem, Nat.reduceEqDiff, Nat.reduceAdd, Nat.reduceSub, Nat.reduceMul, Nat.reduceLeDiff, Nat.reduceLT, reduceIte, reduceCtorEq, Nat.succ_ne_zero, elemsC, Int.reduceToNat, Nat.reducePow, i2, i6, o6, i7, i8, i9, i10, o8, o9, e1, e2]) | (simp (disch := (first | omega | (simp only [AL, List.length_map]; omega))) only [AR, AL, ifT, ifF, take_all, List.length_cons, List.length_nil, Int.reduceToNat, Int.reducePow, Nat.reducePow, i2, i6, o6, i7, i8, i9, i10, o8, o9, e1, e2]) | (refine wk_intro (by kernel_rfl) ?_) | (refine vp_draw (id := 1) (l := []) (by kernel_rfl) ?_) | (refine vp_draw (id := 2) (l := []) (by kernel_rfl) ?_) | (refine vp_draw (id := 6) (l := []) (by kernel_rfl) ?_) | (refine vp_draw (id := 8) (l := []) (by kernel_rfl) ?_) | (refine vp_draw (id := 10) (l := []) (by kernel_rfl) ?_) | (refine vf_of (by first | exact c1 | exact c2) ?_))
        exact ⟨3, rfl, by omega, by omega, by first | (rw [L3]; done) | (rw [L3]; rfl) | (rw [L3]; exact o8) | (rw [L3]; exact o9), by first | (rw [H3]; done) | (rw [H3]; rfl) | (rw [H3]; exact o8) | (rw [H3]; exact o9)⟩
      · rw [decide_eq_false k2] at e2
        rw [mxZ, if_neg k2] at H3
        clear k1 k2
        repeat (first | (simp only [go_sem, Nat.reduceEqDiff, Nat.reduceAdd, Nat.reduceSub, Nat.reduceMul, Nat.reduceLeDiff, Nat.reduceLT, reduceIte, reduceCtorEq, Nat.succ_ne_zero, elemsC, Int.reduceToNat, Nat.reducePow, i2, i6, o6, i7, i8, i9, i10, o8, o9, e1, e2]) | (simp (disch := (first | omega | (simp only [AL, List.length_map]; omega))) only [AR, AL, ifT, ifF, take_all, List.length_cons, List.length_nil, Int.reduceToNat, Int.reducePow, Nat.reducePow, i2, i6, o6, i7, i8, i9, i10, o8, o9, e1, e2]) | (refine wk_intro (by kernel_rfl) ?_) | (refine vp_draw (id := 1) (l := []) (by kernel_rfl) ?_) | (refine vp_draw (id := 2) (l := []) (by kernel_rfl) ?_) | (refine vp_draw (id := 6) (l := []) (by kernel_rfl) ?_) | (refine vp_draw (id := 8) (l := []) (by kernel_rfl) ?_) | (refine vp_draw (id := 10) (l := []) (by kernel_rfl) ?_) | (refine vf_of (by first | exact c1 | exact c2) ?_))
        exact ⟨3, rfl, by omega, by omega, by first | (rw [L3]; done) | (rw [L3]; rfl) | (rw [L3]; exact o8) | (rw [L3]; exact o9), by first | (rw [H3]; done) | (rw [H3]; rfl) | (rw [H3]; exact o8) | (rw [H3]; exact o9)⟩
    · rw [decide_eq_false k1] at e1
      rw [mnZ, if_neg k1] at L3
      by_cases k2 : hi 2 < p3
      · rw [decide_eq_true k2] at e2
        rw [mxZ, if_pos k2] at H3
        clear k1 k2
        repeat (first | (simp only [go_sem, Nat.reduceEqDiff, Nat.reduceAdd, Nat.reduceSub, Nat.reduceMul, Nat.reduceLeDiff, Nat.reduceLT, reduceIte, reduceCtorEq, Nat.succ_ne_zero, elemsC, Int.reduceToNat, Nat.reducePow, i2, i6, o6, i7, i8, i9, i10, o8, o9, e1, e2]) | (simp (disch := (first | omega | (simp only [AL, List.length_map]; omega))) only [AR, AL, ifT, ifF, take_all, List.length_cons, List.length_nil, Int.reduceToNat, Int.reducePow, Nat.reducePow, i2, i6, o6, i7, i8, i9, i10, o8, o9, e1, e2]) | (refine wk_intro (by kernel_rfl) ?_) | (refine vp_draw (id := 1) (l := []) (by kernel_rfl) ?_) | (refine vp_draw (id := 2) (l := []) (by kernel_rfl) ?_) | (refine vp_draw (id := 6) (l := []) (by kernel_rfl) ?_) | (refine vp_draw (id := 8) (l := []) (by kernel_rfl) ?_) | (refine vp_draw (id := 10) (l := []) (by kernel_rfl) ?_) | (refine vf_of (by first | exact c1 | exact c2) ?_))
        exact ⟨3, rfl, by omega, by omega, by first | (rw [L3]; done) | (rw [L3]; rfl) | (rw [L3]; exact o8) | (rw [L3]; exact o9), by first | (rw [H3]; done) | (rw [H3]; rfl) | (rw [H3]; exact o8) | (rw [H3]; exact o9)⟩
      · rw [decide_eq_false k2] at e2
        rw [mxZ, if_neg k2] at H3
        clear k1 k2
        repeat (first | (simp only [go_sem, Nat.reduceEqDiff, Nat.reduceAdd, Nat.reduceSub, Nat.reduceMul, Nat.reduceLeDiff, Nat.reduceLT, reduceIte, reduceCtorEq, Nat.succ_ne_zero, elemsC, Int.reduceToNat, Nat.reducePow, i2, i6, o6, i7, i8, i9, i10, o8, o9, e1, e2]) | (simp (disch := (first | omega | (simp only [AL, List.length_map]; omega))) only [AR, AL, ifT, ifF, take_all, List.length_cons, List.length_nil, Int.reduceToNat, Int.reducePow, Nat.reducePow, i2, i6, o6, i7, i8, i9, i10, o8, o9, e1, e2]) | (refine wk_intro (by kernel_rfl) ?_) | (refine vp_draw (id := 1) (l := []) (by kernel_rfl) ?_) | (refine vp_draw (id := 2) (l := []) (by kernel_rfl) ?_) | (refine vp_draw (id := 6) (l := []) (by kernel_rfl) ?_) | (refine vp_draw (id := 8) (l := []) (by kernel_rfl) ?_) | (refine vp_draw (id := 10) (l := []) (by kernel_rfl) ?_) | (refine vf_of (by first | exact c1 | exact c2) ?_))
        exact ⟨3, rfl, by omega, by omega, by first | (rw [L3]; done) | (rw [L3]; rfl) | (rw [L3]; exact o8) | (rw [L3]; exact o9), by first | (rw [H3]; done) | (rw [H3]; rfl) | (rw [H3]; exact o8) | (rw [H3]; exact o9)⟩
  · have c1 := ref4_Cmp p4 (lo 3) (by omega) (by have := lL 3; omega)
    have c2 := ref4_Cmp p4 (hi 3) (by omega) (by have := lH 3; omega)
    have c3 := ref4_Cmp p4 (hi 3) (by omega) (by have := lH 3; omega)
    have e1 := cmpZ_lt (a := p4) (b := lo 3)
    have e2 := cmpZ_gt (a := p4) (b := hi 3)
    generalize cmpZ p4 (lo 3) = z1 at *
    generalize cmpZ p4 (hi 3) = z2 at *
    by_cases k1 : p4 < lo 3
    · rw [decide_eq_true k1] at e1
      rw [mnZ, if_pos k1] at L4
      by_cases k2 : hi 3 < p4
      · rw [decide_eq_true k2] at e2
        rw [mxZ, if_pos k2] at H4
        clear k1 k2
        repeat (first | (simp only [go_sem, Nat.reduceEqDiff, Nat.reduceAdd, Nat.reduceSub, Nat.reduceMul, Nat.reduceLeDiff, Nat.reduceLT, reduceIte, reduceCtorEq, Nat.succ_ne_zero, elemsC, Int.reduceToNat, Nat.reducePow, i2, i6, o6, i7, i8, i9, i10, o8, o9, e1, e2]) | (simp (disch := (first | omega | (simp only [AL, List.length_map]; omega))) only [AR, AL, ifT, ifF, take_all, List.length_cons, List.length_nil, Int.reduceToNat, Int.reducePow, Nat.reducePow, i2, i6, o6, i7, i8, i9, i10, o8, o9, e1, e2]) | (refine wk_intro (by kernel_rfl) ?_) | (refine vp_draw (id := 1) (l := []) (by kernel_rfl) ?_) | (refine vp_draw (id := 2) (l := []) (by kernel_rfl) ?_) | (refine vp_draw (id := 6) (l := []) (by kernel_rfl) ?_) | (refine vp_draw (id := 8) (l := []) (by kernel_rfl) ?_) | (refine vp_draw (id := 10) (l := []) (by kernel_rfl) ?_) | (refine vf_of (by first | exact c1 | exact c2) ?_))
        exact ⟨4, rfl, by omega, by omega, by first | (rw [L4]; done) | (rw [L4]; rfl) | (rw [L4]; exact o8) | (rw [L4]; exact o9), by first | (rw [H4]; done) | (rw [H4]; rfl) | (rw [H4]; exact o8) | (rw [H4]; exact o9)⟩
      · rw [decide_eq_false k2] at e2
        rw [mxZ, if_neg k2] at H4
        clear k1 k2
        repeat (first | (simp only [go_sem, Nat.reduceEqDiff, Nat.reduceAdd, Nat.reduceSub, Nat.reduceMul, Nat.reduceLeDiff, Nat.reduceLT, reduceIte, reduceCtorEq, Nat.succ_ne_zero, elemsC, Int.reduceToNat, Nat.reducePow, i2, i6, o6, i7, i8, i9, i10, o8, o9, e1, e2]) | (simp (disch := (first | omega | (simp only [AL, List.length_map]; omega))) only [AR, AL, ifT, ifF, take_all, List.length_cons, List.length_nil, Int.reduceToNat, Int.reducePow, Nat.reducePow, i2, i6, o6, i7, i8, i9, i10, o8, o9, e1, e2]) | (refine wk_intro (by kernel_rfl) ?_) | (refine vp_draw (id := 1) (l := []) (by kernel_rfl) ?_) | (refine vp_draw (id := 2) (l := []) (by kernel_rfl) ?_) | (refine vp_draw (id := 6) (l := []) (by kernel_rfl) ?_) | (refine vp_draw (id := 8) (l := []) (by kernel_rfl) ?_) | (refine vp_draw (id := 10) (l := []) (by kernel_rfl) ?_) | (refine vf_of (by first | exact c1 | exact c2) ?_))
        exact ⟨4, rfl, by omega, by omega, by first | (rw [L4]; done) | (rw [L4]; rfl) | (rw [L4]; exact o8) | (rw [L4]; exact o9), by first | (rw [H4]; done) | (rw [H4]; rfl) | (rw [H4]; exact o8) | (rw [H4]; exact o9)⟩
    · rw [decide_eq_false k1] at e1
      rw [mnZ, if_neg k1] at L4
      by_cases k2 : hi 3 < p4
      · rw [decide_eq_true k2] at e2
        rw [mxZ, if_pos k2] at H4
        clear k1 k2
        repeat (first | (simp only [go_sem, Nat.reduceEqDiff, Nat.reduceAdd, Nat.reduceSub, Nat.reduceMul, Nat.reduceLeDiff, Nat.reduceLT, reduceIte, reduceCtorEq, Nat.succ_ne_zero, elemsC, Int.reduceToNat, Nat.reducePow, i2, i6, o6, i7, i8, i9, i10, o8, o9, e1, e2]) | (simp (disch := (first | omega | (simp only [AL, List.length_map]; omega))) only [AR, AL, ifT, ifF, take_all, List.length_cons, List.length_nil, Int.reduceToNat, Int.reducePow, Nat.reducePow, i2, i6, o6, i7, i8, i9, i10, o8, o9, e1, e2]) | (refine wk_intro (by kernel_rfl) ?_) | (refine vp_draw (id := 1) (l := []) (by kernel_rfl) ?_) | (refine vp_draw (id := 2) (l := []) (by kernel_rfl) ?_) | (refine vp_draw (id := 6) (l := []) (by kernel_rfl) ?_) | (refine vp_draw (id := 8) (l := []) (by kernel_rfl) ?_) | (refine vp_draw (id := 10) (l := []) (by kernel_rfl) ?_) | (refine vf_of (by first | exact c1 | exact c2) ?_))
        exact ⟨4, rfl, by omega, by omega, by first | (rw [L4]; done) | (rw [L4]; rfl) | (rw [L4]; exact o8) | (rw [L4]; exact o9), by first | (rw [H4]; done) | (rw [H4]; rfl) | (rw [H4]; exact o8) | (rw [H4]; exact o9)⟩
      · rw [decide_eq_false k2] at e2
        rw [mxZ, if_neg k2] at H4
        clear k1 k2
        repeat (first | (simp only [go_sem, Nat.reduceEqDiff, Nat.reduceAdd, Nat.reduceSub, Nat.reduceMul, Nat.reduceLeDiff, Nat.reduceLT, reduceIte, reduceCtorEq, Nat.succ_ne_zero, elemsC, Int.reduceToNat, Nat.reducePow, i2, i6, o6, i7, i8, i9, i10, o8, o9, e1, e2]) | (simp (disch := (first | omega | (simp only [AL, List.length_map]; omega))) only [AR, AL, ifT, ifF, take_all, List.length_cons, List.length_nil, Int.reduceToNat, Int.reducePow, Nat.reducePow, i2, i6, o6, i7, i8, i9, i10, o8, o9, e1, e2]) | (refine wk_intro (by kernel_rfl) ?_) | (refine vp_draw (id := 1) (l := []) (by kernel_rfl) ?_) | (refine vp_draw (id := 2) (l := []) (by kernel_rfl) ?_) | (refine vp_draw (id := 6) (l := []) (by kernel_rfl) ?_) | (refine vp_draw (id := 8) (l := []) (by kernel_rfl) ?_) | (refine vp_draw (id := 10) (l := []) (by kernel_rfl) ?_) | (refine vf_of (by first | exact c1 | exact c2) ?_))
        exact ⟨4, rfl, by omega, by omega, by first | (rw [L4]; done) | (rw [L4]; rfl) | (rw [L4]; exact o8) | (rw [L4]; exact o9), by first | (rw [H4]; done) | (rw [H4]; rfl) | (rw [H4]; exact o8) | (rw [H4]; exact o9)⟩
end Go.Proofs.YthbjgdmcnonofaaGreat

/- vernierref8: part, small, PiIv, in the evaluator. -/
namespace Go.Proofs.YthbjgdmcnonofaaGreat
set_option linter.unusedSimpArgs false
set_option linter.unusedVariables false
set_option maxRecDepth 8000
open Go.Ev
theorem pin_eq {α : Type} (n : Nat) (f : Nat → α) : pin n f = f n := by cases n <;> rfl
/-- From one natural to another. -/
abbrev ivN (a b : Nat) : SV := .agg [.bool false, natV (lim a), .bool false, natV (lim b)]
abbrev intN (a : Nat) : SV := .agg [.bool false, natV (lim a)]
theorem intN_eq (n : Nat) : intV (n : Int) = intN n := iv_eq (Int.natAbs_natCast n) (decide_eq_false (by omega))
theorem ivN_eq (m n : Nat) : ivV (m : Int) (n : Int) = ivN m n := by
  show SV.agg [.bool (decide ((m : Int) < 0)), natV (lim (m : Int).natAbs), .bool (decide ((n : Int) < 0)), natV (lim (n : Int).natAbs)] = _
  rw [Int.natAbs_natCast, Int.natAbs_natCast, decide_eq_false (by omega), decide_eq_false (by omega)]
theorem cdv_le {a b c : Nat} (hb : 0 < b) (h : a ≤ c * b) : cdv a b ≤ c := by
  unfold cdv
  rw [Nat.div_le_iff_le_mul hb]
  omega
theorem div_le_cdv {a b d : Nat} (hd : 0 < d) (h : a ≤ b) : a / d ≤ cdv b d := by
  unfold cdv
  exact Nat.div_le_div_right (by omega)
theorem cdZ_nat {n d : Nat} (hd : 0 < d) : cdZ (n : Int) d = (cdv n d : Int) := by
  unfold cdZ cdv
  rw [fall_eq (a := -(n : Int)) (by omega), Int.natAbs_neg, Int.natAbs_natCast]
  have hm := Nat.div_add_mod n d
  have hl := Nat.mod_lt n hd
  by_cases h0 : n % d = 0
  · rw [if_neg (fun h => h.2 h0)]
    have e : (n + d - 1) / d = n / d := by
      rw [show n + d - 1 = (d - 1) + d * (n / d) by omega, Nat.add_mul_div_left _ _ hd, Nat.div_eq_of_lt (by omega), Nat.zero_add]
    rw [e]
    by_cases hn : n = 0
    · subst hn; simp [sgn]
    · rw [decide_eq_true (by omega)]
      show -(-((n / d : Nat) : Int)) = _
      omega
  · have hn : n ≠ 0 := by rintro rfl; simp at h0
    rw [if_pos ⟨by omega, h0⟩]
    have e : (n + d - 1) / d = n / d + 1 := by
      rw [show n + d - 1 = (n % d - 1) + d * (n / d + 1) by rw [Nat.mul_add]; omega, Nat.add_mul_div_left _ _ hd, Nat.div_eq_of_lt (by omega), Nat.zero_add]
    rw [e]
    omega
theorem loQ_nat {a b c d : Nat} (h1 : a ≤ b) (h2 : c ≤ d) : loQ a b c d = ((a * c : Nat) : Int) := by
  have e1 : a * c ≤ a * d := Nat.mul_le_mul_left _ h2
  have e2 : a * c ≤ b * c := Nat.mul_le_mul_right _ h1
  have e3 : a * c ≤ b * d := Nat.mul_le_mul h1 h2
  unfold loQ loP mnZ
  rw [← Int.natCast_mul, ← Int.natCast_mul, ← Int.natCast_mul, ← Int.natCast_mul]
  rw [if_neg (show ¬ ((a * d : Nat) : Int) < ((a * c : Nat) : Int) by omega), if_neg (show ¬ ((b * c : Nat) : Int) < ((a * c : Nat) : Int) by omega), if_neg (by omega)]
  rfl
theorem hiQ_nat {a b c d : Nat} (h1 : a ≤ b) (h2 : c ≤ d) : hiQ a b c d = ((b * d : Nat) : Int) := by
  have e1 : a * c ≤ a * d := Nat.mul_le_mul_left _ h2
  have e2 : a * c ≤ b * c := Nat.mul_le_mul_right _ h1
  have e3 : b * c ≤ b * d := Nat.mul_le_mul_left _ h2
  have e4 : a * d ≤ b * d := Nat.mul_le_mul_right _ h1
  unfold hiQ hiP mxZ
  rw [← Int.natCast_mul, ← Int.natCast_mul, ← Int.natCast_mul, ← Int.natCast_mul]
  repeat' split
  all_goals omega
theorem ref4_ProdN {a b c d w : Nat} (h1 : a ≤ b) (h2 : c ≤ d) (hb : (lim b).length ≤ 10000) (hd : (lim d).length ≤ 10000) (hw : w ≤ 4096) (h0 : 0 < w) :
    Go.Ev.Fn CX 89 [ivN a b, ivN c d, .int .i64 (w : Int)] (ivN (a * c / 2 ^ w) (cdv (b * d) (2 ^ w))) := by
  have la := lim_len_mono h1
  have lc := lim_len_mono h2
  have h := ref4_Prod (a := (a : Int)) (b := (b : Int)) (c := (c : Int)) (d := (d : Int)) (w := w) (by rw [Int.natAbs_natCast]; omega) (by rw [Int.natAbs_natCast]; omega) (by rw [Int.natAbs_natCast]; omega) (by rw [Int.natAbs_natCast]; omega) hw h0
  rw [loQ_nat h1 h2, hiQ_nat h1 h2, cdZ_nat (Nat.pow_pos (by omega)), ← Int.natCast_ediv, ivN_eq, ivN_eq, ivN_eq] at h
  exact h
theorem ref4_ByN {a b n : Nat} (ha : (lim a).length ≤ 100000) (hb : (lim b).length ≤ 100000) (h0 : 0 < n) (hn : n < 9223372036854775808) : Go.Ev.Fn CX 174 [ivN a b, .int .i64 (n : Int)] (ivN (a / n) (cdv b n)) := by
  have h := ref4_By (a := (a : Int)) (b := (b : Int)) (by rw [Int.natAbs_natCast]; omega) (by rw [Int.natAbs_natCast]; omega) n h0 hn
  rw [cdZ_nat h0, ← Int.natCast_ediv, ivN_eq, ivN_eq] at h
  exact h
theorem ref4_MinusN {x y : Int} {c d : Nat} (hx : (lim x.natAbs).length ≤ 100000) (hy : (lim y.natAbs).length ≤ 100000) (hc : (lim c).length ≤ 100000) (hd : (lim d).length ≤ 100000) : Go.Ev.Fn CX 61 [ivV x y, ivN c d] (ivV (x - d) (y - c)) := by
  have h := ref4_Minus (c := (c : Int)) (d := (d : Int)) hx hy (by rw [Int.natAbs_natCast]; omega) (by rw [Int.natAbs_natCast]; omega)
  rw [ivN_eq] at h
  exact h
theorem ref4_SumN {x y : Int} {c d : Nat} (hx : (lim x.natAbs).length ≤ 100000) (hy : (lim y.natAbs).length ≤ 100000) (hc : (lim c).length ≤ 100000) (hd : (lim d).length ≤ 100000) : Go.Ev.Fn CX 175 [ivV x y, ivN c d] (ivV (x + c) (y + d)) := by
  have h := ref4_Sum (c := (c : Int)) (d := (d : Int)) hx hy (by rw [Int.natAbs_natCast]; omega) (by rw [Int.natAbs_natCast]; omega)
  rw [ivN_eq] at h
  exact h
theorem ref4_MostN {a b : Nat} (h1 : a ≤ b) (hb : (lim b).length ≤ 100000) : Go.Ev.Fn CX 176 [ivN a b] (intN b) := by
  have la := lim_len_mono h1
  have h := ref4_Most (a := (a : Int)) (b := (b : Int)) (by rw [Int.natAbs_natCast]; omega) (by rw [Int.natAbs_natCast]; omega)
  rw [Int.natAbs_natCast, Int.natAbs_natCast, Nat.max_eq_right h1, ivN_eq, intN_eq] at h
  exact h
theorem ref4_CmpN {a b : Nat} (ha : (lim a).length ≤ 100000) (hb : (lim b).length ≤ 100000) : Go.Ev.Fn CX 157 [intN a, intN b] (.int .i64 (cmpZ a b)) := by
  have h := ref4_Cmp (a : Int) (b : Int) (by rw [Int.natAbs_natCast]; omega) (by rw [Int.natAbs_natCast]; omega)
  rw [intN_eq, intN_eq] at h
  exact h
theorem lim_len_p2 {n w : Nat} (h : n ≤ 2 ^ w) (hw : w ≤ 1000) : (lim n).length ≤ 40 := by
  have l := lim_len_shl (a := 1) (n := w)
  have l1 := lim_len1
  rw [Nat.one_mul] at l
  have := lim_len_mono h
  omega
section
variable {w s1 s2 : Nat}
set_option maxHeartbeats 1000000 in
theorem ref8_small {v : SV} {q : Rat} {d A B : Nat} (hv : RatA v q 2) (hq : q.num = 1) (hd : q.den = d) (hdd : 0 < d) (hw : w ≤ 400) (hw0 : 0 < w) (hs : smF d w = some (A, B)) :
    Go.Ev.Fn CX 153 [v, .int .i64 (w : Int)] (ivN A B) := by
  have nm := ref4_Num hv (w := w) (by omega) (by omega) (by omega)
  rw [hq, hd, Int.one_mul, cdZ_nat hdd, ← Int.natCast_ediv, ivN_eq] at nm
  unfold smF at hs
  rw [pin_eq, pin_eq, pin_eq, pin_eq] at hs
  have hP : 0 < 2 ^ w := Nat.pow_pos (by omega)
  have y2T : cdv (2 ^ w) d ≤ 2 ^ w := cdv_le hdd (Nat.le_mul_of_pos_right _ hdd)
  have y12 : 2 ^ w / d ≤ cdv (2 ^ w) d := by
    unfold cdv
    exact Nat.div_le_div_right (by omega)
  generalize 2 ^ w / d = y1 at *
  generalize cdv (2 ^ w) d = y2 at *
  have ly2 := lim_len_p2 y2T (by omega)
  have ps := ref4_ProdN (a := y1) (b := y2) (c := y1) (d := y2) (w := w) y12 y12 (by omega) (by omega) (by omega) hw0
  have s2T : cdv (y2 * y2) (2 ^ w) ≤ 2 ^ w := cdv_le hP (Nat.mul_le_mul y2T y2T)
  have s12 : y1 * y1 / 2 ^ w ≤ cdv (y2 * y2) (2 ^ w) := by
    unfold cdv
    refine Nat.div_le_div_right ?_
    have := Nat.mul_le_mul y12 y12
    omega
  generalize y1 * y1 / 2 ^ w = s1 at *
  generalize cdv (y2 * y2) (2 ^ w) = s2 at *
  have ls2 := lim_len_p2 s2T (by omega)
  split at hs
  · rename_i A1 A2 B1 B2 hgo
    by_cases hfin : B2 + 4 ≤ A1 ∧ B1 ≤ A2
    · rw [if_pos hfin] at hs
      obtain ⟨rfl, rfl⟩ : A1 - B2 - 4 = A ∧ A2 - B1 + 4 = B := by simpa using hs
      clear hs
      have w2 := ref4_Whole 2 (by omega)
      rw [show (2 : Int) = ((2 : Nat) : Int) from rfl, intN_eq] at w2
      have l2 : (lim 2).length ≤ 1 := lim_len_one (by decide)
      obtain ⟨s0, n0, d0, rfl, -⟩ := hv
      refine Go.Ev.Fn.intro (fn := Tryz.f153) (body := (Tryz.f153).body.get!) (by kernel_rfl) (by kernel_rfl) (by kernel_rfl) (fun _ => rfl) (Nat.le_of_ble_eq_true (by kernel_rfl)) ?_; unfold Tryz.f153; simp only [Option.get!_some]
      repeat (first | (simp only [go_sem, Nat.reduceEqDiff, Nat.reduceAdd, Nat.reduceSub, Nat.reduceMul, Nat.reduceLeDiff, Nat.reduceLT, reduceIte, reduceCtorEq, Nat.succ_ne_zero, elemsC, Int.reduceToNat, Nat.reducePow]) | (simp (disch := (first | omega | (simp only [AL, List.length_map]; omega))) only [AR, AL, ifT, ifF, take_all, List.length_cons, List.length_nil, Int.reduceToNat, Int.reducePow, Nat.reducePow]) | (refine wk_intro (by kernel_rfl) ?_) | (refine vp_draw (id := 3) (l := []) (by kernel_rfl) ?_) | (refine vf_of (by first | exact nm | exact ps) ?_))
      refine vp_loop_inv (fun s => s.tmp 1 = .sv (.int .i64 (w : Int)) ∧ s.tmp 4 = .ptr 4 0 0 ∧ s.obj 4 0 = some [.bool false, .sl 0 [], .bool false, .sl 0 []] ∧ s.tmp 6 = .ptr 6 0 0 ∧ s.obj 6 0 = some [.bool false, natV (lim s1), .bool false, natV (lim s2)] ∧ s.tmp 7 = .ptr 7 0 0 ∧ s.tmp 8 = .ptr 8 0 0 ∧
          ∃ (f i t1 t2 a1 a2 b1 b2 : Nat) (x y : Int), s.tmp 9 = .sv (.int .i64 (i : Int)) ∧ f + i = 1001 ∧ 1 ≤ i ∧ smGo w s1 s2 f i (decide (i % 2 = 1)) t1 t2 a1 a2 b1 b2 = some (A1, A2, B1, B2) ∧
            s.obj 8 0 = some [.bool false, natV (lim t1), .bool false, natV (lim t2)] ∧ s.obj 7 0 = some [.bool (decide (x < 0)), natV (lim x.natAbs), .bool (decide (y < 0)), natV (lim y.natAbs)] ∧
            x = (a1 : Int) - b2 ∧ y = (a2 : Int) - b1 ∧ t1 ≤ t2 ∧ t2 ≤ 2 ^ w ∧ a1 ≤ i * 2 ^ w ∧ a2 ≤ i * 2 ^ w ∧ b1 ≤ i * 2 ^ w ∧ b2 ≤ i * 2 ^ w)
        (fun s => match s.tmp 9 with | .sv (.int _ i) => 1002 - i.toNat | _ => 0) ⟨rfl, rfl, rfl, rfl, rfl, rfl, rfl, 1000, 1, y1, y2, y1, y2, 0, 0, (y1 : Int), (y2 : Int), rfl, rfl, by omega, hgo, rfl, ?_, by omega, by omega, y12, y2T, by omega, by omega, by omega, by omega⟩ ?_
      · rw [show decide ((y1 : Int) < 0) = false from decide_eq_false (by omega), show decide ((y2 : Int) < 0) = false from decide_eq_false (by omega), Int.natAbs_natCast, Int.natAbs_natCast]
        rfl
      rintro s ⟨i1, i4, o4, i6, o6, i7, i8, f, i, t1, t2, a1, a2, b1, b2, x, y, i9, hfi, hi, hg, o8, o7, hx, hy, g1, g2, g3, g4, g5, g6⟩
      cases f with
      | zero => simp only [smGo] at hg; cases hg
      | succ f =>
        have lt2 := lim_len_p2 g2 (by omega)
        have pp := ref4_ProdN (a := t1) (b := t2) (c := s1) (d := s2) (w := w) g1 s12 (by omega) (by omega) (by omega) hw0
        have u2t : cdv (t2 * s2) (2 ^ w) ≤ t2 := cdv_le hP (Nat.mul_le_mul_left _ s2T)
        have u12 : t1 * s1 / 2 ^ w ≤ cdv (t2 * s2) (2 ^ w) := by
          unfold cdv
          refine Nat.div_le_div_right ?_
          have := Nat.mul_le_mul g1 s12
          omega
        have hbig : i * 2 ^ w ≤ 2 ^ (w + 10) := by
          rw [Nat.pow_add, Nat.mul_comm (2 ^ w)]
          exact Nat.mul_le_mul_right _ (by omega)
        have hpl : (i + 1) * 2 ^ w = i * 2 ^ w + 2 ^ w := by rw [Nat.add_mul, Nat.one_mul]
        have hi2 : 2 ^ w ≤ i * 2 ^ w := Nat.le_mul_of_pos_left _ (by omega)
        have big2 : i * 2 ^ w + i * 2 ^ w ≤ 2 ^ (w + 11) := by rw [show w + 11 = w + 10 + 1 by omega, Nat.pow_succ]; omega
        have nz : 2 * i + 1 ≠ 0 := by omega
        have by1 := ref4_ByN (a := t1 * s1 / 2 ^ w) (b := cdv (t2 * s2) (2 ^ w)) (n := 2 * i + 1) (Nat.le_trans (lim_len_mono (Nat.le_trans u12 u2t)) (by omega)) (Nat.le_trans (lim_len_mono u2t) (by omega)) (by omega) (by omega)
        have x2u : cdv (cdv (t2 * s2) (2 ^ w)) (2 * i + 1) ≤ cdv (t2 * s2) (2 ^ w) := cdv_le (by omega) (Nat.le_mul_of_pos_right _ (by omega))
        have x12 : t1 * s1 / 2 ^ w / (2 * i + 1) ≤ cdv (cdv (t2 * s2) (2 ^ w)) (2 * i + 1) := div_le_cdv (by omega) u12
        have mo := ref4_MostN (a := t1 * s1 / 2 ^ w) (b := cdv (t2 * s2) (2 ^ w)) u12 (Nat.le_trans (lim_len_mono u2t) (by omega))
        have cc := ref4_CmpN (a := cdv (t2 * s2) (2 ^ w)) (b := 2) (Nat.le_trans (lim_len_mono u2t) (by omega)) (by omega)
        have ec : decide (cmpZ ((cdv (t2 * s2) (2 ^ w) : Nat) : Int) ((2 : Nat) : Int) ≤ 0) = decide (cdv (t2 * s2) (2 ^ w) ≤ 2) := by rw [cmpZ_le]; exact decide_eq_decide.2 (by omega)
        have tm : (i : Int).tmod 2 = ((i % 2 : Nat) : Int) := _root_.id rfl
        simp only [smGo, pin_eq] at hg
        generalize cmpZ ((cdv (t2 * s2) (2 ^ w) : Nat) : Int) ((2 : Nat) : Int) = z at *
        generalize t1 * s1 / 2 ^ w = u1 at *
        generalize cdv (t2 * s2) (2 ^ w) = u2 at *
        generalize u1 / (2 * i + 1) = x1 at *
        generalize cdv u2 (2 * i + 1) = x2 at *
        have lu2 := lim_len_p2 (Nat.le_trans u2t g2) (by omega)
        have lx2 := lim_len_mono x2u
        have lx1 := lim_len_mono x12
        have lx := lim_len_p2 (n := x.natAbs) (w := w + 10) (by omega) (by omega)
        have ly := lim_len_p2 (n := y.natAbs) (w := w + 10) (by omega) (by omega)
        rw [show ((2 * i + 1 : Nat) : Int) = 2 * (i : Int) + 1 by omega] at by1
        rcases Nat.mod_two_eq_zero_or_one i with hpar | hpar
        · rw [hpar] at tm
          rw [hpar, show decide ((0 : Nat) = 1) = false from rfl] at hg
          replace hg : (if u2 ≤ 2 then some (a1 + x1, a2 + x2, b1, b2) else smGo w s1 s2 f (i + 1) true u1 u2 (a1 + x1) (a2 + x2) b1 b2) = some (A1, A2, B1, B2) := hg
          have sm := ref4_SumN (x := x) (y := y) (c := x1) (d := x2) (by omega) (by omega) (by omega) (by omega)
          have lX := lim_len_p2 (n := (x + x1).natAbs) (w := w + 11) (by omega) (by omega)
          have lY := lim_len_p2 (n := (y + x2).natAbs) (w := w + 11) (by omega) (by omega)
          by_cases hu : u2 ≤ 2
          · rw [decide_eq_true hu] at ec
            rw [if_pos hu] at hg
            have wd := ref4_Wide (a := x + x1) (b := y + x2) (by omega) (by omega) 4 (by omega)
            simp only [Option.some.injEq, Prod.mk.injEq] at hg
            rw [show x + x1 - 4 = ((A1 - B2 - 4 : Nat) : Int) by omega, show y + x2 + 4 = ((A2 - B1 + 4 : Nat) : Int) by omega, ivN_eq] at wd
            generalize x + x1 = X at *
            generalize y + x2 = Y at *
            clear hg hx hy
            repeat (first | (simp only [go_sem, Nat.reduceEqDiff, Nat.reduceAdd, Nat.reduceSub, Nat.reduceMul, Nat.reduceLeDiff, Nat.reduceLT, reduceIte, reduceCtorEq, Nat.succ_ne_zero, elemsC, Int.reduceToNat, Nat.reducePow, i1, i4, o4, i6, o6, i7, i8, i9, o8, o7, tm, ec]) | (simp (disch := (first | omega | (simp only [AL, List.length_map]; omega))) only [AR, AL, ifT, ifF, take_all, List.length_cons, List.length_nil, Int.reduceToNat, Int.reducePow, Nat.reducePow, i1, i4, o4, i6, o6, i7, i8, i9, o8, o7, tm, ec]) | (refine wk_intro (by kernel_rfl) ?_) | (refine vp_draw (id := 3) (l := []) (by kernel_rfl) ?_) | (refine vf_of (by first | exact pp | exact by1 | exact sm | exact mo | exact w2 | exact cc | exact wd) ?_))
          · rw [decide_eq_false hu] at ec
            rw [if_neg hu] at hg
            have hpar' : decide ((i + 1) % 2 = 1) = true := decide_eq_true (by omega)
            rw [← hpar'] at hg
            generalize hX : x + x1 = X at *
            generalize hY : y + x2 = Y at *
            repeat (first | (simp only [go_sem, Nat.reduceEqDiff, Nat.reduceAdd, Nat.reduceSub, Nat.reduceMul, Nat.reduceLeDiff, Nat.reduceLT, reduceIte, reduceCtorEq, Nat.succ_ne_zero, elemsC, Int.reduceToNat, Nat.reducePow, i1, i4, o4, i6, o6, i7, i8, i9, o8, o7, tm, ec]) | (simp (disch := (first | omega | (simp only [AL, List.length_map]; omega))) only [AR, AL, ifT, ifF, take_all, List.length_cons, List.length_nil, Int.reduceToNat, Int.reducePow, Nat.reducePow, i1, i4, o4, i6, o6, i7, i8, i9, o8, o7, tm, ec]) | (refine wk_intro (by kernel_rfl) ?_) | (refine vp_draw (id := 3) (l := []) (by kernel_rfl) ?_) | (refine vf_of (by first | exact pp | exact by1 | exact sm | exact mo | exact w2 | exact cc) ?_))
            exact ⟨⟨f, i + 1, u1, u2, a1 + x1, a2 + x2, b1, b2, X, Y, rfl, by omega, by omega, hg, rfl, rfl, by omega, by omega, by omega, by omega, by omega, by omega, by omega, by omega⟩, by omega⟩
        · rw [hpar] at tm
          rw [hpar, show decide ((1 : Nat) = 1) = true from rfl] at hg
          replace hg : (if u2 ≤ 2 then some (a1, a2, b1 + x1, b2 + x2) else smGo w s1 s2 f (i + 1) false u1 u2 a1 a2 (b1 + x1) (b2 + x2)) = some (A1, A2, B1, B2) := hg
          have sm := ref4_MinusN (x := x) (y := y) (c := x1) (d := x2) (by omega) (by omega) (by omega) (by omega)
          have lX := lim_len_p2 (n := (x - x2).natAbs) (w := w + 11) (by omega) (by omega)
          have lY := lim_len_p2 (n := (y - x1).natAbs) (w := w + 11) (by omega) (by omega)
          by_cases hu : u2 ≤ 2
          · rw [decide_eq_true hu] at ec
            rw [if_pos hu] at hg
            have wd := ref4_Wide (a := x - x2) (b := y - x1) (by omega) (by omega) 4 (by omega)
            simp only [Option.some.injEq, Prod.mk.injEq] at hg
            rw [show x - x2 - 4 = ((A1 - B2 - 4 : Nat) : Int) by omega, show y - x1 + 4 = ((A2 - B1 + 4 : Nat) : Int) by omega, ivN_eq] at wd
            generalize x - x2 = X at *
            generalize y - x1 = Y at *
            clear hg hx hy
            repeat (first | (simp only [go_sem, Nat.reduceEqDiff, Nat.reduceAdd, Nat.reduceSub, Nat.reduceMul, Nat.reduceLeDiff, Nat.reduceLT, reduceIte, reduceCtorEq, Nat.succ_ne_zero, elemsC, Int.reduceToNat, Nat.reducePow, i1, i4, o4, i6, o6, i7, i8, i9, o8, o7, tm, ec]) | (simp (disch := (first | omega | (simp only [AL, List.length_map]; omega))) only [AR, AL, ifT, ifF, take_all, List.length_cons, List.length_nil, Int.reduceToNat, Int.reducePow, Nat.reducePow, i1, i4, o4, i6, o6, i7, i8, i9, o8, o7, tm, ec]) | (refine wk_intro (by kernel_rfl) ?_) | (refine vp_draw (id := 3) (l := []) (by kernel_rfl) ?_) | (refine vf_of (by first | exact pp | exact by1 | exact sm | exact mo | exact w2 | exact cc | exact wd) ?_))
          · rw [decide_eq_false hu] at ec
            rw [if_neg hu] at hg
            have hpar' : decide ((i + 1) % 2 = 1) = false := decide_eq_false (by omega)
            rw [← hpar'] at hg
            generalize hX : x - x2 = X at *
            generalize hY : y - x1 = Y at *
            repeat (first | (simp only [go_sem, Nat.reduceEqDiff, Nat.reduceAdd, Nat.reduceSub, Nat.reduceMul, Nat.reduceLeDiff, Nat.reduceLT, reduceIte, reduceCtorEq, Nat.succ_ne_zero, elemsC, Int.reduceToNat, Nat.reducePow, i1, i4, o4, i6, o6, i7, i8, i9, o8, o7, tm, ec]) | (simp (disch := (first | omega | (simp only [AL, List.length_map]; omega))) only [AR, AL, ifT, ifF, take_all, List.length_cons, List.length_nil, Int.reduceToNat, Int.reducePow, Nat.reducePow, i1, i4, o4, i6, o6, i7, i8, i9, o8, o7, tm, ec]) | (refine wk_intro (by kernel_rfl) ?_) | (refine vp_draw (id := 3) (l := []) (by kernel_rfl) ?_) | (refine vf_of (by first | exact pp | exact by1 | exact sm | exact mo | exact w2 | exact cc) ?_))
            exact ⟨⟨f, i + 1, u1, u2, a1, a2, b1 + x1, b2 + x2, X, Y, rfl, by omega, by omega, hg, rfl, rfl, by omega, by omega, by omega, by omega, by omega, by omega, by omega, by omega⟩, by omega⟩
    · rw [if_neg hfin] at hs; cases hs
  · cases hs
end
theorem ref8_part {n : Nat} (hn : n < 4294967296) : Go.Ev.Fn CX 154 [.int .u32 (n : Int)] (rv (mkRat 1 n)) := by
  have o := ref2_Of false [1] [n] (by simp [okL]) (by simp [okL]; exact hn) (by simp) (by simp)
  rw [show wth [1] = 1 from rfl, show wth [n] = n by simp [wth]] at o
  have o' : Go.Ev.Fn CX 37 [.bool false, .sl 1 [.int .u32 1], .sl 1 [.int .u32 (n : Int)]] (rv (mkRat 1 n)) := o
  clear o
  generalize mkRat 1 n = q at *
  refine Go.Ev.Fn.intro (fn := Tryz.f154) (body := (Tryz.f154).body.get!) (by kernel_rfl) (by kernel_rfl) (by kernel_rfl) (fun _ => rfl) (Nat.le_of_ble_eq_true (by kernel_rfl)) ?_; unfold Tryz.f154; simp only [Option.get!_some]
  repeat (first | (simp only [go_sem, Nat.reduceEqDiff, Nat.reduceAdd, Nat.reduceSub, Nat.reduceMul, Nat.reduceLeDiff, Nat.reduceLT, reduceIte, reduceCtorEq, Nat.succ_ne_zero, elemsC, Int.reduceToNat, Nat.reducePow]) | (simp (disch := (first | omega | (simp only [AL, List.length_map]; omega))) only [AR, AL, ifT, ifF, take_all, List.length_cons, List.length_nil, Int.reduceToNat, Int.reducePow, Nat.reducePow]) | (refine wk_intro (by kernel_rfl) ?_) | (refine vf_of (by first | exact o') ?_))
theorem ref4_OftenN {a b n : Nat} (ha : (lim a).length ≤ 100000) (hb : (lim b).length ≤ 100000) (hn : n < 4294967296) : Go.Ev.Fn CX 155 [ivN a b, .int .i64 (n : Int)] (ivN (a * n) (b * n)) := by
  have h := ref4_Often (a := (a : Int)) (b := (b : Int)) (by rw [Int.natAbs_natCast]; omega) (by rw [Int.natAbs_natCast]; omega) (n : Int) (by omega)
  rw [← Int.natCast_mul, ← Int.natCast_mul, ivN_eq, ivN_eq] at h
  exact h
theorem ref4_BackN {a b n : Nat} (ha : (lim a).length ≤ 100000) (hb : (lim b).length ≤ 100000) (hn : n ≤ 4096) (h0 : 0 < n) : Go.Ev.Fn CX 91 [ivN a b, .int .i64 (n : Int)] (ivN (a / 2 ^ n) (cdv b (2 ^ n))) := by
  have h := ref4_Back (a := (a : Int)) (b := (b : Int)) (by rw [Int.natAbs_natCast]; omega) (by rw [Int.natAbs_natCast]; omega) n hn h0
  rw [cdZ_nat (Nat.pow_pos (by omega)), ← Int.natCast_ediv, ivN_eq, ivN_eq] at h
  exact h
/-- An angle's interval is no wider than so. -/
theorem smGo_bd {w s1 s2 T : Nat} (hs1 : s1 ≤ 2 ^ w) (hs : s2 ≤ 2 ^ w) : ∀ (f i : Nat) (odd : Bool) (t1 t2 a1 a2 b1 b2 : Nat) {A1 A2 B1 B2 : Nat}, smGo w s1 s2 f i odd t1 t2 a1 a2 b1 b2 = some (A1, A2, B1, B2) → t1 ≤ T → t2 ≤ T → A1 ≤ a1 + f * T ∧ A2 ≤ a2 + f * T := by
  intro f
  induction f with
  | zero => intro i odd t1 t2 a1 a2 b1 b2 A1 A2 B1 B2 h; simp only [smGo] at h; cases h
  | succ f ih =>
    intro i odd t1 t2 a1 a2 b1 b2 A1 A2 B1 B2 h ht1 ht
    have hP : 0 < 2 ^ w := Nat.pow_pos (by omega)
    have u1t : t1 * s1 / 2 ^ w ≤ t1 := (Nat.div_le_iff_le_mul hP).2 (by have := Nat.mul_le_mul_left t1 hs1; omega)
    have x1u := Nat.div_le_self (t1 * s1 / 2 ^ w) (2 * i + 1)
    have u2t : cdv (t2 * s2) (2 ^ w) ≤ t2 := cdv_le hP (Nat.mul_le_mul_left _ hs)
    have x2u : cdv (cdv (t2 * s2) (2 ^ w)) (2 * i + 1) ≤ cdv (t2 * s2) (2 ^ w) := cdv_le (by omega) (Nat.le_mul_of_pos_right _ (by omega))
    simp only [smGo, pin_eq] at h
    generalize cdv (t2 * s2) (2 ^ w) = u2 at *
    generalize cdv u2 (2 * i + 1) = x2 at *
    generalize t1 * s1 / 2 ^ w = u1 at *
    generalize u1 / (2 * i + 1) = x1 at *
    rw [Nat.add_mul, Nat.one_mul]
    cases odd with
    | true =>
      replace h : (if u2 ≤ 2 then some (a1, a2, b1 + x1, b2 + x2) else smGo w s1 s2 f (i + 1) false u1 u2 a1 a2 (b1 + x1) (b2 + x2)) = some (A1, A2, B1, B2) := h
      split at h
      · simp only [Option.some.injEq, Prod.mk.injEq] at h
        omega
      · have := ih _ _ _ _ _ _ _ _ h (by omega) (by omega)
        omega
    | false =>
      replace h : (if u2 ≤ 2 then some (a1 + x1, a2 + x2, b1, b2) else smGo w s1 s2 f (i + 1) true u1 u2 (a1 + x1) (a2 + x2) b1 b2) = some (A1, A2, B1, B2) := h
      split at h
      · simp only [Option.some.injEq, Prod.mk.injEq] at h
        omega
      · have := ih _ _ _ _ _ _ _ _ h (by omega) (by omega)
        omega
theorem smF_bd {d w A B : Nat} (hd : 0 < d) (hw : w ≤ 900) (h : smF d w = some (A, B)) : (lim A).length ≤ 50 ∧ (lim B).length ≤ 50 := by
  unfold smF at h
  rw [pin_eq, pin_eq, pin_eq, pin_eq] at h
  have hP : 0 < 2 ^ w := Nat.pow_pos (by omega)
  have y2T : cdv (2 ^ w) d ≤ 2 ^ w := cdv_le hd (Nat.le_mul_of_pos_right _ hd)
  have s2T : cdv (cdv (2 ^ w) d * cdv (2 ^ w) d) (2 ^ w) ≤ 2 ^ w := cdv_le hP (Nat.mul_le_mul y2T y2T)
  split at h
  · rename_i A1 A2 B1 B2 hgo
    have y1T : 2 ^ w / d ≤ 2 ^ w := Nat.div_le_self _ _
    have s1T : 2 ^ w / d * (2 ^ w / d) / 2 ^ w ≤ 2 ^ w := (Nat.div_le_iff_le_mul hP).2 (by have := Nat.mul_le_mul y1T y1T; omega)
    have hb := smGo_bd s1T s2T _ _ _ _ _ _ _ _ _ hgo y1T y2T
    split at h
    · simp only [Option.some.injEq, Prod.mk.injEq] at h
      have hbig : 2 ^ w * 2048 = 2 ^ (w + 11) := by rw [Nat.pow_add]
      have l1 := lim_len_p2 (n := B - 4) (w := w + 11) (by omega) (by omega)
      have l2 : (lim B).length ≤ 41 := Nat.le_trans (lim_len_mono (show B ≤ (B - 4) + 4 by omega)) (lim_len_add (L := 40) l1 (Nat.le_trans (lim_len_one (by decide)) (by omega)))
      exact ⟨Nat.le_trans (lim_len_p2 (n := A) (w := w + 11) (by omega) (by omega)) (by omega), by omega⟩
    · cases h
  · cases h
theorem ref8_PiIv {w lo hi : Nat} (hw : w ≤ 390) (h : piIv w = some (lo, hi)) : Go.Ev.Fn CX 88 [.int .i64 (w : Int)] (ivN lo hi) := by
  unfold piIv at h
  split at h
  · rename_i a1 a2 b1 b2 h1 h2
    split at h
    · rename_i hc
      obtain ⟨rfl, rfl⟩ : (a1 * 16 - b2 * 4) / 2 ^ 10 = lo ∧ cdv (a2 * 16 - b1 * 4) (2 ^ 10) = hi := by simpa using h
      clear h
      have p5 := ref8_part (n := 5) (by omega)
      have p239 := ref8_part (n := 239) (by omega)
      have z5 : szR (mkRat 1 5) 2 := ⟨lim_len_lt (by decide +kernel), lim_len_lt (by decide +kernel)⟩
      have z239 : szR (mkRat 1 239) 2 := ⟨lim_len_lt (by decide +kernel), lim_len_lt (by decide +kernel)⟩
      have s5 := ref8_small (d := 5) (RatA_rv z5) (by decide +kernel) (by decide +kernel) (by omega) (by omega) (by omega) h1
      have s239 := ref8_small (d := 239) (RatA_rv z239) (by decide +kernel) (by decide +kernel) (by omega) (by omega) (by omega) h2
      obtain ⟨g1, g2⟩ := smF_bd (by omega) (by omega) h1
      obtain ⟨g3, g4⟩ := smF_bd (by omega) (by omega) h2
      have o1 := ref4_OftenN (a := a1) (b := a2) (n := 16) (by omega) (by omega) (by omega)
      have o2 := ref4_OftenN (a := b1) (b := b2) (n := 4) (by omega) (by omega) (by omega)
      have l16 : (lim 16).length ≤ 1 := lim_len_one (by decide)
      have l4 : (lim 4).length ≤ 1 := lim_len_one (by decide)
      have e1 := lim_len_mul (a := a1) (b := 16)
      have e2 := lim_len_mul (a := a2) (b := 16)
      have e3 := lim_len_mul (a := b1) (b := 4)
      have e4 := lim_len_mul (a := b2) (b := 4)
      have m := ref4_MinusN (x := ((a1 * 16 : Nat) : Int)) (y := ((a2 * 16 : Nat) : Int)) (c := b1 * 4) (d := b2 * 4) (by rw [Int.natAbs_natCast]; omega) (by rw [Int.natAbs_natCast]; omega) (by omega) (by omega)
      rw [← Int.ofNat_sub hc.1, ← Int.ofNat_sub hc.2, ivN_eq, ivN_eq] at m
      have l5 := lim_len_mono (Nat.sub_le (a1 * 16) (b2 * 4))
      have l6 := lim_len_mono (Nat.sub_le (a2 * 16) (b1 * 4))
      have bk := ref4_BackN (a := a1 * 16 - b2 * 4) (b := a2 * 16 - b1 * 4) (n := 10) (by omega) (by omega) (by omega) (by omega)
      generalize (a1 * 16 - b2 * 4) / 2 ^ 10 = x at *
      generalize cdv (a2 * 16 - b1 * 4) (2 ^ 10) = y at *
      generalize a1 * 16 - b2 * 4 = x1 at *
      generalize a2 * 16 - b1 * 4 = x2 at *
      generalize a1 * 16 = x3 at *
      generalize a2 * 16 = x4 at *
      generalize b1 * 4 = x5 at *
      generalize b2 * 4 = x6 at *
      generalize mkRat 1 5 = q5 at *
      generalize mkRat 1 239 = q239 at *
      rw [show ((w + 10 : Nat) : Int) = (w : Int) + 10 by omega] at s5 s239
      refine Go.Ev.Fn.intro (fn := Tryz.f88) (body := (Tryz.f88).body.get!) (by kernel_rfl) (by kernel_rfl) (by kernel_rfl) (fun _ => rfl) (Nat.le_of_ble_eq_true (by kernel_rfl)) ?_; unfold Tryz.f88; simp only [Option.get!_some]
      repeat (first | (simp only [go_sem, Nat.reduceEqDiff, Nat.reduceAdd, Nat.reduceSub, Nat.reduceMul, Nat.reduceLeDiff, Nat.reduceLT, reduceIte, reduceCtorEq, Nat.succ_ne_zero, elemsC, Int.reduceToNat, Nat.reducePow]) | (simp (disch := (first | omega | (simp only [AL, List.length_map]; omega))) only [AR, AL, ifT, ifF, take_all, List.length_cons, List.length_nil, Int.reduceToNat, Int.reducePow, Nat.reducePow]) | (refine wk_intro (by kernel_rfl) ?_) | (refine vp_draw (id := 2) (l := []) (by kernel_rfl) ?_) | (refine vf_of (by first | exact p5 | exact s5 | exact p239 | exact s239 | exact o1 | exact o2 | exact m | exact bk) ?_))
    · cases h
  · cases h
end Go.Proofs.YthbjgdmcnonofaaGreat

/- arcs: angle, pi, held, Pi; fix.Certain, in the evaluator. -/
namespace Go.Proofs.YthbjgdmcnonofaaGreat
set_option linter.unusedSimpArgs false
set_option linter.unusedVariables false
set_option maxRecDepth 8000
open Go.Ev
theorem times_le {x k : Nat} : (x + 1) * (2 * k) / (2 * k + 1) + 1 ≤ x + 2 := by
  have h : (x + 1) * (2 * k) / (2 * k + 1) ≤ x + 1 := (Nat.div_le_iff_le_mul (by omega)).2 (by have := Nat.mul_le_mul_left (x + 1) (show 2 * k ≤ 2 * k + 1 by omega); omega)
  omega
set_option maxHeartbeats 1000000 in
theorem arcs_angle {n d w A B : Nat} (hn : n ≤ 1000) (hd : d ≤ 1000) (hd0 : 0 < d) (hw : w ≤ 400) (hw0 : 0 < w) (h : angF n d w = some (A, B)) : Go.Ev.Fn CX 141 [natV (lim n), natV (lim d), .int .i64 (w : Int)] (spanV A B) := by
  unfold angF at h
  rw [pin_eq, pin_eq] at h
  have ln : (lim n).length ≤ 1 := lim_len_one (by omega)
  have ld : (lim d).length ≤ 1 := lim_len_one (by omega)
  have m1 := nat_MulL (N := n) (D := n) (by omega) (by omega)
  have m2 := nat_MulL (N := d) (D := d) (by omega) (by omega)
  have m3 := nat_MulL (N := n) (D := d) (by omega) (by omega)
  have lnn := lim_len_mul (a := n) (b := n)
  have ldd := lim_len_mul (a := d) (b := d)
  have lnd := lim_len_mul (a := n) (b := d)
  have s1 := nat_AddL (N := n * n) (D := d * d) (by omega) (by omega)
  have lsq := lim_len_add (a := n * n) (b := d * d) (L := 2) (by omega) (by omega)
  have hdd : 0 < d * d := Nat.mul_pos hd0 hd0
  have hnd : n * d ≤ n * n + d * d := by
    rcases Nat.le_total n d with g | g
    · have := Nat.mul_le_mul_right d g; omega
    · have := Nat.mul_le_mul_left n g; omega
  have o1 := fix_Of (n := n * n) (d := n * n + d * d) (w := w) (by omega) (by omega) (by omega) (by omega)
  have o2 := fix_Of (n := n * d) (d := n * n + d * d) (w := w) (by omega) (by omega) (by omega) (by omega)
  have hb1 : n * n * 2 ^ w / (n * n + d * d) < 2 ^ w := by
    rw [Nat.div_lt_iff_lt_mul (by omega), Nat.mul_comm (2 ^ w)]
    exact Nat.mul_lt_mul_of_pos_right (by omega) (Nat.pow_pos (by omega))
  have ht1 : n * d * 2 ^ w / (n * n + d * d) ≤ 2 ^ w := (Nat.div_le_iff_le_mul (by omega)).2 (by have := Nat.mul_le_mul_right (2 ^ w) hnd; rw [Nat.mul_comm (2 ^ w)]; omega)
  generalize n * n * 2 ^ w / (n * n + d * d) = b1 at *
  generalize n * d * 2 ^ w / (n * n + d * d) = t0 at *
  generalize n * n + d * d = sq at *
  generalize n * n = nn at *
  generalize d * d = dd at *
  generalize n * d = nd at *
  have hP : 0 < 2 ^ w := Nat.pow_pos (by omega)
  have lb := lim_len_p2 (n := b1) (w := w) (by omega) (by omega)
  have lb2 := lim_len_p2 (n := b1 + 1) (w := w) (by omega) (by omega)
  have big : 2 ^ w * 2048 = 2 ^ (w + 11) := by rw [Nat.pow_add]
  have big2 : 2 ^ (w + 11) * 2048 = 2 ^ (w + 22) := by rw [show w + 22 = (w + 11) + 11 by omega, Nat.pow_add 2 (w + 11) 11]
  refine Go.Ev.Fn.intro (fn := Tryz.f141) (body := (Tryz.f141).body.get!) (by kernel_rfl) (by kernel_rfl) (by kernel_rfl) (fun _ => rfl) (Nat.le_of_ble_eq_true (by kernel_rfl)) ?_; unfold Tryz.f141; simp only [Option.get!_some]
  repeat (first | (simp only [go_sem, Nat.reduceEqDiff, Nat.reduceAdd, Nat.reduceSub, Nat.reduceMul, Nat.reduceLeDiff, Nat.reduceLT, reduceIte, reduceCtorEq, Nat.succ_ne_zero, elemsC, Int.reduceToNat, Nat.reducePow]) | (simp (disch := (first | omega | (simp only [AL, List.length_map]; omega))) only [AR, AL, ifT, ifF, take_all, List.length_cons, List.length_nil, Int.reduceToNat, Int.reducePow, Nat.reducePow]) | (refine wk_intro (by kernel_rfl) ?_) | (refine vf_of (by first | exact m1 | exact m2 | exact s1 | exact o1 | exact m3 | exact o2) ?_))
  refine vp_loop_inv (fun s => s.tmp 2 = .sv (.int .i64 (w : Int)) ∧ s.tmp 6 = .ptr 6 0 0 ∧ s.obj 6 0 = some [.sl 0 [], .sl 0 []] ∧ s.tmp 8 = .ptr 8 0 0 ∧ s.obj 8 0 = some [natV (lim b1), natV (lim (b1 + 1))] ∧ s.tmp 9 = .ptr 9 0 0 ∧ s.tmp 10 = .ptr 10 0 0 ∧
      ∃ f k t1 t2 a1 a2 : Nat, s.tmp 11 = .sv (.int .u64 (k : Int)) ∧ f + k = 1001 ∧ 1 ≤ k ∧ angGo w b1 (b1 + 1) f k t1 t2 a1 a2 = some (A, B) ∧ s.obj 9 0 = some [natV (lim t1), natV (lim t2)] ∧ s.obj 10 0 = some [natV (lim a1), natV (lim a2)] ∧
        t1 ≤ t2 ∧ t2 ≤ 2 ^ w + 2 * k ∧ a1 ≤ a2 ∧ a2 ≤ k * 2 ^ (w + 11))
    (fun s => match s.tmp 11 with | .sv (.int _ i) => 1002 - i.toNat | _ => 0) ⟨rfl, rfl, rfl, rfl, rfl, rfl, rfl, 1000, 1, t0, t0 + 1, t0, t0 + 1, rfl, rfl, by omega, h, rfl, rfl, by omega, by omega, by omega, by omega⟩ ?_
  rintro s ⟨i2, i6, o6, i8, o8, i9, i10, f, k, t1, t2, a1, a2, i11, hfk, hk, hg, o9, o10, g1, g2, g3, g4⟩
  have hk2 : k * 2 ^ (w + 11) ≤ 1001 * 2 ^ (w + 11) := Nat.mul_le_mul_right _ (by omega)
  have lt2 := lim_len_p2 (n := t2) (w := w + 11) (by omega) (by omega)
  have lt1 := lim_len_p2 (n := t1) (w := w + 11) (by omega) (by omega)
  have la2 := lim_len_p2 (n := a2) (w := w + 22) (by omega) (by omega)
  have la1 := lim_len_p2 (n := a1) (w := w + 22) (by omega) (by omega)
  have sm := fix_Small (a := t1) (b := t2) (by omega) (k := 2) (by omega)
  cases f with
  | zero => simp only [angGo] at hg; cases hg
  | succ f =>
    rw [angGo] at hg
    simp only [pin_eq] at hg
    by_cases hs : t2 < 2 ^ 2
    · rw [decide_eq_true hs] at sm
      rw [if_pos (show t2 < 4 from hs)] at hg
      obtain ⟨rfl, rfl⟩ : a1 = A ∧ a2 + 8 = B := by simpa using hg
      have wd := fix_Wider (a := a1) (b := a2) (n := 8) (by omega) (by omega) (by omega)
      clear hg
      repeat (first | (simp only [go_sem, Nat.reduceEqDiff, Nat.reduceAdd, Nat.reduceSub, Nat.reduceMul, Nat.reduceLeDiff, Nat.reduceLT, reduceIte, reduceCtorEq, Nat.succ_ne_zero, elemsC, Int.reduceToNat, Nat.reducePow, i2, i6, o6, i8, o8, i9, i10, i11, o9, o10, Bool.not_true]) | (simp (disch := (first | omega | (simp only [AL, List.length_map]; omega))) only [AR, AL, ifT, ifF, take_all, List.length_cons, List.length_nil, Int.reduceToNat, Int.reducePow, Nat.reducePow, i2, i6, o6, i8, o8, i9, i10, i11, o9, o10, Bool.not_true]) | (refine wk_intro (by kernel_rfl) ?_) | (refine vf_of (by first | exact sm | exact wd) ?_))
    · rw [decide_eq_false hs] at sm
      rw [if_neg (show ¬ t2 < 4 from hs)] at hg
      have mu := fix_Mul (a := t1) (b := t2) (c := b1) (d := b1 + 1) (w := w) (by omega) (by omega) (by omega) (by omega) (by omega) hw0
      have q1 := nat_Of (2 * k) (by omega)
      have q2 := nat_Of (2 * k + 1) (by omega)
      have l1 : (lim (2 * k)).length ≤ 1 := lim_len_one (by omega)
      have l2 : (lim (2 * k + 1)).length ≤ 1 := lim_len_one (by omega)
      have hx : t2 * (b1 + 1) / 2 ^ w ≤ t2 := (Nat.div_le_iff_le_mul hP).2 (by have := Nat.mul_le_mul_left t2 (show b1 + 1 ≤ 2 ^ w by omega); omega)
      have hy : t1 * b1 / 2 ^ w ≤ t2 * (b1 + 1) / 2 ^ w := Nat.div_le_div_right (Nat.mul_le_mul g1 (by omega))
      generalize t1 * b1 / 2 ^ w = x1 at *
      generalize t2 * (b1 + 1) / 2 ^ w = x2 at *
      have lx2 := lim_len_p2 (n := x2 + 1) (w := w + 11) (by omega) (by omega)
      have lx1 := lim_len_p2 (n := x1) (w := w + 11) (by omega) (by omega)
      have ti := fix_Times (a := x1) (b := x2 + 1) (n := 2 * k) (d := 2 * k + 1) (by omega) (by omega) (by omega) (by omega) (by omega)
      have hz := times_le (x := x2) (k := k)
      have hz2 : x1 * (2 * k) / (2 * k + 1) ≤ (x2 + 1) * (2 * k) / (2 * k + 1) + 1 := Nat.le_succ_of_le (Nat.div_le_div_right (Nat.mul_le_mul_right _ (by omega)))
      generalize x1 * (2 * k) / (2 * k + 1) = u1 at *
      generalize (x2 + 1) * (2 * k) / (2 * k + 1) + 1 = u2 at *
      have lu2 := lim_len_p2 (n := u2) (w := w + 11) (by omega) (by omega)
      have lu1 := lim_len_p2 (n := u1) (w := w + 11) (by omega) (by omega)
      have ad := fix_Add (a := a1) (b := a2) (c := u1) (d := u2) (by omega) (by omega) (by omega) (by omega)
      have e1 : ((2 * k : Nat) : Int) = 2 * (k : Int) := by omega
      have e2 : ((2 * k + 1 : Nat) : Int) = 2 * (k : Int) + 1 := by omega
      rw [e1] at q1
      rw [e2] at q2
      repeat (first | (simp only [go_sem, Nat.reduceEqDiff, Nat.reduceAdd, Nat.reduceSub, Nat.reduceMul, Nat.reduceLeDiff, Nat.reduceLT, reduceIte, reduceCtorEq, Nat.succ_ne_zero, elemsC, Int.reduceToNat, Nat.reducePow, i2, i6, o6, i8, o8, i9, i10, i11, o9, o10, Bool.not_false]) | (simp (disch := (first | omega | (simp only [AL, List.length_map]; omega))) only [AR, AL, ifT, ifF, take_all, List.length_cons, List.length_nil, Int.reduceToNat, Int.reducePow, Nat.reducePow, i2, i6, o6, i8, o8, i9, i10, i11, o9, o10, Bool.not_false]) | (refine wk_intro (by kernel_rfl) ?_) | (refine vf_of (by first | exact sm | exact mu | exact q1 | exact q2 | exact ti | exact ad) ?_))
      exact ⟨⟨f, k + 1, u1, u2, a1 + u1, a2 + u2, rfl, by omega, by omega, hg, rfl, rfl, by omega, by omega, by omega, by rw [Nat.add_mul, Nat.one_mul]; omega⟩, by omega⟩
theorem fix_Certain1 {p sp lo hi : Nat} {f : FuncId} (hf : Go.Ev.Fn CX f [.int .i64 ((p + sp : Nat) : Int)] (spanV lo hi)) (hlo : (lim lo).length ≤ 1000) (hhi : (lim hi).length ≤ 1000) (hp : p ≤ 10000) (hsp : sp ≤ 1000) (hs0 : 0 < sp) (hc : lo / 2 ^ sp = (hi - 1) / 2 ^ sp) :
    Go.Ev.Fn CX 72 [.int .i64 (p : Int), .int .i64 (sp : Int), .fn f []] (ballR (mkRat ((lo / 2 ^ sp : Nat) : Int) (2 ^ p)) (mkRat ((lo / 2 ^ sp + 1 : Nat) : Int) (2 ^ p))) := by
  have fl := fix_Floor (a := lo) (b := hi) (w := p + sp) (p := p) (by omega) (by omega) (by omega) (by omega)
  rw [Nat.add_sub_cancel_left, decide_eq_true hc] at fl
  have o := fix_One
  have l1 := lim_len1
  have sh := fix_shl (a := 1) (m := p) (by omega) (by omega)
  have lp := lim_len_shl (a := 1) (n := p)
  rw [Nat.one_mul] at sh lp
  have ll := lim_len_mono (Nat.div_le_self lo (2 ^ sp))
  have n1 := fix_Next (a := lo / 2 ^ sp) (by omega)
  have l2 := lim_len_add (a := lo / 2 ^ sp) (b := 1) (L := 1000) (by omega) (by omega)
  have r1 := rat_OfL (s := false) (n := lo / 2 ^ sp) (d := 2 ^ p) (by omega) (by omega)
  have r2 := rat_OfL (s := false) (n := lo / 2 ^ sp + 1) (d := 2 ^ p) (by omega) (by omega)
  rw [show sgn false (lo / 2 ^ sp) = ((lo / 2 ^ sp : Nat) : Int) from rfl] at r1
  rw [show sgn false (lo / 2 ^ sp + 1) = ((lo / 2 ^ sp + 1 : Nat) : Int) from rfl] at r2
  generalize mkRat ((lo / 2 ^ sp : Nat) : Int) (2 ^ p) = q1 at *
  generalize mkRat ((lo / 2 ^ sp + 1 : Nat) : Int) (2 ^ p) = q2 at *
  generalize lo / 2 ^ sp + 1 = a' at *
  generalize lo / 2 ^ sp = a at *
  generalize 2 ^ p = P at *
  rw [show ((p + sp : Nat) : Int) = (p : Int) + (sp : Int) from rfl] at hf fl
  refine Go.Ev.Fn.intro (fn := Tryz.f72) (body := (Tryz.f72).body.get!) (by kernel_rfl) (by kernel_rfl) (by kernel_rfl) (fun _ => rfl) (Nat.le_of_ble_eq_true (by kernel_rfl)) ?_; unfold Tryz.f72; simp only [Option.get!_some]
  repeat (first | (simp only [go_sem, Nat.reduceEqDiff, Nat.reduceAdd, Nat.reduceSub, Nat.reduceMul, Nat.reduceLeDiff, Nat.reduceLT, reduceIte, reduceCtorEq, Nat.succ_ne_zero, elemsC, Int.reduceToNat, Nat.reducePow]) | (simp (disch := (first | omega | (simp only [AL, List.length_map]; omega))) only [AR, AL, ifT, ifF, take_all, List.length_cons, List.length_nil, Int.reduceToNat, Int.reducePow, Nat.reducePow]) | (refine wk_intro (by kernel_rfl) ?_))
  refine vp_loop_inv (fun s => s.tmp 0 = .sv (.int .i64 (p : Int)) ∧ s.tmp 2 = .sv (.fn f []) ∧ s.tmp 6 = .ptr 6 0 0 ∧ s.obj 6 0 = some [.bool false, .sl 0 [], .sl 0 [], .bool false, .sl 0 [], .sl 0 []] ∧ s.tmp 7 = .sv (.int .i64 ((p : Int) + (sp : Int)))) (fun _ => 0) ⟨rfl, rfl, rfl, rfl, rfl⟩ ?_
  rintro s ⟨i0, i2, i6, o6, i7⟩
  repeat (first | (simp only [go_sem, Nat.reduceEqDiff, Nat.reduceAdd, Nat.reduceSub, Nat.reduceMul, Nat.reduceLeDiff, Nat.reduceLT, reduceIte, reduceCtorEq, Nat.succ_ne_zero, elemsC, Int.reduceToNat, Nat.reducePow, i0, i2, i6, o6, i7]) | (simp (disch := (first | omega | (simp only [AL, List.length_map]; omega))) only [AR, AL, ifT, ifF, take_all, List.length_cons, List.length_nil, Int.reduceToNat, Int.reducePow, Nat.reducePow, i0, i2, i6, o6, i7]) | (refine wk_intro (by kernel_rfl) ?_) | (refine vf_of (by first | exact hf | exact fl | exact o | exact sh | exact r1 | exact n1 | exact r2) ?_))
theorem arcs_held (p : Int) : Go.Ev.Fn CX 73 [.int .i64 p] (.int .i64 (if p < 0 then 0 else if 512 < p then 512 else p)) := by
  by_cases h1 : p < 0
  · rw [if_pos h1]
    have e1 : (if (0 : Int) > p then (0 : Int) else p) = 0 := if_pos (by omega)
    refine Go.Ev.Fn.intro (fn := Tryz.f73) (body := (Tryz.f73).body.get!) (by kernel_rfl) (by kernel_rfl) (by kernel_rfl) (fun _ => rfl) (Nat.le_of_ble_eq_true (by kernel_rfl)) ?_; unfold Tryz.f73; simp only [Option.get!_some]
    repeat (first | (simp only [go_sem, Nat.reduceEqDiff, Nat.reduceAdd, Nat.reduceSub, Nat.reduceMul, Nat.reduceLeDiff, Nat.reduceLT, reduceIte, reduceCtorEq, Nat.succ_ne_zero, elemsC, Int.reduceToNat, Nat.reducePow, e1]) | (simp (disch := (first | omega | (simp only [AL, List.length_map]; omega))) only [AR, AL, ifT, ifF, take_all, List.length_cons, List.length_nil, Int.reduceToNat, Int.reducePow, Nat.reducePow, e1]) | (refine wk_intro (by kernel_rfl) ?_))
  · rw [if_neg h1]
    have e1 : (if (0 : Int) > p then (0 : Int) else p) = p := if_neg (by omega)
    by_cases h2 : 512 < p
    · rw [if_pos h2]
      have e2 : (if (512 : Int) < p then (512 : Int) else p) = 512 := if_pos h2
      refine Go.Ev.Fn.intro (fn := Tryz.f73) (body := (Tryz.f73).body.get!) (by kernel_rfl) (by kernel_rfl) (by kernel_rfl) (fun _ => rfl) (Nat.le_of_ble_eq_true (by kernel_rfl)) ?_; unfold Tryz.f73; simp only [Option.get!_some]
      repeat (first | (simp only [go_sem, Nat.reduceEqDiff, Nat.reduceAdd, Nat.reduceSub, Nat.reduceMul, Nat.reduceLeDiff, Nat.reduceLT, reduceIte, reduceCtorEq, Nat.succ_ne_zero, elemsC, Int.reduceToNat, Nat.reducePow, e1, e2]) | (simp (disch := (first | omega | (simp only [AL, List.length_map]; omega))) only [AR, AL, ifT, ifF, take_all, List.length_cons, List.length_nil, Int.reduceToNat, Int.reducePow, Nat.reducePow, e1, e2]) | (refine wk_intro (by kernel_rfl) ?_))
    · rw [if_neg h2]
      have e2 : (if (512 : Int) < p then (512 : Int) else p) = p := if_neg h2
      refine Go.Ev.Fn.intro (fn := Tryz.f73) (body := (Tryz.f73).body.get!) (by kernel_rfl) (by kernel_rfl) (by kernel_rfl) (fun _ => rfl) (Nat.le_of_ble_eq_true (by kernel_rfl)) ?_; unfold Tryz.f73; simp only [Option.get!_some]
      repeat (first | (simp only [go_sem, Nat.reduceEqDiff, Nat.reduceAdd, Nat.reduceSub, Nat.reduceMul, Nat.reduceLeDiff, Nat.reduceLT, reduceIte, reduceCtorEq, Nat.succ_ne_zero, elemsC, Int.reduceToNat, Nat.reducePow, e1, e2]) | (simp (disch := (first | omega | (simp only [AL, List.length_map]; omega))) only [AR, AL, ifT, ifF, take_all, List.length_cons, List.length_nil, Int.reduceToNat, Int.reducePow, Nat.reducePow, e1, e2]) | (refine wk_intro (by kernel_rfl) ?_))
theorem angGo_bd {w b1 b2 T : Nat} (hb : b1 ≤ b2) (hb2 : b2 ≤ 2 ^ w) : ∀ (f k t1 t2 a1 a2 : Nat) {A B : Nat}, angGo w b1 b2 f k t1 t2 a1 a2 = some (A, B) → t1 ≤ t2 → t2 + 2 * f ≤ T → a1 ≤ a2 → A ≤ B ∧ B ≤ a2 + f * T + 8 := by
  intro f
  induction f with
  | zero => intro k t1 t2 a1 a2 A B h; simp only [angGo] at h; cases h
  | succ f ih =>
    intro k t1 t2 a1 a2 A B h ht hT ha
    have hP : 0 < 2 ^ w := Nat.pow_pos (by omega)
    rw [angGo] at h
    simp only [pin_eq] at h
    rw [Nat.add_mul, Nat.one_mul]
    by_cases hs : t2 < 4
    · rw [if_pos hs] at h
      obtain ⟨rfl, rfl⟩ : a1 = A ∧ a2 + 8 = B := by simpa using h
      omega
    · rw [if_neg hs] at h
      have hx : t2 * b2 / 2 ^ w ≤ t2 := (Nat.div_le_iff_le_mul hP).2 (by have := Nat.mul_le_mul_left t2 hb2; omega)
      have hy : t1 * b1 / 2 ^ w ≤ t2 * b2 / 2 ^ w := Nat.div_le_div_right (Nat.mul_le_mul ht hb)
      have hz := times_le (x := t2 * b2 / 2 ^ w) (k := k)
      have hz2 : t1 * b1 / 2 ^ w * (2 * k) / (2 * k + 1) ≤ (t2 * b2 / 2 ^ w + 1) * (2 * k) / (2 * k + 1) + 1 := Nat.le_succ_of_le (Nat.div_le_div_right (Nat.mul_le_mul_right _ (by omega)))
      generalize t1 * b1 / 2 ^ w * (2 * k) / (2 * k + 1) = u1 at *
      generalize (t2 * b2 / 2 ^ w + 1) * (2 * k) / (2 * k + 1) + 1 = u2 at *
      have := ih _ _ _ _ _ h hz2 (by omega) (by omega)
      omega
theorem angF_bd {n d w A B : Nat} (hn0 : 0 < n) (hnd : n ≤ d) (hw : w ≤ 900) (hw0 : 11 ≤ w) (h : angF n d w = some (A, B)) : (lim A).length ≤ 40 ∧ (lim B).length ≤ 40 := by
  unfold angF at h
  rw [pin_eq, pin_eq] at h
  have hP : 0 < 2 ^ w := Nat.pow_pos (by omega)
  have h1 := Nat.mul_le_mul hnd hnd
  have h2 : n * d ≤ d * d := Nat.mul_le_mul_right _ hnd
  have h3 : 0 < n * n := Nat.mul_pos hn0 hn0
  have hb1 : n * n * 2 ^ w / (n * n + d * d) < 2 ^ w := by
    rw [Nat.div_lt_iff_lt_mul (by omega), Nat.mul_comm (2 ^ w)]
    exact Nat.mul_lt_mul_of_pos_right (by omega) hP
  have ht1 : n * d * 2 ^ w / (n * n + d * d) ≤ 2 ^ w := (Nat.div_le_iff_le_mul (by omega)).2 (by have := Nat.mul_le_mul_right (2 ^ w) (show n * d ≤ n * n + d * d by omega); rw [Nat.mul_comm (2 ^ w)]; omega)
  have hb := angGo_bd (T := 2 ^ w + 2001) (Nat.le_succ _) (by omega) _ _ _ _ _ _ h (by omega) (by omega) (by omega)
  have hbig : 2 ^ w * 4096 = 2 ^ (w + 12) := by rw [Nat.pow_add]
  have h11 : 2 ^ 11 ≤ 2 ^ w := Nat.pow_le_pow_right (by omega) hw0
  exact ⟨lim_len_p2 (w := w + 12) (by omega) (by omega), lim_len_p2 (w := w + 12) (by omega) (by omega)⟩
theorem arcs_pi {w A B : Nat} (hw : w ≤ 400) (hw0 : 11 ≤ w) (h : piF w = some (A, B)) : Go.Ev.Fn CX 74 [.int .i64 (w : Int)] (spanV A B) ∧ (lim A).length ≤ 100 ∧ (lim B).length ≤ 100 := by
  unfold piF at h
  split at h
  · rename_i a1 a2 b1 b2 h1 h2
    obtain ⟨rfl, rfl⟩ : a1 * 16 - (b2 * 4 + 1) = A ∧ a2 * 16 + 1 - b1 * 4 + 1 = B := by simpa using h
    clear h
    have an1 := arcs_angle (n := 1) (d := 5) (by omega) (by omega) (by omega) hw (by omega) h1
    have an2 := arcs_angle (n := 1) (d := 239) (by omega) (by omega) (by omega) hw (by omega) h2
    obtain ⟨g1, g2⟩ := angF_bd (by omega) (by omega) (by omega) hw0 h1
    obtain ⟨g3, g4⟩ := angF_bd (by omega) (by omega) (by omega) hw0 h2
    have o := fix_One
    have q5 := nat_Of 5 (by omega)
    have q239 := nat_Of 239 (by omega)
    have q16 := nat_Of 16 (by omega)
    have q4 := nat_Of 4 (by omega)
    have l16 : (lim 16).length ≤ 1 := lim_len_one (by decide)
    have l4 : (lim 4).length ≤ 1 := lim_len_one (by decide)
    have l1 := lim_len1
    have t1 := fix_Times (a := a1) (b := a2) (n := 16) (d := 1) (by omega) (by omega) (by omega) (by omega) (by omega)
    have t2 := fix_Times (a := b1) (b := b2) (n := 4) (d := 1) (by omega) (by omega) (by omega) (by omega) (by omega)
    rw [Nat.div_one, Nat.div_one] at t1 t2
    have e1 := lim_len_mul (a := a1) (b := 16)
    have e2 := lim_len_mul (a := a2) (b := 16)
    have e3 := lim_len_mul (a := b1) (b := 4)
    have e4 := lim_len_mul (a := b2) (b := 4)
    have e5 := lim_len_add (a := a2 * 16) (b := 1) (L := 50) (by omega) (by omega)
    have e6 := lim_len_add (a := b2 * 4) (b := 1) (L := 50) (by omega) (by omega)
    have sb := fix_Sub (a := a1 * 16) (b := a2 * 16 + 1) (c := b1 * 4) (d := b2 * 4 + 1) (by omega) (by omega) (by omega) (by omega)
    have e7 := lim_len_mono (Nat.sub_le (a1 * 16) (b2 * 4 + 1))
    have e8 := lim_len_mono (Nat.sub_le (a2 * 16 + 1) (b1 * 4))
    have e9 := lim_len_add (a := a2 * 16 + 1 - b1 * 4) (b := 1) (L := 60) (by omega) (by omega)
    refine ⟨?_, by omega, by omega⟩
    generalize a1 * 16 - (b2 * 4 + 1) = x1 at *
    generalize a2 * 16 + 1 - b1 * 4 + 1 = x2 at *
    generalize a2 * 16 + 1 = x3 at *
    generalize b2 * 4 + 1 = x4 at *
    generalize a1 * 16 = x5 at *
    generalize b1 * 4 = x6 at *
    refine Go.Ev.Fn.intro (fn := Tryz.f74) (body := (Tryz.f74).body.get!) (by kernel_rfl) (by kernel_rfl) (by kernel_rfl) (fun _ => rfl) (Nat.le_of_ble_eq_true (by kernel_rfl)) ?_; unfold Tryz.f74; simp only [Option.get!_some]
    repeat (first | (simp only [go_sem, Nat.reduceEqDiff, Nat.reduceAdd, Nat.reduceSub, Nat.reduceMul, Nat.reduceLeDiff, Nat.reduceLT, reduceIte, reduceCtorEq, Nat.succ_ne_zero, elemsC, Int.reduceToNat, Nat.reducePow]) | (simp (disch := (first | omega | (simp only [AL, List.length_map]; omega))) only [AR, AL, ifT, ifF, take_all, List.length_cons, List.length_nil, Int.reduceToNat, Int.reducePow, Nat.reducePow]) | (refine wk_intro (by kernel_rfl) ?_) | (refine vp_draw (id := 2) (l := [14, 15, 18, 19]) (by kernel_rfl) ?_) | (refine vf_of (by first | exact o | exact q5 | exact an1 | exact q239 | exact an2 | exact q16 | exact t1 | exact q4 | exact t2 | exact sb) ?_))
  · cases h
theorem allFrom_at {f : Nat → Bool} : ∀ {n k : Nat}, allFrom f n k = true → ∀ i, k ≤ i → i < k + n → f i = true := by
  intro n
  induction n with
  | zero => intro k _ i h1 h2; omega
  | succ n ih =>
    intro k h i h1 h2
    rw [allFrom, Bool.and_eq_true] at h
    rcases Nat.eq_or_lt_of_le h1 with h3 | h3
    · rw [← h3]; exact h.1
    · exact ih h.2 i h3 (by omega)
/-- Pi, to so many digits: the constant's square lies in it. -/
theorem arcs_Pi {p : Nat} (h1 : 8 ≤ p) (h2 : p < 225) : ∃ a : Nat, Go.Ev.Fn CX 30 [.int .i64 (p : Int)] (ballR (mkRat (a : Int) (2 ^ p)) (mkRat ((a + 1 : Nat) : Int) (2 ^ p))) ∧ a * 2 ^ (800 - p) ≤ rootPi * rootPi ∧ rootPi * rootPi ≤ (a + 1) * 2 ^ (800 - p) := by
  have h := allFrom_at pi_ok p h1 (by omega)
  unfold piOk at h
  split at h
  · rename_i lo hi hpi
    rw [pin_eq, Bool.and_eq_true, Bool.and_eq_true] at h
    obtain ⟨k1, k2, k3⟩ := h
    have k1 := Nat.eq_of_beq_eq_true k1
    have k2 := Nat.le_of_ble_eq_true k2
    have k3 := Nat.le_of_ble_eq_true k3
    obtain ⟨f, g1, g2⟩ := arcs_pi (by omega) (by omega) hpi
    have c := fix_Certain1 (p := p) (sp := 64) f (by omega) (by omega) (by omega) (by omega) (by omega) k1
    refine ⟨lo / 2 ^ 64, ?_, k2, k3⟩
    have hh := arcs_held (p : Int)
    rw [if_neg (by omega), if_neg (by omega)] at hh
    generalize mkRat ((lo / 2 ^ 64 : Nat) : Int) (2 ^ p) = q1 at *
    generalize mkRat ((lo / 2 ^ 64 + 1 : Nat) : Int) (2 ^ p) = q2 at *
    clear k2 k3 f hpi
    refine Go.Ev.Fn.intro (fn := Tryz.f30) (body := (Tryz.f30).body.get!) (by kernel_rfl) (by kernel_rfl) (by kernel_rfl) (fun _ => rfl) (Nat.le_of_ble_eq_true (by kernel_rfl)) ?_; unfold Tryz.f30; simp only [Option.get!_some]
    repeat (first | (simp only [go_sem, Nat.reduceEqDiff, Nat.reduceAdd, Nat.reduceSub, Nat.reduceMul, Nat.reduceLeDiff, Nat.reduceLT, reduceIte, reduceCtorEq, Nat.succ_ne_zero, elemsC, Int.reduceToNat, Nat.reducePow]) | (simp (disch := (first | omega | (simp only [AL, List.length_map]; omega))) only [AR, AL, ifT, ifF, take_all, List.length_cons, List.length_nil, Int.reduceToNat, Int.reducePow, Nat.reducePow]) | (refine wk_intro (by kernel_rfl) ?_) | (refine vf_of (by first | exact hh | exact c) ?_))
  · cases h
end Go.Proofs.YthbjgdmcnonofaaGreat

/- root: Int, whole, Square, Sqrt, Of, in the evaluator. -/
namespace Go.Proofs.YthbjgdmcnonofaaGreat
set_option linter.unusedSimpArgs false
set_option linter.unusedVariables false
set_option maxRecDepth 8000
open Go.Ev
theorem four_mul_le (x y : Nat) : 4 * (x * y) ≤ (x + y) * (x + y) := by
  rcases Nat.le_total x y with h | h
  · obtain ⟨k, rfl⟩ := Nat.exists_eq_add_of_le h
    have : (x + (x + k)) * (x + (x + k)) = 4 * (x * (x + k)) + k * k := by grind
    omega
  · obtain ⟨k, rfl⟩ := Nat.exists_eq_add_of_le h
    have : (y + k + y) * (y + k + y) = 4 * ((y + k) * y) + k * k := by grind
    omega
/-- A step of the root's loop stays above the root. -/
theorem newton_up {a x : Nat} (hx : 0 < x) : a < ((x + a / x) / 2 + 1) * ((x + a / x) / 2 + 1) := by
  have h1 : a < x * (a / x + 1) := by
    have := Nat.div_add_mod a x
    have := Nat.mod_lt a hx
    rw [Nat.mul_add, Nat.mul_one]; omega
  have h2 := four_mul_le x (a / x + 1)
  generalize a / x = q at *
  have h3 : x + (q + 1) ≤ 2 * ((x + q) / 2 + 1) := by omega
  have h4 := Nat.mul_le_mul h3 h3
  generalize (x + q) / 2 + 1 = m at *
  have h5 : 2 * m * (2 * m) = 4 * (m * m) := by grind
  omega
theorem newton_stop {a x : Nat} (hx : 0 < x) (h : x ≤ (x + a / x) / 2) : x * x ≤ a := by
  have h1 : x ≤ a / x := by omega
  have h2 := Nat.mul_le_mul_left x h1
  have h3 := Nat.mul_div_le a x
  omega
def vN (v : SV) : Nat := match decV v with
  | some xs => wth xs
  | none => 0
theorem vN_lim {x : Nat} (h : (lim x).length ≤ 1073741824) : vN (natV (lim x)) = x := by
  unfold vN
  rw [decV_nat (okL_lim x) h]
  exact wth_lim x
theorem lim_p32 (n : Nat) : lim (4294967296 ^ n) = List.replicate n 0 ++ [1] := by
  have h := lim_unique (xs := List.replicate n 0 ++ [1]) (okL_append.2 ⟨okL_replicate _, by simp [okL]⟩) (.inr ⟨_, 1, rfl, by decide⟩)
  rw [wth_append, wth_replicate, List.length_replicate, Nat.zero_add, show wth [1] = 1 from rfl, Nat.mul_one] at h
  exact h.symm
theorem set_last (n : Nat) : ((List.replicate (n + 1) 0).set n 1 : List Nat) = List.replicate n 0 ++ [1] := by
  rw [List.replicate_succ', List.set_append_right _ _ (by simp), List.length_replicate, Nat.sub_self]
  rfl
set_option maxHeartbeats 1000000 in
theorem root_Int {a : Nat} (h : (lim a).length ≤ 1000) : Go.Ev.Fn CX 145 [natV (lim a)] (natV (lim (rtN a))) := by
  have b := nat_Bits (N := a) (by omega)
  have hb : a < 2 ^ blen a := blen_iff.1 (Nat.le_refl _)
  by_cases h0 : a = 0
  · subst h0
    have e : rtN 0 = 0 := (rtN_eq (a := 0) (r := 0) (by omega) (by omega)).symm
    rw [e, lim_zero]
    rw [lim_zero, show blen 0 = 0 from rfl] at b
    refine Go.Ev.Fn.intro (fn := Tryz.f145) (body := (Tryz.f145).body.get!) (by kernel_rfl) (by kernel_rfl) (by kernel_rfl) (fun _ => rfl) (Nat.le_of_ble_eq_true (by kernel_rfl)) ?_; unfold Tryz.f145; simp only [Option.get!_some]
    repeat (first | (simp only [go_sem, Nat.reduceEqDiff, Nat.reduceAdd, Nat.reduceSub, Nat.reduceMul, Nat.reduceLeDiff, Nat.reduceLT, reduceIte, reduceCtorEq, Nat.succ_ne_zero, elemsC, Int.reduceToNat, Nat.reducePow]) | (simp (disch := (first | omega | (simp only [AL, List.length_map]; omega))) only [AR, AL, ifT, ifF, take_all, List.length_cons, List.length_nil, Int.reduceToNat, Int.reducePow, Nat.reducePow]) | (refine wk_intro (by kernel_rfl) ?_) | (refine vf_of (by first | exact b) ?_))
    rfl
  have hB0 : blen a ≠ 0 := fun e => by rw [e] at hb; omega
  have hBl : blen a ≤ 32000 := by
    obtain ⟨K, hK⟩ : ∃ K : Nat, K = 32000 := ⟨_, rfl⟩
    rw [← hK]
    refine blen_iff.2 (Nat.lt_of_lt_of_le lim_len_pow ?_)
    rw [show (4294967296 : Nat) = 2 ^ 32 from rfl, ← Nat.pow_mul]
    exact Nat.pow_le_pow_right (by omega) (by omega)
  generalize blen a = B at *
  have ha0 : a < 4294967296 ^ (B / 64 + 1) * 4294967296 ^ (B / 64 + 1) := by
    refine Nat.lt_of_lt_of_le hb ?_
    rw [← Nat.pow_add, show (4294967296 : Nat) = 2 ^ 32 from rfl, ← Nat.pow_mul]
    exact Nat.pow_le_pow_right (by omega) (by omega)
  have l0 := lim_p32 (B / 64 + 1)
  have hn : B / 64 + 1 ≤ 501 := by omega
  have tq : (B : Int).tdiv 64 = ((B / 64 : Nat) : Int) := _root_.id rfl
  have sl := set_last (B / 64 + 1)
  rw [← l0] at sl
  have x0pos : 0 < 4294967296 ^ (B / 64 + 1) := Nat.pow_pos (by omega)
  have ll : (lim (4294967296 ^ (B / 64 + 1))).length = B / 64 + 2 := by rw [l0]; simp
  have wp := wth_lim (4294967296 ^ (B / 64 + 1))
  generalize 4294967296 ^ (B / 64 + 1) = x0 at *
  -- one round
  have round : ∀ x, 0 < x → (lim x).length ≤ 1000 → Go.Ev.Fn CX 139 [natV (lim a), natV (lim x)] (.tup [natV (lim (a / x)), natV (lim (a % x)), .bool true]) ∧ Go.Ev.Fn CX 95 [natV (lim x), natV (lim (a / x))] (natV (lim (x + a / x))) ∧
      Go.Ev.Fn CX 144 [natV (lim (x + a / x)), .int .i64 (-1)] (natV (lim ((x + a / x) / 2))) ∧ Go.Ev.Fn CX 163 [natV (lim ((x + a / x) / 2)), natV (lim x)] (.int .i64 (cmpN ((x + a / x) / 2) x)) := by
    intro x hx hl
    have l1 := lim_len_mono (Nat.div_le_self a x)
    have l2 := lim_len_add (a := x) (b := a / x) (L := 1000) (by omega) (by omega)
    have l3 := lim_len_mono (Nat.div_le_self (x + a / x) 2)
    have s := nat_shr (N := x + a / x) (m := 1) (by omega) (by omega) (by omega)
    rw [Nat.pow_one] at s
    exact ⟨nat_DivL (by omega) (by omega) (by omega), nat_AddL (by omega) (by omega), s, nat_CmpL (by omega) (by omega)⟩
  have tr : ∀ x, (lim x).length ≤ 1000 → Go.Ev.Fn CX 137 [natV (lim x)] (natV (lim x)) := by
    intro x hl
    have := nat_Trim (lim x) (okL_lim x) (by omega)
    rwa [wth_lim] at this
  have tn : (((B / 64 : Nat) : Int) + 2).toNat = B / 64 + 2 := by omega
  refine Go.Ev.Fn.intro (fn := Tryz.f145) (body := (Tryz.f145).body.get!) (by kernel_rfl) (by kernel_rfl) (by kernel_rfl) (fun _ => rfl) (Nat.le_of_ble_eq_true (by kernel_rfl)) ?_; unfold Tryz.f145; simp only [Option.get!_some]
  repeat (first | (simp only [go_sem, Nat.reduceEqDiff, Nat.reduceAdd, Nat.reduceSub, Nat.reduceMul, Nat.reduceLeDiff, Nat.reduceLT, reduceIte, reduceCtorEq, Nat.succ_ne_zero, elemsC, Int.reduceToNat, Nat.reducePow, tq, tn]) | (simp (disch := (first | omega | (simp only [AL, List.length_map]; omega))) only [AR, AL, ifT, ifF, take_all, List.length_cons, List.length_nil, Int.reduceToNat, Int.reducePow, Nat.reducePow, tq, tn]) | (refine wk_intro (by kernel_rfl) ?_) | (refine vf_of (by first | exact b) ?_))
  have hstep : ∀ x, 0 < x → a < (x + 1) * (x + 1) → ∀ y, y = (x + a / x) / 2 → ¬ x ≤ y → 0 < y ∧ a < (y + 1) * (y + 1) ∧ y < x := by
    rintro x hx - y rfl hxy
    have := newton_up (a := a) hx
    refine ⟨?_, this, by omega⟩
    rcases Nat.eq_zero_or_pos ((x + a / x) / 2) with e | e
    · rw [e] at this; omega
    · exact e
  refine vp_loop_inv (fun s => s.tmp 0 = .sv (natV (lim a)) ∧ ∃ x : Nat, 0 < x ∧ (lim x).length ≤ 600 ∧ x ≤ x0 ∧ a < (x + 1) * (x + 1) ∧ (s.tmp 3 = .sv (natV (lim x)) ∨ x = x0 ∧ s.tmp 3 = .ref 15 0 1 0 (B / 64 + 2) ∧ s.obj 15 0 = some ((lim x0).map limb)))
    (fun s => match s.tmp 3 with | .sv v => vN v | _ => x0 + 1) ?_ ?_
  · refine ⟨rfl, x0, x0pos, by omega, Nat.le_refl _, by have := Nat.mul_le_mul (show x0 ≤ x0 + 1 by omega) (show x0 ≤ x0 + 1 by omega); omega, .inr ⟨rfl, by first | rfl | (rw [← tn]; rfl), ?_⟩⟩
    refine (?_ : some (List.map limb (List.take (B / 64 + 2 - 1) (List.replicate (B / 64 + 2) 0)) ++ [SV.int IntKind.u32 1] ++ List.map limb (List.drop (B / 64 + 2 - 1 + 1) (List.replicate (B / 64 + 2) 0))) = _)
    rw [l0, List.take_replicate, List.drop_replicate, Nat.min_eq_left (by omega), show B / 64 + 2 - (B / 64 + 2 - 1 + 1) = 0 by omega, show B / 64 + 2 - 1 = B / 64 + 1 by omega, List.map_append, List.replicate_zero, List.map_nil, List.append_nil]
    rfl
  rintro s ⟨i0, x, hx, lx, hxx, hax, i3⟩
  obtain ⟨r1, r2, r3, r4⟩ := round x hx (by omega)
  have hst := hstep x hx hax _ rfl
  have e1 : decide (cmpN ((x + a / x) / 2) x ≥ 0) = decide (x ≤ (x + a / x) / 2) := decide_eq_decide.2 (by unfold cmpN; split <;> (try split) <;> omega)
  have hstop := newton_stop (a := a) (x := x) hx
  have t1 := tr x (by omega)
  have l1 := lim_len_mono (Nat.div_le_self (x + a / x) 2)
  generalize (x + a / x) / 2 = y at *
  generalize x + a / x = u at *
  generalize a / x = q at *
  generalize cmpN y x = z at *
  rcases i3 with i3 | ⟨rfl, i3, o3⟩
  · by_cases hle : x ≤ y
    · rw [decide_eq_true hle] at e1
      obtain rfl := rtN_eq (hstop hle) hax
      repeat (first | (simp only [go_sem, Nat.reduceEqDiff, Nat.reduceAdd, Nat.reduceSub, Nat.reduceMul, Nat.reduceLeDiff, Nat.reduceLT, reduceIte, reduceCtorEq, Nat.succ_ne_zero, elemsC, Int.reduceToNat, Nat.reducePow, i0, i3, e1]) | (simp (disch := (first | omega | (simp only [AL, List.length_map]; omega))) only [AR, AL, ifT, ifF, take_all, List.length_cons, List.length_nil, Int.reduceToNat, Int.reducePow, Nat.reducePow, i0, i3, e1]) | (refine wk_intro (by kernel_rfl) ?_) | (refine vf_of (by first | exact r1 | exact r2 | exact r3 | exact r4 | exact t1) ?_))
    · rw [decide_eq_false hle] at e1
      obtain ⟨y1, y2, y3⟩ := hst hle
      repeat (first | (simp only [go_sem, Nat.reduceEqDiff, Nat.reduceAdd, Nat.reduceSub, Nat.reduceMul, Nat.reduceLeDiff, Nat.reduceLT, reduceIte, reduceCtorEq, Nat.succ_ne_zero, elemsC, Int.reduceToNat, Nat.reducePow, i0, i3, e1]) | (simp (disch := (first | omega | (simp only [AL, List.length_map]; omega))) only [AR, AL, ifT, ifF, take_all, List.length_cons, List.length_nil, Int.reduceToNat, Int.reducePow, Nat.reducePow, i0, i3, e1]) | (refine wk_intro (by kernel_rfl) ?_) | (refine vf_of (by first | exact r1 | exact r2 | exact r3 | exact r4) ?_))
      exact ⟨⟨y, y1, Nat.le_trans (lim_len_mono (Nat.le_of_lt y3)) lx, by omega, y2, .inl rfl⟩, by rw [vN_lim (by have := lim_len_mono (Nat.le_of_lt y3); omega), vN_lim (by omega)]; exact y3⟩
  · have hle : ¬ x ≤ y := fun g => by have := hstop g; have := ha0; omega
    rw [decide_eq_false hle] at e1
    obtain ⟨y1, y2, y3⟩ := hst hle
    have f1 : Go.Ev.Fn CX 139 [natV (lim a), .sl (B / 64 + 2) ((lim x).map limb)] (.tup [natV (lim q), natV (lim (a % x)), .bool true]) := by rw [← ll]; exact r1
    have f2 : Go.Ev.Fn CX 95 [.sl (B / 64 + 2) ((lim x).map limb), natV (lim q)] (natV (lim u)) := by rw [← ll]; exact r2
    have f4 : Go.Ev.Fn CX 163 [natV (lim y), .sl (B / 64 + 2) ((lim x).map limb)] (.int .i64 z) := by rw [← ll]; exact r4
    have hlm : ((lim x).map limb).length = B / 64 + 2 := by rw [List.length_map, ll]
    have htk : ((lim x).map limb).take (B / 64 + 2) = (lim x).map limb := List.take_of_length_le (by omega)
    generalize ((lim x).map limb) = cs at *
    repeat (first | (simp only [go_sem, Nat.reduceEqDiff, Nat.reduceAdd, Nat.reduceSub, Nat.reduceMul, Nat.reduceLeDiff, Nat.reduceLT, reduceIte, reduceCtorEq, Nat.succ_ne_zero, elemsC, Int.reduceToNat, Nat.reducePow, i0, i3, o3, htk, hlm, List.drop_zero, N0, Nat.mul_one, e1]) | (simp (disch := (first | omega | (simp only [AL, List.length_map]; omega))) only [AR, AL, ifT, ifF, take_all, List.length_cons, List.length_nil, Int.reduceToNat, Int.reducePow, Nat.reducePow, i0, i3, o3, htk, hlm, List.drop_zero, N0, Nat.mul_one, e1]) | (refine wk_intro (by kernel_rfl) ?_) | (refine vf_of (by first | exact f1 | exact f2 | exact r3 | exact f4) ?_))
    exact ⟨⟨y, y1, Nat.le_trans (lim_len_mono (Nat.le_of_lt y3)) lx, by omega, y2, .inl rfl⟩, by rw [vN_lim (by have := lim_len_mono (Nat.le_of_lt y3); omega)]; omega⟩
theorem root_whole {a : Nat} (h : (lim a).length ≤ 1000) : Go.Ev.Fn CX 199 [natV (lim a)] (.tup [natV (lim (rtN a)), .bool (decide (rtN a * rtN a = a))]) := by
  have r := root_Int h
  have l := lim_len_mono (rtN_self a)
  have m := nat_MulL (N := rtN a) (D := rtN a) (by omega) (by omega)
  have l2 := lim_len_mono (rtN_le a)
  have c := nat_CmpL (N := rtN a * rtN a) (D := a) (by omega) (by omega)
  have e : (cmpN (rtN a * rtN a) a == 0) = decide (rtN a * rtN a = a) := by
    rw [show (cmpN (rtN a * rtN a) a == 0) = decide (cmpN (rtN a * rtN a) a = 0) from by by_cases h : cmpN (rtN a * rtN a) a = 0 <;> simp [h]]
    exact decide_eq_decide.2 (by unfold cmpN; split <;> (try split) <;> omega)
  rw [← e]
  generalize cmpN (rtN a * rtN a) a = z at *
  generalize rtN a * rtN a = y at *
  generalize rtN a = x at *
  refine Go.Ev.Fn.intro (fn := Tryz.f199) (body := (Tryz.f199).body.get!) (by kernel_rfl) (by kernel_rfl) (by kernel_rfl) (fun _ => rfl) (Nat.le_of_ble_eq_true (by kernel_rfl)) ?_; unfold Tryz.f199; simp only [Option.get!_some]
  repeat (first | (simp only [go_sem, Nat.reduceEqDiff, Nat.reduceAdd, Nat.reduceSub, Nat.reduceMul, Nat.reduceLeDiff, Nat.reduceLT, reduceIte, reduceCtorEq, Nat.succ_ne_zero, elemsC, Int.reduceToNat, Nat.reducePow]) | (simp (disch := (first | omega | (simp only [AL, List.length_map]; omega))) only [AR, AL, ifT, ifF, take_all, List.length_cons, List.length_nil, Int.reduceToNat, Int.reducePow, Nat.reducePow]) | (refine wk_intro (by kernel_rfl) ?_) | (refine vf_of (by first | exact r | exact m | exact c) ?_))
theorem szR_nat {n d L : Nat} (hn : (lim n).length ≤ L) (hd : (lim d).length ≤ L) (hL : 1 ≤ L) : szR (mkRat (n : Int) d) L := szR_mk (s := false) hn hd hL
theorem natAbs_num {q : Rat} (h : 0 ≤ q) : (q.num.natAbs : Int) = q.num := Int.natAbs_of_nonneg (Rat.num_nonneg.2 h)
theorem mk_mul (a : Int) {b : Nat} (hb : 0 < b) : mkRat a b * (b : Rat) = (a : Rat) := by
  rw [Rat.mkRat_eq_div]
  refine Rat.div_mul_cancel ?_
  have : (0 : Rat) < (b : Rat) := by exact_mod_cast hb
  grind
theorem num_den (q : Rat) : q * (q.den : Rat) = (q.num : Rat) := by
  have h := mk_mul q.num q.den_pos
  rwa [Rat.mkRat_self] at h
theorem root_Square {v : SV} {q : Rat} {L : Nat} (hv : RatA v q L) (hq : 0 ≤ q) (hL1 : 1 ≤ L) (hL : L ≤ 1000) :
    Go.Ev.Fn CX 143 [v] (if rtN q.num.natAbs * rtN q.num.natAbs = q.num.natAbs ∧ rtN q.den * rtN q.den = q.den then .tup [rv (mkRat (rtN q.num.natAbs : Int) (rtN q.den)), .bool true] else .tup [rv 0, .bool false]) := by
  have n1 := rat_Norm hv (by omega)
  obtain ⟨z1, z2⟩ := szR_of hv hL1
  have w1 := root_whole (a := q.num.natAbs) (by omega)
  have w2 := root_whole (a := q.den) (by omega)
  have l1 := lim_len_mono (rtN_self q.num.natAbs)
  have l2 := lim_len_mono (rtN_self q.den)
  have o := rat_OfL (s := false) (n := rtN q.num.natAbs) (d := rtN q.den) (by omega) (by omega)
  rw [show sgn false (rtN q.num.natAbs) = (rtN q.num.natAbs : Int) from rfl] at o
  have r0 := rat_Int 0 (by omega)
  rw [show ((0 : Int) : Rat) = 0 from rfl] at r0
  have hs : decide (q.num < 0) = false := decide_eq_false (by have := Rat.num_nonneg.2 hq; omega)
  obtain ⟨s, n, d, rfl, -⟩ := hv
  generalize mkRat (rtN q.num.natAbs : Int) (rtN q.den) = r at *
  by_cases h1 : rtN q.num.natAbs * rtN q.num.natAbs = q.num.natAbs
  · rw [decide_eq_true h1] at w1
    by_cases h2 : rtN q.den * rtN q.den = q.den
    · rw [decide_eq_true h2] at w2
      rw [if_pos ⟨h1, h2⟩]
      clear h1 h2
      generalize rtN q.num.natAbs = x at *
      generalize rtN q.den = y at *
      refine Go.Ev.Fn.intro (fn := Tryz.f143) (body := (Tryz.f143).body.get!) (by kernel_rfl) (by kernel_rfl) (by kernel_rfl) (fun _ => rfl) (Nat.le_of_ble_eq_true (by kernel_rfl)) ?_; unfold Tryz.f143; simp only [Option.get!_some]
      repeat (first | (simp only [go_sem, Nat.reduceEqDiff, Nat.reduceAdd, Nat.reduceSub, Nat.reduceMul, Nat.reduceLeDiff, Nat.reduceLT, reduceIte, reduceCtorEq, Nat.succ_ne_zero, elemsC, Int.reduceToNat, Nat.reducePow, hs, Bool.not_true]) | (simp (disch := (first | omega | (simp only [AL, List.length_map]; omega))) only [AR, AL, ifT, ifF, take_all, List.length_cons, List.length_nil, Int.reduceToNat, Int.reducePow, Nat.reducePow, hs, Bool.not_true]) | (refine wk_intro (by kernel_rfl) ?_) | (refine vf_of (by first | exact n1 | exact w1 | exact w2 | exact o) ?_))
    · rw [decide_eq_false h2] at w2
      rw [if_neg (fun h => h2 h.2)]
      clear h1 h2
      generalize rtN q.num.natAbs = x at *
      generalize rtN q.den = y at *
      refine Go.Ev.Fn.intro (fn := Tryz.f143) (body := (Tryz.f143).body.get!) (by kernel_rfl) (by kernel_rfl) (by kernel_rfl) (fun _ => rfl) (Nat.le_of_ble_eq_true (by kernel_rfl)) ?_; unfold Tryz.f143; simp only [Option.get!_some]
      repeat (first | (simp only [go_sem, Nat.reduceEqDiff, Nat.reduceAdd, Nat.reduceSub, Nat.reduceMul, Nat.reduceLeDiff, Nat.reduceLT, reduceIte, reduceCtorEq, Nat.succ_ne_zero, elemsC, Int.reduceToNat, Nat.reducePow, hs, Bool.not_true, Bool.not_false]) | (simp (disch := (first | omega | (simp only [AL, List.length_map]; omega))) only [AR, AL, ifT, ifF, take_all, List.length_cons, List.length_nil, Int.reduceToNat, Int.reducePow, Nat.reducePow, hs, Bool.not_true, Bool.not_false]) | (refine wk_intro (by kernel_rfl) ?_) | (refine vf_of (by first | exact n1 | exact w1 | exact w2 | exact r0) ?_))
  · rw [decide_eq_false h1] at w1
    rw [if_neg (fun h => h1 h.1)]
    clear h1
    generalize rtN q.num.natAbs = x at *
    generalize hz : decide (rtN q.den * rtN q.den = q.den) = z at *
    generalize rtN q.den = y at *
    refine Go.Ev.Fn.intro (fn := Tryz.f143) (body := (Tryz.f143).body.get!) (by kernel_rfl) (by kernel_rfl) (by kernel_rfl) (fun _ => rfl) (Nat.le_of_ble_eq_true (by kernel_rfl)) ?_; unfold Tryz.f143; simp only [Option.get!_some]
    repeat (first | (simp only [go_sem, Nat.reduceEqDiff, Nat.reduceAdd, Nat.reduceSub, Nat.reduceMul, Nat.reduceLeDiff, Nat.reduceLT, reduceIte, reduceCtorEq, Nat.succ_ne_zero, elemsC, Int.reduceToNat, Nat.reducePow, hs, Bool.not_true, Bool.not_false]) | (simp (disch := (first | omega | (simp only [AL, List.length_map]; omega))) only [AR, AL, ifT, ifF, take_all, List.length_cons, List.length_nil, Int.reduceToNat, Int.reducePow, Nat.reducePow, hs, Bool.not_true, Bool.not_false]) | (refine wk_intro (by kernel_rfl) ?_) | (refine vf_of (by first | exact n1 | exact w1 | exact w2 | exact r0) ?_))
theorem nn_mul {a b : Nat} : ((a * b : Nat) : Rat) = (a : Rat) * (b : Rat) := by exact_mod_cast rfl
theorem nat_le_rat {a b : Nat} (h : a ≤ b) : (a : Rat) ≤ (b : Rat) := by exact_mod_cast h
theorem root_Sqrt {v : SV} {q : Rat} {L p : Nat} (hv : RatA v q L) (hq : 0 ≤ q) (hL1 : 1 ≤ L) (hL : L ≤ 300) (hp : p ≤ 512) :
    ∃ lo hi : Rat, Go.Ev.Fn CX 75 [v, .int .i64 (p : Int)] (.tup [ballR lo hi, .bool true]) ∧ 0 ≤ lo ∧ lo ≤ hi ∧ lo * lo ≤ q ∧ q ≤ hi * hi ∧ (hi - lo) * p2 p ≤ 1 ∧ szR lo (L + 40) ∧ szR hi (L + 40) := by
  have n1 := rat_Norm hv (by omega)
  obtain ⟨z1, z2⟩ := szR_of hv hL1
  have sq := root_Square (RatA_rv ⟨z1, z2⟩) hq hL1 (by omega)
  have l1 := lim_len_mono (rtN_self q.num.natAbs)
  have l2 := lim_len_mono (rtN_self q.den)
  have hs : decide (q.num < 0) = false := decide_eq_false (by have := Rat.num_nonneg.2 hq; omega)
  have e1 : (if (0 : Int) > (p : Int) then (0 : Int) else (p : Int)) = (p : Int) := if_neg (by omega)
  have e2 : (if (512 : Int) < (p : Int) then (512 : Int) else (p : Int)) = (p : Int) := if_neg (by omega)
  have qn := num_den q
  have qa : ((q.num.natAbs : Nat) : Rat) = (q.num : Rat) := by
    rw [← natAbs_num hq]; rfl
  have D := q.den_pos
  have DR : (0 : Rat) < (q.den : Rat) := by exact_mod_cast D
  have erv : rv q = ratV false (lim q.num.natAbs) (lim q.den) := by show ratV (decide (q.num < 0)) _ _ = _; rw [hs]
  rw [erv] at n1 sq
  by_cases h : rtN q.num.natAbs * rtN q.num.natAbs = q.num.natAbs ∧ rtN q.den * rtN q.den = q.den
  · rw [if_pos h] at sq
    have hd0 : 0 < rtN q.den := by
      rcases Nat.eq_zero_or_pos (rtN q.den) with e | e
      · have := h.2; rw [e] at this; omega
      · exact e
    have mm := mk_mul (rtN q.num.natAbs : Int) hd0
    have YR : (0 : Rat) < (rtN q.den : Rat) := by exact_mod_cast hd0
    have x2 : ((rtN q.num.natAbs : Nat) : Rat) * ((rtN q.num.natAbs : Nat) : Rat) = (q.num : Rat) := by rw [← nn_mul, h.1, qa]
    have y2 : ((rtN q.den : Nat) : Rat) * ((rtN q.den : Nat) : Rat) = (q.den : Rat) := by rw [← nn_mul, h.2]
    have x0 := nat_nonneg (rtN q.num.natAbs)
    have mm' : mkRat (rtN q.num.natAbs : Int) (rtN q.den) * (rtN q.den : Rat) = ((rtN q.num.natAbs : Nat) : Rat) := mm
    have r0 : (0 : Rat) ≤ mkRat (rtN q.num.natAbs : Int) (rtN q.den) := le_by YR (by rw [mm', Rat.zero_mul]; exact x0)
    have rr : mkRat (rtN q.num.natAbs : Int) (rtN q.den) * mkRat (rtN q.num.natAbs : Int) (rtN q.den) = q := by
      generalize mkRat (rtN q.num.natAbs : Int) (rtN q.den) = r at *
      generalize ((rtN q.num.natAbs : Nat) : Rat) = X at *
      generalize ((rtN q.den : Nat) : Rat) = Y at *
      have e : (r * r - q) * (Y * Y) = 0 := by
        have e3 : (r * r - q) * (Y * Y) = (r * Y) * (r * Y) - q * (Y * Y) := by grind
        rw [e3, mm', x2, y2, qn, Rat.sub_self]
      rcases Rat.mul_eq_zero.1 e with g | g
      · grind
      · rw [y2] at g; grind
    have zz : szR (mkRat (rtN q.num.natAbs : Int) (rtN q.den)) L := szR_nat (by omega) (by omega) hL1
    have bo := ball_Of (RatA_rv zz) (by omega)
    refine ⟨_, _, ?_, r0, Rat.le_refl, by rw [rr]; exact Rat.le_refl, by rw [rr]; exact Rat.le_refl, by rw [Rat.sub_self, Rat.zero_mul]; decide, szR_mono zz (by omega), szR_mono zz (by omega)⟩
    clear rr r0 zz mm
    obtain ⟨s, n, d, rfl, -⟩ := hv
    generalize mkRat (rtN q.num.natAbs : Int) (rtN q.den) = r at *
    refine Go.Ev.Fn.intro (fn := Tryz.f75) (body := (Tryz.f75).body.get!) (by kernel_rfl) (by kernel_rfl) (by kernel_rfl) (fun _ => rfl) (Nat.le_of_ble_eq_true (by kernel_rfl)) ?_; unfold Tryz.f75; simp only [Option.get!_some]
    repeat (first | (simp only [go_sem, Nat.reduceEqDiff, Nat.reduceAdd, Nat.reduceSub, Nat.reduceMul, Nat.reduceLeDiff, Nat.reduceLT, reduceIte, reduceCtorEq, Nat.succ_ne_zero, elemsC, Int.reduceToNat, Nat.reducePow, hs, e1, e2]) | (simp (disch := (first | omega | (simp only [AL, List.length_map]; omega))) only [AR, AL, ifT, ifF, take_all, List.length_cons, List.length_nil, Int.reduceToNat, Int.reducePow, Nat.reducePow, hs, e1, e2]) | (refine wk_intro (by kernel_rfl) ?_) | (refine vp_draw (id := 8) (l := [32, 35, 37]) (by kernel_rfl) ?_) | (refine vf_of (by first | exact n1 | exact sq | exact bo) ?_))
  · rw [if_neg h] at sq
    clear h
    have s1 := nat_shl (N := q.num.natAbs) (m := 2 * p) (by omega) (by omega)
    have l3 := lim_len_shl (a := q.num.natAbs) (n := 2 * p)
    have dv := nat_DivL (N := q.num.natAbs * 2 ^ (2 * p)) (D := q.den) (by omega) (by omega) (by omega)
    have l4 := lim_len_mono (Nat.div_le_self (q.num.natAbs * 2 ^ (2 * p)) q.den)
    have rt := root_Int (a := q.num.natAbs * 2 ^ (2 * p) / q.den) (by omega)
    have l5 := lim_len_mono (rtN_self (q.num.natAbs * 2 ^ (2 * p) / q.den))
    have o1 := nat_Of 1 (by omega)
    have l1' := lim_len1
    have s2 := nat_shl (N := 1) (m := p) (by omega) (by omega)
    have l6 := lim_len_shl (a := 1) (n := p)
    rw [Nat.one_mul] at s2 l6
    have l7 := lim_len_add (a := rtN (q.num.natAbs * 2 ^ (2 * p) / q.den)) (b := 1) (L := L + 34) (by omega) (by omega)
    have ad := nat_AddL (N := rtN (q.num.natAbs * 2 ^ (2 * p) / q.den)) (D := 1) (by omega) (by omega)
    have f1 := rat_OfL (s := false) (n := rtN (q.num.natAbs * 2 ^ (2 * p) / q.den)) (d := 2 ^ p) (by omega) (by omega)
    have f2 := rat_OfL (s := false) (n := rtN (q.num.natAbs * 2 ^ (2 * p) / q.den) + 1) (d := 2 ^ p) (by omega) (by omega)
    have P : 0 < 2 ^ p := Nat.pow_pos (by omega)
    have g1 := rtN_le (q.num.natAbs * 2 ^ (2 * p) / q.den)
    have g2 := lt_rtN (q.num.natAbs * 2 ^ (2 * p) / q.den)
    have m1 := mk_mul (rtN (q.num.natAbs * 2 ^ (2 * p) / q.den) : Int) P
    have m2 := mk_mul ((rtN (q.num.natAbs * 2 ^ (2 * p) / q.den) + 1 : Nat) : Int) P
    refine ⟨_, _, ?_, ?_, ?_, ?_, ?_, ?_, szR_nat (n := rtN (q.num.natAbs * 2 ^ (2 * p) / q.den)) (d := 2 ^ p) (by omega) (by omega) (by omega), szR_nat (n := rtN (q.num.natAbs * 2 ^ (2 * p) / q.den) + 1) (d := 2 ^ p) (by omega) (by omega) (by omega)⟩
    · rw [show sgn false (rtN (q.num.natAbs * 2 ^ (2 * p) / q.den)) = (rtN (q.num.natAbs * 2 ^ (2 * p) / q.den) : Int) from rfl] at f1
      rw [show sgn false (rtN (q.num.natAbs * 2 ^ (2 * p) / q.den) + 1) = ((rtN (q.num.natAbs * 2 ^ (2 * p) / q.den) + 1 : Nat) : Int) from rfl] at f2
      clear g1 g2 m1 m2
      rw [show ((2 * p : Nat) : Int) = 2 * (p : Int) by omega] at s1
      obtain ⟨s, n, d, rfl, -⟩ := hv
      generalize mkRat (rtN (q.num.natAbs * 2 ^ (2 * p) / q.den) : Int) (2 ^ p) = r1 at *
      generalize mkRat ((rtN (q.num.natAbs * 2 ^ (2 * p) / q.den) + 1 : Nat) : Int) (2 ^ p) = r2 at *
      generalize rtN (q.num.natAbs * 2 ^ (2 * p) / q.den) + 1 = R1 at *
      generalize rtN (q.num.natAbs * 2 ^ (2 * p) / q.den) = R at *
      generalize q.num.natAbs * 2 ^ (2 * p) / q.den = u at *
      generalize q.num.natAbs * 2 ^ (2 * p) % q.den = u' at *
      generalize q.num.natAbs * 2 ^ (2 * p) = t at *
      generalize 2 ^ p = P' at *
      refine Go.Ev.Fn.intro (fn := Tryz.f75) (body := (Tryz.f75).body.get!) (by kernel_rfl) (by kernel_rfl) (by kernel_rfl) (fun _ => rfl) (Nat.le_of_ble_eq_true (by kernel_rfl)) ?_; unfold Tryz.f75; simp only [Option.get!_some]
      repeat (first | (simp only [go_sem, Nat.reduceEqDiff, Nat.reduceAdd, Nat.reduceSub, Nat.reduceMul, Nat.reduceLeDiff, Nat.reduceLT, reduceIte, reduceCtorEq, Nat.succ_ne_zero, elemsC, Int.reduceToNat, Nat.reducePow, hs, e1, e2]) | (simp (disch := (first | omega | (simp only [AL, List.length_map]; omega))) only [AR, AL, ifT, ifF, take_all, List.length_cons, List.length_nil, Int.reduceToNat, Int.reducePow, Nat.reducePow, hs, e1, e2]) | (refine wk_intro (by kernel_rfl) ?_) | (refine vp_draw (id := 8) (l := [32, 35, 37]) (by kernel_rfl) ?_) | (refine vf_of (by first | exact n1 | exact sq | exact s1 | exact dv | exact rt | exact o1 | exact s2 | exact f1 | exact ad | exact f2) ?_))
    all_goals
      have m1' : mkRat (rtN (q.num.natAbs * 2 ^ (2 * p) / q.den) : Int) (2 ^ p) * p2 p = ((rtN (q.num.natAbs * 2 ^ (2 * p) / q.den) : Nat) : Rat) := m1
      have m2' : mkRat ((rtN (q.num.natAbs * 2 ^ (2 * p) / q.den) + 1 : Nat) : Int) (2 ^ p) * p2 p = ((rtN (q.num.natAbs * 2 ^ (2 * p) / q.den) + 1 : Nat) : Rat) := m2
      have PR := p2_pos p
      have eS : ((rtN (q.num.natAbs * 2 ^ (2 * p) / q.den) + 1 : Nat) : Rat) = ((rtN (q.num.natAbs * 2 ^ (2 * p) / q.den) : Nat) : Rat) + 1 := by exact_mod_cast rfl
      have R0 := nat_nonneg (rtN (q.num.natAbs * 2 ^ (2 * p) / q.den))
    · exact le_by PR (by rw [Rat.zero_mul]; exact Rat.le_trans R0 (by rw [← m1']; exact Rat.le_refl))
    · refine le_by PR ?_
      show mkRat (rtN (q.num.natAbs * 2 ^ (2 * p) / q.den) : Int) (2 ^ p) * p2 p ≤ mkRat ((rtN (q.num.natAbs * 2 ^ (2 * p) / q.den) + 1 : Nat) : Int) (2 ^ p) * p2 p
      rw [m1', m2', eS]
      grind
    · show mkRat (rtN (q.num.natAbs * 2 ^ (2 * p) / q.den) : Int) (2 ^ p) * mkRat (rtN (q.num.natAbs * 2 ^ (2 * p) / q.den) : Int) (2 ^ p) ≤ q
      have a1 := nat_le_rat (Nat.mul_le_mul_right q.den g1)
      have a2 := nat_le_rat (Nat.div_mul_le_self (q.num.natAbs * 2 ^ (2 * p)) q.den)
      have a3 := Rat.le_trans a1 a2
      rw [show 2 ^ (2 * p) = 2 ^ p * 2 ^ p by rw [← Nat.pow_add]; congr 1; omega] at *
      rw [nn_mul, nn_mul, nn_mul, nn_mul, qa] at a3
      generalize mkRat (rtN (q.num.natAbs * (2 ^ p * 2 ^ p) / q.den) : Int) (2 ^ p) = r at *
      generalize ((rtN (q.num.natAbs * (2 ^ p * 2 ^ p) / q.den) : Nat) : Rat) = R at *
      have PP : (0 : Rat) < p2 p * p2 p * (q.den : Rat) := Rat.mul_pos (Rat.mul_pos PR PR) DR
      refine le_by PP ?_
      have e1 : r * r * (p2 p * p2 p * (q.den : Rat)) = (r * p2 p) * (r * p2 p) * (q.den : Rat) := by grind
      have e2 : q * (p2 p * p2 p * (q.den : Rat)) = q * (q.den : Rat) * (p2 p * p2 p) := by grind
      rw [e1, e2, m1', qn]
      exact a3
    · show q ≤ mkRat ((rtN (q.num.natAbs * 2 ^ (2 * p) / q.den) + 1 : Nat) : Int) (2 ^ p) * mkRat ((rtN (q.num.natAbs * 2 ^ (2 * p) / q.den) + 1 : Nat) : Int) (2 ^ p)
      have a1 := nat_le_rat (Nat.mul_le_mul_right q.den (show q.num.natAbs * 2 ^ (2 * p) / q.den + 1 ≤ _ from g2))
      have a2 := le_floor (a := q.num.natAbs * 2 ^ (2 * p)) (d := q.den) D
      rw [← nn_mul] at a2
      have a3 := Rat.le_trans a2 a1
      rw [show 2 ^ (2 * p) = 2 ^ p * 2 ^ p by rw [← Nat.pow_add]; congr 1; omega] at *
      rw [nn_mul, nn_mul, nn_mul, nn_mul, qa] at a3
      generalize mkRat ((rtN (q.num.natAbs * (2 ^ p * 2 ^ p) / q.den) + 1 : Nat) : Int) (2 ^ p) = r at *
      generalize ((rtN (q.num.natAbs * (2 ^ p * 2 ^ p) / q.den) + 1 : Nat) : Rat) = R at *
      have PP : (0 : Rat) < p2 p * p2 p * (q.den : Rat) := Rat.mul_pos (Rat.mul_pos PR PR) DR
      refine le_by PP ?_
      have e1 : r * r * (p2 p * p2 p * (q.den : Rat)) = (r * p2 p) * (r * p2 p) * (q.den : Rat) := by grind
      have e2 : q * (p2 p * p2 p * (q.den : Rat)) = q * (q.den : Rat) * (p2 p * p2 p) := by grind
      rw [e1, e2, m2', qn]
      exact a3
    · show (mkRat ((rtN (q.num.natAbs * 2 ^ (2 * p) / q.den) + 1 : Nat) : Int) (2 ^ p) - mkRat (rtN (q.num.natAbs * 2 ^ (2 * p) / q.den) : Int) (2 ^ p)) * p2 p ≤ 1
      have e : ∀ a b c : Rat, (a - b) * c = a * c - b * c := by intro a b c; grind
      rw [e, m1', m2', eS]
      grind
theorem root_Of {A B : Rat} {L p : Nat} (hA : 0 ≤ A) (hB : 0 ≤ B) (zA : szR A L) (zB : szR B L) (hL1 : 1 ≤ L) (hL : L ≤ 300) (hp : p ≤ 512) :
    ∃ lo lo' hi' hi : Rat, Go.Ev.Fn CX 31 [ballR A B, .int .i64 (p : Int)] (.tup [ballR lo hi, .bool true]) ∧ 0 ≤ lo ∧ lo ≤ lo' ∧ lo * lo ≤ A ∧ A ≤ lo' * lo' ∧ (lo' - lo) * p2 p ≤ 1 ∧
      0 ≤ hi' ∧ hi' ≤ hi ∧ hi' * hi' ≤ B ∧ B ≤ hi * hi ∧ (hi - hi') * p2 p ≤ 1 ∧ szR lo (L + 40) ∧ szR hi (L + 40) := by
  obtain ⟨a1, a2, f, g1, g2, g3, g4, g5, g6, g7⟩ := root_Sqrt (RatA_rv zA) hA hL1 hL hp
  obtain ⟨b1, b2, f', k1, k2, k3, k4, k5, k6, k7⟩ := root_Sqrt (RatA_rv zB) hB hL1 hL hp
  refine ⟨a1, a2, b1, b2, ?_, g1, g2, g3, g4, g5, k1, k2, k3, k4, k5, g6, k7⟩
  clear g1 g2 g3 g4 g5 k1 k2 k3 k4 k5
  refine Go.Ev.Fn.intro (fn := Tryz.f31) (body := (Tryz.f31).body.get!) (by kernel_rfl) (by kernel_rfl) (by kernel_rfl) (fun _ => rfl) (Nat.le_of_ble_eq_true (by kernel_rfl)) ?_; unfold Tryz.f31; simp only [Option.get!_some]
  repeat (first | (simp only [go_sem, Nat.reduceEqDiff, Nat.reduceAdd, Nat.reduceSub, Nat.reduceMul, Nat.reduceLeDiff, Nat.reduceLT, reduceIte, reduceCtorEq, Nat.succ_ne_zero, elemsC, Int.reduceToNat, Nat.reducePow, Bool.not_true]) | (simp (disch := (first | omega | (simp only [AL, List.length_map]; omega))) only [AR, AL, ifT, ifF, take_all, List.length_cons, List.length_nil, Int.reduceToNat, Int.reducePow, Nat.reducePow, Bool.not_true]) | (refine wk_intro (by kernel_rfl) ?_) | (refine vf_of (by first | exact f | exact f') ?_))
end Go.Proofs.YthbjgdmcnonofaaGreat

/- gam.Ball, in the evaluator. -/
namespace Go.Proofs.YthbjgdmcnonofaaGreat
set_option linter.unusedSimpArgs false
set_option linter.unusedVariables false
set_option maxRecDepth 8000
open Go.Ev
theorem mk_p2 (a p : Nat) : mkRat (a : Int) (2 ^ p) * p2 p = (a : Rat) := mk_mul (a : Int) (Nat.pow_pos (by omega))
theorem many_pi {d : Nat} (h1 : 8 ≤ d) (h2 : d < 225) : ∃ m1 m2 : Rat, Go.Ev.Fn CX 30 [.int .i64 (d : Int)] (ballR m1 m2) ∧ m1 ≤ SQ * SQ ∧ SQ * SQ ≤ m2 ∧ (m2 - m1) * p2 d ≤ 1 ∧ 1 ≤ m1 ∧ szR m1 40 ∧ szR m2 40 := by
  obtain ⟨a, f, g1, g2⟩ := arcs_Pi h1 h2
  have P := p2_pos d
  have e1 := mk_p2 a d
  have e2 := mk_p2 (a + 1) d
  have k1 := sq_lo (by omega) g1
  have k2 := sq_hi (a := a + 1) (by omega) g2
  have k3 := sq_ge (by omega) g2
  have hA : a ≤ 2 ^ (d + 4) := by
    have x1 : rootPi * rootPi ≤ 2 ^ 804 := by decide +kernel
    have x2 : 2 ^ 804 = 2 ^ (d + 4) * 2 ^ (800 - d) := by rw [← Nat.pow_add]; congr 1; omega
    rw [x2] at x1
    exact Nat.le_of_mul_le_mul_right (Nat.le_trans g1 x1) (Nat.pow_pos (by omega))
  have hp : 2 ^ d ≤ 2 ^ (d + 4) := Nat.pow_le_pow_right (by omega) (by omega)
  have hB : a + 1 ≤ 2 ^ (d + 5) := by
    have : 2 ^ (d + 5) = 2 ^ (d + 4) * 2 := by rw [← Nat.pow_succ]
    have := Nat.pow_pos (a := 2) (n := d + 4) (by omega)
    omega
  have lp := lim_len_p2 hp (by omega)
  have la := lim_len_p2 hA (by omega)
  have lb := lim_len_p2 hB (by omega)
  refine ⟨_, _, f, le_by P (by rw [e1]; exact k1), le_by P (by rw [e2]; exact k2), ?_, le_by P (by rw [e1, Rat.one_mul]; exact n_le k3), szR_nat la lp (by omega), szR_nat lb lp (by omega)⟩
  have e : ∀ a b c : Rat, (a - b) * c = a * c - b * c := by intro a b c; grind
  rw [e, e1, e2]
  have : ((a + 1 : Nat) : Rat) = (a : Rat) + 1 := by exact_mod_cast rfl
  rw [this]
  grind
theorem many_root {m1 m2 : Rat} {d : Nat} (hd : d < 225) (h1 : m1 ≤ SQ * SQ) (h2 : SQ * SQ ≤ m2) (h3 : (m2 - m1) * p2 d ≤ 1) (h4 : 1 ≤ m1) (z1 : szR m1 40) (z2 : szR m2 40) :
    ∃ lo hi : Rat, Go.Ev.Fn CX 31 [ballR m1 m2, .int .i64 (d : Int)] (.tup [ballR lo hi, .bool true]) ∧ lo ≤ SQ ∧ SQ ≤ hi ∧ (hi - lo) * p2 d ≤ 3 ∧ szR lo 80 ∧ szR hi 80 := by
  have h5 : m1 ≤ m2 := Rat.le_trans h1 h2
  obtain ⟨lo, lo', hi', hi, f, g1, g2, g3, g4, g5, k1, k2, k3, k4, k5, y1, y2⟩ := root_Of (L := 40) (p := d) (A := m1) (B := m2) (by grind) (by grind) z1 z2 (by omega) (by omega) (by omega)
  refine ⟨lo, hi, f, sq_mono g1 SQ_nn (Rat.le_trans g3 h1), sq_mono SQ_nn (Rat.le_trans k1 k2) (Rat.le_trans h2 k4), root_width (p2_pos d) g2 g4 g5 g1 k1 k3 k5 h4 h3 h5, y1, y2⟩
section
variable {v : SV} {q : Rat} {roots pI : Int} {P : Nat}
theorem gam_Ball0 (hv : RatA v q 3) (hr : roots ≤ 0) (hr0 : -9223372036854775808 ≤ roots) : Go.Ev.Fn CX 8 [v, .int .i64 roots, .int .i64 pI] (ballR q q) := by
  have o := ball_Of hv (by omega)
  obtain ⟨s, n, d, rfl, -⟩ := hv
  refine Go.Ev.Fn.intro (fn := Tryz.f8) (body := (Tryz.f8).body.get!) (by kernel_rfl) (by kernel_rfl) (by kernel_rfl) (fun _ => rfl) (Nat.le_of_ble_eq_true (by kernel_rfl)) ?_; unfold Tryz.f8; simp only [Option.get!_some]
  repeat (first | (simp only [go_sem, Nat.reduceEqDiff, Nat.reduceAdd, Nat.reduceSub, Nat.reduceMul, Nat.reduceLeDiff, Nat.reduceLT, reduceIte, reduceCtorEq, Nat.succ_ne_zero, elemsC, Int.reduceToNat, Nat.reducePow]) | (simp (disch := (first | omega | (simp only [AL, List.length_map]; omega))) only [AR, AL, ifT, ifF, take_all, List.length_cons, List.length_nil, Int.reduceToNat, Int.reducePow, Nat.reducePow]) | (refine wk_intro (by kernel_rfl) ?_) | (refine vp_draw (id := 8) (l := []) (by kernel_rfl) ?_) | (refine vf_of (by first | exact o) ?_))
theorem gam_Ball (hv : RatA v q 3) (hr : 0 < roots) (hr2 : roots < 9223372036854775808) (hp : (pI ≤ 0 ∧ P = 0) ∨ pI = (P : Int)) (hP : P ≤ 120) (hp0 : -9223372036854775808 ≤ pI) :
    ∃ lo hi : Rat, Go.Ev.Fn CX 8 [v, .int .i64 roots, .int .i64 pI] (ballR lo hi) ∧ lo ≤ q * (if roots = 1 then SQ else SQ * SQ) ∧ q * (if roots = 1 then SQ else SQ * SQ) ≤ hi ∧ (hi - lo) * p2 P ≤ 1 ∧ szR lo 400 ∧ szR hi 400 := by
  have zq := szR_of hv (by omega)
  have n1 := rat_Norm hv (by omega)
  have o := ball_Of hv (by omega)
  obtain ⟨b1, b2⟩ := num_bound q
  have hlen := zq.1
  have e1 : (if (0 : Int) > pI then (0 : Int) else pI) = (P : Int) := by split <;> omega
  have e2 : (if (200 : Int) < (P : Int) then (200 : Int) else (P : Int)) = (P : Int) := if_neg (by omega)
  obtain ⟨m1, m2, f, h1, h2, h3, h4, z1, z2⟩ := many_pi (d := P + 8 + 32 * (lim q.num.natAbs).length) (by omega) (by omega)
  have ed : ((P + 8 + 32 * (lim q.num.natAbs).length : Nat) : Int) = (P : Int) + 8 + 32 * ((lim q.num.natAbs).length : Int) := by omega
  by_cases hr1 : roots = 1
  · rw [if_pos hr1]
    obtain ⟨lo, hi, f2, g1, g2, g3, y1, y2⟩ := many_root (by omega) h1 h2 h3 h4 z1 z2
    have mu := ball_Mul (L := 80) (szR_mono zq (by omega)) (szR_mono zq (by omega)) y1 y2 (by omega) (by omega)
    obtain ⟨c1, c2, c3⟩ := ball_one g1 g2 b1 b2
    have zl := loL_sz (L := 160) (f := q * lo) (l := [q * hi, q * lo, q * hi]) (szR_mono (szR_mul zq y1 (by omega)) (by omega)) (by
      intro x hx
      simp only [List.mem_cons, List.not_mem_nil, or_false] at hx
      rcases hx with rfl | rfl | rfl <;> exact szR_mono (szR_mul zq (by assumption) (by omega)) (by omega))
    have zh := hiL_sz (L := 160) (f := q * lo) (l := [q * hi, q * lo, q * hi]) (szR_mono (szR_mul zq y1 (by omega)) (by omega)) (by
      intro x hx
      simp only [List.mem_cons, List.not_mem_nil, or_false] at hx
      rcases hx with rfl | rfl | rfl <;> exact szR_mono (szR_mul zq (by assumption) (by omega)) (by omega))
    have tw := trim_width (P := P) rfl c3 g3
    generalize loL (q * lo) [q * hi, q * lo, q * hi] = x at *
    generalize hiL (q * lo) [q * hi, q * lo, q * hi] = y at *
    have tr := ball_Trim (p := P + 8) zl zh (by omega) (by omega) (by omega)
    refine ⟨_, _, ?_, Rat.le_trans (dnR_le x (P + 8)).1 c1, Rat.le_trans c2 ?_, tw, szR_mono (dnR_sz zl (by omega) (by omega)) (by omega), szR_mono (szR_neg (dnR_sz (szR_neg zh) (by omega) (by omega))) (by omega)⟩
    · rw [ed] at f f2
      rw [show ((P + 8 : Nat) : Int) = (P : Int) + 8 from rfl] at tr
      obtain ⟨s, n, d, rfl, -⟩ := hv
      clear h1 h2 h3 h4 g1 g2 g3 c1 c2 c3 tw b1 b2
      subst hr1
      generalize dnR x (P + 8) = x' at *
      generalize upR y (P + 8) = y' at *
      refine Go.Ev.Fn.intro (fn := Tryz.f8) (body := (Tryz.f8).body.get!) (by kernel_rfl) (by kernel_rfl) (by kernel_rfl) (fun _ => rfl) (Nat.le_of_ble_eq_true (by kernel_rfl)) ?_; unfold Tryz.f8; simp only [Option.get!_some]
      repeat (first | (simp only [go_sem, Nat.reduceEqDiff, Nat.reduceAdd, Nat.reduceSub, Nat.reduceMul, Nat.reduceLeDiff, Nat.reduceLT, reduceIte, reduceCtorEq, Nat.succ_ne_zero, elemsC, Int.reduceToNat, Nat.reducePow, e1, e2]) | (simp (disch := (first | omega | (simp only [AL, List.length_map]; omega))) only [AR, AL, ifT, ifF, take_all, List.length_cons, List.length_nil, Int.reduceToNat, Int.reducePow, Nat.reducePow, e1, e2]) | (refine wk_intro (by kernel_rfl) ?_) | (refine vp_draw (id := 8) (l := []) (by kernel_rfl) ?_) | (refine vf_of (by first | exact n1 | exact f | exact f2 | exact o | exact mu | exact tr) ?_))
    · have := (dnR_le (-y) (P + 8)).1
      unfold upR
      grind
  · rw [if_neg hr1]
    have h3' : (m2 - m1) * p2 (P + 8 + 32 * (lim q.num.natAbs).length) ≤ 3 := Rat.le_trans h3 (by decide +kernel)
    have mu := ball_Mul (L := 80) (szR_mono zq (by omega)) (szR_mono zq (by omega)) (szR_mono z1 (by omega)) (szR_mono z2 (by omega)) (by omega) (by omega)
    obtain ⟨c1, c2, c3⟩ := ball_one h1 h2 b1 b2
    have zl := loL_sz (L := 160) (f := q * m1) (l := [q * m2, q * m1, q * m2]) (szR_mono (szR_mul zq z1 (by omega)) (by omega)) (by
      intro x hx
      simp only [List.mem_cons, List.not_mem_nil, or_false] at hx
      rcases hx with rfl | rfl | rfl <;> exact szR_mono (szR_mul zq (by assumption) (by omega)) (by omega))
    have zh := hiL_sz (L := 160) (f := q * m1) (l := [q * m2, q * m1, q * m2]) (szR_mono (szR_mul zq z1 (by omega)) (by omega)) (by
      intro x hx
      simp only [List.mem_cons, List.not_mem_nil, or_false] at hx
      rcases hx with rfl | rfl | rfl <;> exact szR_mono (szR_mul zq (by assumption) (by omega)) (by omega))
    have tw := trim_width (P := P) rfl c3 h3'
    generalize loL (q * m1) [q * m2, q * m1, q * m2] = x at *
    generalize hiL (q * m1) [q * m2, q * m1, q * m2] = y at *
    have tr := ball_Trim (p := P + 8) zl zh (by omega) (by omega) (by omega)
    refine ⟨_, _, ?_, Rat.le_trans (dnR_le x (P + 8)).1 c1, Rat.le_trans c2 ?_, tw, szR_mono (dnR_sz zl (by omega) (by omega)) (by omega), szR_mono (szR_neg (dnR_sz (szR_neg zh) (by omega) (by omega))) (by omega)⟩
    · rw [ed] at f
      rw [show ((P + 8 : Nat) : Int) = (P : Int) + 8 from rfl] at tr
      obtain ⟨s, n, d, rfl, -⟩ := hv
      clear h1 h2 h3 h4 h3' c1 c2 c3 tw b1 b2
      generalize dnR x (P + 8) = x' at *
      generalize upR y (P + 8) = y' at *
      refine Go.Ev.Fn.intro (fn := Tryz.f8) (body := (Tryz.f8).body.get!) (by kernel_rfl) (by kernel_rfl) (by kernel_rfl) (fun _ => rfl) (Nat.le_of_ble_eq_true (by kernel_rfl)) ?_; unfold Tryz.f8; simp only [Option.get!_some]
      repeat (first | (simp only [go_sem, Nat.reduceEqDiff, Nat.reduceAdd, Nat.reduceSub, Nat.reduceMul, Nat.reduceLeDiff, Nat.reduceLT, reduceIte, reduceCtorEq, Nat.succ_ne_zero, elemsC, Int.reduceToNat, Nat.reducePow, e1, e2]) | (simp (disch := (first | omega | (simp only [AL, List.length_map]; omega))) only [AR, AL, ifT, ifF, take_all, List.length_cons, List.length_nil, Int.reduceToNat, Int.reducePow, Nat.reducePow, e1, e2]) | (refine wk_intro (by kernel_rfl) ?_) | (refine vp_draw (id := 8) (l := []) (by kernel_rfl) ?_) | (refine vf_of (by first | exact n1 | exact f | exact o | exact mu | exact tr) ?_))
    · have := (dnR_le (-y) (P + 8)).1
      unfold upR
      grind
end
end Go.Proofs.YthbjgdmcnonofaaGreat
