/- Part 9 of the proof: the evaluator, contracts of functions and their plain laws (joined by program). No condition. -/
import Derived.Test.YtemnjalaincijaaGreatPart8
import Derived.KernelRfl
/- nat.Bits, fix.Small; vernierref1.Bits, vernierref4.root, Sqrt, in the evaluator. -/
namespace Go.Proofs.YtemnjalaincijaaGreat
set_option linter.unusedSimpArgs false
set_option linter.unusedVariables false
set_option maxRecDepth 8000
open Go.Ev
theorem blen_iff {x k : Nat} : blen x ≤ k ↔ x < 2 ^ k := by
  unfold blen
  by_cases h : x = 0
  · rw [if_pos h, h]
    have : 0 < 2 ^ k := Nat.pow_pos (by omega)
    omega
  · rw [if_neg h]
    have := Nat.log2_lt (n := x) (k := k) h
    omega
theorem blen_lims (N : Nat) (h : N ≠ 0) : blen N = 32 * ((lim N).length - 1) + blen ((lim N).getD ((lim N).length - 1) 0) := by
  have h0 := lim_pos h
  have ht := trimL_getD (trimL_lim N) h0
  have hw := wth_lim N
  have hok := okL_lim N
  generalize lim N = a at *
  have h1 := wth_at a (w := a.length - 1) (by omega)
  rw [List.drop_of_length_le (by omega), show wth [] = 0 from rfl, Nat.mul_zero, Nat.add_zero, hw] at h1
  have h2 := wth_lt (okL_take hok (a.length - 1))
  rw [List.length_take, Nat.min_eq_left (by omega)] at h2
  rw [show (4294967296 : Nat) = 2 ^ 32 from rfl, ← Nat.pow_mul] at h1 h2
  have hp : 0 < 2 ^ (32 * (a.length - 1)) := Nat.pow_pos (by omega)
  have h3 : N / 2 ^ (32 * (a.length - 1)) = a.getD (a.length - 1) 0 := by
    rw [h1, Nat.add_mul_div_left _ _ hp, Nat.div_eq_of_lt h2, Nat.zero_add]
  have h4 : 2 ^ (32 * (a.length - 1)) ≤ N := by
    have := Nat.mul_le_mul_left (2 ^ (32 * (a.length - 1))) (show 1 ≤ a.getD (a.length - 1) 0 by omega)
    omega
  rw [blen_shift h4, h3]
theorem nat_Bits {N : Nat} (h : (lim N).length ≤ 300000000) : Go.Ev.Fn CX 182 [natV (lim N)] (.int .i64 (blen N : Nat)) := by
  have t := nat_trim (lim N) (okL_lim N) (by omega)
  rw [wth_lim] at t
  by_cases h0 : N = 0
  · subst h0
    have e : (lim 0).length = 0 := by rw [lim_zero]; rfl
    have e2 : blen 0 = 0 := rfl
    rw [e2]
    refine Go.Ev.Fn.intro (fn := Tryz.f182) (body := (Tryz.f182).body.get!) (by kernel_rfl) (by kernel_rfl) (by kernel_rfl) (fun _ => rfl) (Nat.le_of_ble_eq_true (by kernel_rfl)) ?_; unfold Tryz.f182; simp only [Option.get!_some]
    repeat (first | (simp only [go_sem, Nat.reduceEqDiff, Nat.reduceAdd, Nat.reduceSub, Nat.reduceMul, Nat.reduceLeDiff, Nat.reduceLT, reduceIte, reduceCtorEq, Nat.succ_ne_zero, elemsC, Int.reduceToNat, Nat.reducePow]) | (simp (disch := (first | omega | (simp only [AL, List.length_map]; omega))) only [AR, AL, ifT, ifF, take_all, List.length_cons, List.length_nil, Int.reduceToNat, Int.reducePow, Nat.reducePow]) | (refine wk_intro (by kernel_rfl) ?_) | (refine vf_of (by first | exact t) ?_))
    rfl
  · have e := blen_lims N h0
    have hl := lim_pos h0
    have hg := getD_lt (okL_lim N) ((lim N).length - 1)
    have b := bits_Len32 _ hg
    have hb : blen ((lim N).getD ((lim N).length - 1) 0) ≤ 32 := blen_iff.2 hg
    rw [e]
    generalize hgx : (lim N).getD ((lim N).length - 1) 0 = x at *
    generalize hcs : lim N = cs at *
    have hi : (cs.map limb).length = cs.length := List.length_map _
    have hat : ((cs.map limb).drop (cs.length - 1)).head? = some (limb x) := by
      rw [List.head?_drop, List.getElem?_map, List.getElem?_eq_getElem (by omega)]
      rw [List.getD_eq_getElem?_getD, List.getElem?_eq_getElem (by omega)] at hgx
      rw [← hgx]; rfl
    generalize blen x = y at *
    refine Go.Ev.Fn.intro (fn := Tryz.f182) (body := (Tryz.f182).body.get!) (by kernel_rfl) (by kernel_rfl) (by kernel_rfl) (fun _ => rfl) (Nat.le_of_ble_eq_true (by kernel_rfl)) ?_; unfold Tryz.f182; simp only [Option.get!_some]
    repeat (first | (simp only [go_sem, Nat.reduceEqDiff, Nat.reduceAdd, Nat.reduceSub, Nat.reduceMul, Nat.reduceLeDiff, Nat.reduceLT, reduceIte, reduceCtorEq, Nat.succ_ne_zero, elemsC, Int.reduceToNat, Nat.reducePow, hgx]) | (simp (disch := (first | omega | (simp only [AL, List.length_map]; omega))) only [AR, AL, ifT, ifF, take_all, List.length_cons, List.length_nil, Int.reduceToNat, Int.reducePow, Nat.reducePow, hgx]) | (refine wk_intro (by kernel_rfl) ?_) | (refine vf_of (by first | exact t | exact b) ?_))
    congr 1
theorem fix_Small {a b : Nat} (h : (lim b).length ≤ 300000000) {k : Nat} (hk : k ≤ 1000) : Go.Ev.Fn CX 129 [spanV a b, .int .i64 (k : Int)] (.bool (decide (b < 2 ^ k))) := by
  have s := nat_Bits h
  rw [show decide (b < 2 ^ k) = decide (((blen b : Nat) : Int) ≤ (k : Int)) from decide_eq_decide.2 (by rw [← blen_iff]; omega)]
  generalize blen b = x at *
  refine Go.Ev.Fn.intro (fn := Tryz.f129) (body := (Tryz.f129).body.get!) (by kernel_rfl) (by kernel_rfl) (by kernel_rfl) (fun _ => rfl) (Nat.le_of_ble_eq_true (by kernel_rfl)) ?_; unfold Tryz.f129; simp only [Option.get!_some]
  repeat (first | (simp only [go_sem, Nat.reduceEqDiff, Nat.reduceAdd, Nat.reduceSub, Nat.reduceMul, Nat.reduceLeDiff, Nat.reduceLT, reduceIte, reduceCtorEq, Nat.succ_ne_zero, elemsC, Int.reduceToNat, Nat.reducePow]) | (simp (disch := (first | omega | (simp only [AL, List.length_map]; omega))) only [AR, AL, ifT, ifF, take_all, List.length_cons, List.length_nil, Int.reduceToNat, Int.reducePow, Nat.reducePow]) | (refine wk_intro (by kernel_rfl) ?_) | (refine vf_of (by first | exact s) ?_))
end Go.Proofs.YtemnjalaincijaaGreat

/- vernierref1.Bits; vernierref4.root, Sqrt, in the evaluator. -/
namespace Go.Proofs.YtemnjalaincijaaGreat
set_option linter.unusedSimpArgs false
set_option linter.unusedVariables false
set_option maxRecDepth 8000
open Go.Ev
theorem blen_half {x : Nat} (h : x ≠ 0) : blen x = blen (x / 2) + 1 := by
  have h1 := blen_iff (x := x) (k := blen x)
  have h2 := blen_iff (x := x / 2) (k := blen (x / 2))
  have h3 := blen_iff (x := x) (k := blen (x / 2) + 1)
  have h4 := blen_iff (x := x / 2) (k := blen x - 1)
  have h5 : blen x ≠ 0 := fun e => by rw [e] at h1; simp at h1; omega
  have h6 : x < 2 ^ blen x := h1.1 (Nat.le_refl _)
  have h7 : x / 2 < 2 ^ blen (x / 2) := h2.1 (Nat.le_refl _)
  rw [Nat.pow_succ] at h3
  have h8 : 2 ^ blen x = 2 ^ (blen x - 1) * 2 := by rw [← Nat.pow_succ, Nat.succ_eq_add_one, show blen x - 1 + 1 = blen x by omega]
  have h9 := h3.2 (by omega)
  have h10 := h4.2 (by omega)
  omega
theorem ref1_Bits {N : Nat} (h : (lim N).length ≤ 1000000) : Go.Ev.Fn CX 217 [natV (lim N)] (.int .i64 (blen N : Nat)) := by
  have t := ref1_Trim (lim N) (okL_lim N) (by omega)
  rw [wth_lim] at t
  by_cases h0 : N = 0
  · subst h0
    have e : (lim 0).length = 0 := by rw [lim_zero]; rfl
    have e2 : blen 0 = 0 := rfl
    rw [e2]
    refine Go.Ev.Fn.intro (fn := Tryz.f217) (body := (Tryz.f217).body.get!) (by kernel_rfl) (by kernel_rfl) (by kernel_rfl) (fun _ => rfl) (Nat.le_of_ble_eq_true (by kernel_rfl)) ?_; unfold Tryz.f217; simp only [Option.get!_some]
    repeat (first | (simp only [go_sem, Nat.reduceEqDiff, Nat.reduceAdd, Nat.reduceSub, Nat.reduceMul, Nat.reduceLeDiff, Nat.reduceLT, reduceIte, reduceCtorEq, Nat.succ_ne_zero, elemsC, Int.reduceToNat, Nat.reducePow]) | (simp (disch := (first | omega | (simp only [AL, List.length_map]; omega))) only [AR, AL, ifT, ifF, take_all, List.length_cons, List.length_nil, Int.reduceToNat, Int.reducePow, Nat.reducePow]) | (refine wk_intro (by kernel_rfl) ?_) | (refine vf_of (by first | exact t) ?_))
    rfl
  · have e := blen_lims N h0
    have hl := lim_pos h0
    have hg := getD_lt (okL_lim N) ((lim N).length - 1)
    have hb : blen ((lim N).getD ((lim N).length - 1) 0) ≤ 32 := blen_iff.2 hg
    rw [e]
    generalize hgx : (lim N).getD ((lim N).length - 1) 0 = x at *
    generalize hcs : lim N = cs at *
    refine Go.Ev.Fn.intro (fn := Tryz.f217) (body := (Tryz.f217).body.get!) (by kernel_rfl) (by kernel_rfl) (by kernel_rfl) (fun _ => rfl) (Nat.le_of_ble_eq_true (by kernel_rfl)) ?_; unfold Tryz.f217; simp only [Option.get!_some]
    repeat (first | (simp only [go_sem, Nat.reduceEqDiff, Nat.reduceAdd, Nat.reduceSub, Nat.reduceMul, Nat.reduceLeDiff, Nat.reduceLT, reduceIte, reduceCtorEq, Nat.succ_ne_zero, elemsC, Int.reduceToNat, Nat.reducePow, hgx]) | (simp (disch := (first | omega | (simp only [AL, List.length_map]; omega))) only [AR, AL, ifT, ifF, take_all, List.length_cons, List.length_nil, Int.reduceToNat, Int.reducePow, Nat.reducePow, hgx]) | (refine wk_intro (by kernel_rfl) ?_) | (refine vf_of (by first | exact t) ?_))
    refine vp_loop_inv (fun s => ∃ y : Nat, y < 4294967296 ∧ blen y ≤ 32 ∧ s.tmp 5 = .sv (.int .u32 (y : Int)) ∧ blen y ≤ blen x ∧ s.tmp 4 = .sv (.int .i64 ((32 * (cs.length - 1) + (blen x - blen y) : Nat) : Int)))
      (fun s => match s.tmp 5 with | .sv (.int _ i) => i.toNat | _ => 0) ⟨x, hg, hb, rfl, Nat.le_refl _, by rw [Nat.sub_self, Nat.add_zero]; first | rfl | (congr 2; omega)⟩ ?_
    rintro s ⟨y, g1, g2, i5, g3, i4⟩
    by_cases hy : y = 0
    · subst hy
      rw [show blen 0 = 0 from rfl, Nat.sub_zero] at i4
      repeat (first | (simp only [go_sem, Nat.reduceEqDiff, Nat.reduceAdd, Nat.reduceSub, Nat.reduceMul, Nat.reduceLeDiff, Nat.reduceLT, reduceIte, reduceCtorEq, Nat.succ_ne_zero, elemsC, Int.reduceToNat, Nat.reducePow, i5, i4]) | (simp (disch := (first | omega | (simp only [AL, List.length_map]; omega))) only [AR, AL, ifT, ifF, take_all, List.length_cons, List.length_nil, Int.reduceToNat, Int.reducePow, Nat.reducePow, i5, i4]) | (refine wk_intro (by kernel_rfl) ?_))
    · have e2 := blen_half hy
      repeat (first | (simp only [go_sem, Nat.reduceEqDiff, Nat.reduceAdd, Nat.reduceSub, Nat.reduceMul, Nat.reduceLeDiff, Nat.reduceLT, reduceIte, reduceCtorEq, Nat.succ_ne_zero, elemsC, Int.reduceToNat, Nat.reducePow, i5, i4]) | (simp (disch := (first | omega | (simp only [AL, List.length_map]; omega))) only [AR, AL, ifT, ifF, take_all, List.length_cons, List.length_nil, Int.reduceToNat, Int.reducePow, Nat.reducePow, i5, i4]) | (refine wk_intro (by kernel_rfl) ?_))
      exact ⟨⟨y / 2, by omega, by omega, by first | rfl | (congr 2; omega), by omega, by first | rfl | (congr 2; omega)⟩, by omega⟩
/-- There is a root, rounded down. -/
theorem sqrt_ex (a : Nat) : ∃ r, r * r ≤ a ∧ a < (r + 1) * (r + 1) := by
  induction a with
  | zero => exact ⟨0, by omega, by omega⟩
  | succ a ih =>
    obtain ⟨r, h1, h2⟩ := ih
    by_cases h : (r + 1) * (r + 1) ≤ a + 1
    · refine ⟨r + 1, h, ?_⟩
      have : (r + 1 + 1) * (r + 1 + 1) = (r + 1) * (r + 1) + (r + 1) + (r + 2) := by
        rw [Nat.add_mul, Nat.mul_add]; omega
      omega
    · exact ⟨r, by omega, by omega⟩
noncomputable def rtN (a : Nat) : Nat := (sqrt_ex a).choose
theorem rtN_le (a : Nat) : rtN a * rtN a ≤ a := (sqrt_ex a).choose_spec.1
theorem lt_rtN (a : Nat) : a < (rtN a + 1) * (rtN a + 1) := (sqrt_ex a).choose_spec.2
theorem rtN_eq {a r : Nat} (h1 : r * r ≤ a) (h2 : a < (r + 1) * (r + 1)) : r = rtN a := by
  have h3 := rtN_le a
  have h4 := lt_rtN a
  rcases Nat.lt_trichotomy r (rtN a) with h | h | h
  · have := Nat.mul_le_mul (show r + 1 ≤ rtN a from h) (show r + 1 ≤ rtN a from h)
    omega
  · exact h
  · have := Nat.mul_le_mul (show rtN a + 1 ≤ r from h) (show rtN a + 1 ≤ r from h)
    omega
theorem rtN_self (a : Nat) : rtN a ≤ a := by
  have := rtN_le a
  rcases Nat.eq_zero_or_pos (rtN a) with h | h
  · omega
  · have := Nat.le_mul_of_pos_left (rtN a) h
    omega
theorem ref4_root {a : Nat} (h : (lim a).length ≤ 100) : Go.Ev.Fn CX 195 [natV (lim a)] (natV (lim (rtN a))) := by
  have b := ref1_Bits (N := a) (by omega)
  have hb : a < 2 ^ blen a := blen_iff.1 (Nat.le_refl _)
  have hB : blen a ≤ 3200 := by
    obtain ⟨K, hK⟩ : ∃ K : Nat, K = 3200 := ⟨_, rfl⟩
    rw [← hK]
    refine blen_iff.2 (Nat.lt_of_lt_of_le lim_len_pow ?_)
    rw [show (4294967296 : Nat) = 2 ^ 32 from rfl, ← Nat.pow_mul]
    exact Nat.pow_le_pow_right (by omega) (by omega)
  generalize hBB : blen a = B at *
  have hK : a < 2 ^ ((B + 1) / 2) * 2 ^ ((B + 1) / 2) := by
    rw [← Nat.pow_add]
    exact Nat.lt_of_lt_of_le hb (Nat.pow_le_pow_right (by omega) (by omega))
  have tq : ((B : Int) + 1).tdiv 2 = (((B + 1) / 2 : Nat) : Int) := _root_.id rfl
  have tq2 : ((B + 1 : Nat) : Int).tdiv 2 = (((B + 1) / 2 : Nat) : Int) := _root_.id rfl
  refine Go.Ev.Fn.intro (fn := Tryz.f195) (body := (Tryz.f195).body.get!) (by kernel_rfl) (by kernel_rfl) (by kernel_rfl) (fun _ => rfl) (Nat.le_of_ble_eq_true (by kernel_rfl)) ?_; unfold Tryz.f195; simp only [Option.get!_some]
  repeat (first | (simp only [go_sem, Nat.reduceEqDiff, Nat.reduceAdd, Nat.reduceSub, Nat.reduceMul, Nat.reduceLeDiff, Nat.reduceLT, reduceIte, reduceCtorEq, Nat.succ_ne_zero, elemsC, Int.reduceToNat, Nat.reducePow, tq, tq2]) | (simp (disch := (first | omega | (simp only [AL, List.length_map]; omega))) only [AR, AL, ifT, ifF, take_all, List.length_cons, List.length_nil, Int.reduceToNat, Int.reducePow, Nat.reducePow, tq, tq2]) | (refine wk_intro (by kernel_rfl) ?_) | (refine vf_of (by first | exact b) ?_))
  refine vp_loop_inv (fun s => s.tmp 0 = .sv (natV (lim a)) ∧ ∃ k r : Nat, k ≤ 1602 ∧ s.tmp 4 = .sv (.int .i64 ((k : Int) - 1)) ∧ (s.tmp 3 = .sv (natV (lim r)) ∨ r = 0 ∧ s.tmp 3 = .nil) ∧ r * r ≤ a ∧ a < (r + 2 ^ k) * (r + 2 ^ k))
    (fun s => match s.tmp 4 with | .sv (.int _ i) => (i + 1).toNat | _ => 0) ?_ ?_
  · refine ⟨rfl, (B + 1) / 2 + 1, 0, by omega, by rw [show ((((B + 1) / 2 + 1 : Nat) : Int) - 1) = (((B + 1) / 2 : Nat) : Int) by omega]; rfl, .inr ⟨rfl, rfl⟩, by omega, ?_⟩
    rw [Nat.zero_add, Nat.pow_succ]
    have := Nat.mul_le_mul (Nat.le_mul_of_pos_right (2 ^ ((B + 1) / 2)) (show 0 < 2 by omega)) (Nat.le_mul_of_pos_right (2 ^ ((B + 1) / 2)) (show 0 < 2 by omega))
    omega
  rintro s ⟨i0, k, r, hk, i4, i3, g1, g2⟩
  rcases Nat.eq_zero_or_pos k with h0 | h0
  · subst h0
    obtain rfl := rtN_eq g1 g2
    rcases i3 with i3 | ⟨e, i3⟩
    · repeat (first | (simp only [go_sem, Nat.reduceEqDiff, Nat.reduceAdd, Nat.reduceSub, Nat.reduceMul, Nat.reduceLeDiff, Nat.reduceLT, reduceIte, reduceCtorEq, Nat.succ_ne_zero, elemsC, Int.reduceToNat, Nat.reducePow, i0, i4, i3]) | (simp (disch := (first | omega | (simp only [AL, List.length_map]; omega))) only [AR, AL, ifT, ifF, take_all, List.length_cons, List.length_nil, Int.reduceToNat, Int.reducePow, Nat.reducePow, i0, i4, i3]) | (refine wk_intro (by kernel_rfl) ?_))
    · rw [e, lim_zero]
      repeat (first | (simp only [go_sem, Nat.reduceEqDiff, Nat.reduceAdd, Nat.reduceSub, Nat.reduceMul, Nat.reduceLeDiff, Nat.reduceLT, reduceIte, reduceCtorEq, Nat.succ_ne_zero, elemsC, Int.reduceToNat, Nat.reducePow, i0, i4, i3]) | (simp (disch := (first | omega | (simp only [AL, List.length_map]; omega))) only [AR, AL, ifT, ifF, take_all, List.length_cons, List.length_nil, Int.reduceToNat, Int.reducePow, Nat.reducePow, i0, i4, i3]) | (refine wk_intro (by kernel_rfl) ?_))
      rfl
  · obtain ⟨j, rfl⟩ : ∃ j, k = j + 1 := ⟨k - 1, by omega⟩
    have p := ref4_pow2 (n := j) (by omega)
    have l := lim_len_shl (a := 1) (n := j)
    have l1 := lim_len1
    rw [Nat.one_mul] at l
    have lr : (lim r).length ≤ 100 := Nat.le_trans (lim_len_mono (by rcases Nat.eq_zero_or_pos r with e | e; (omega); (have := Nat.le_mul_of_pos_left r e; omega))) h
    have s1 := ref1_AddL (N := r) (D := 2 ^ j) (by omega) (by omega)
    have l2 := lim_len_add (a := r) (b := 2 ^ j) (L := 200) (by omega) (by omega)
    have m := ref1_MulL (N := r + 2 ^ j) (D := r + 2 ^ j) (by omega) (by omega)
    have l3 := lim_len_mul (a := r + 2 ^ j) (b := r + 2 ^ j)
    have c := ref1_CmpL (N := (r + 2 ^ j) * (r + 2 ^ j)) (D := a) (by omega) (by omega)
    have e1 : decide (cmpN ((r + 2 ^ j) * (r + 2 ^ j)) a ≤ 0) = decide ((r + 2 ^ j) * (r + 2 ^ j) ≤ a) := decide_eq_decide.2 (by unfold cmpN; split <;> (try split) <;> omega)
    have e4 : ((j + 1 : Nat) : Int) - 1 = (j : Int) := by omega
    rw [e4] at i4
    generalize hz : cmpN ((r + 2 ^ j) * (r + 2 ^ j)) a = z at *
    by_cases hle : (r + 2 ^ j) * (r + 2 ^ j) ≤ a
    · rw [decide_eq_true hle] at e1
      rw [show r + 2 ^ (j + 1) = r + 2 ^ j + 2 ^ j by rw [Nat.pow_succ]; omega] at g2
      generalize hu : (r + 2 ^ j) * (r + 2 ^ j) = u at *
      generalize hv : r + 2 ^ j = v at *
      generalize hw : (v + 2 ^ j) * (v + 2 ^ j) = w at *
      rcases i3 with i3 | ⟨e, i3⟩
      · repeat (first | (simp only [go_sem, Nat.reduceEqDiff, Nat.reduceAdd, Nat.reduceSub, Nat.reduceMul, Nat.reduceLeDiff, Nat.reduceLT, reduceIte, reduceCtorEq, Nat.succ_ne_zero, elemsC, Int.reduceToNat, Nat.reducePow, i0, i4, i3]) | (simp (disch := (first | omega | (simp only [AL, List.length_map]; omega))) only [AR, AL, ifT, ifF, take_all, List.length_cons, List.length_nil, Int.reduceToNat, Int.reducePow, Nat.reducePow, i0, i4, i3]) | (refine wk_intro (by kernel_rfl) ?_))
        repeat (first | (simp only [go_sem, Nat.reduceEqDiff, Nat.reduceAdd, Nat.reduceSub, Nat.reduceMul, Nat.reduceLeDiff, Nat.reduceLT, reduceIte, reduceCtorEq, Nat.succ_ne_zero, elemsC, Int.reduceToNat, Nat.reducePow, i0, i4, i3, e1]) | (simp (disch := (first | omega | (simp only [AL, List.length_map]; omega))) only [AR, AL, ifT, ifF, take_all, List.length_cons, List.length_nil, Int.reduceToNat, Int.reducePow, Nat.reducePow, i0, i4, i3, e1]) | (refine wk_intro (by kernel_rfl) ?_) | (refine vf_of (by first | exact p | exact s1 | exact m | exact c) ?_))
        exact ⟨⟨j, v, by omega, by first | rfl | (congr 2; omega), .inl rfl, by rw [hu]; exact hle, by rw [hw]; exact g2⟩, by omega⟩
      · subst e
        rw [lim_zero] at s1
        repeat (first | (simp only [go_sem, Nat.reduceEqDiff, Nat.reduceAdd, Nat.reduceSub, Nat.reduceMul, Nat.reduceLeDiff, Nat.reduceLT, reduceIte, reduceCtorEq, Nat.succ_ne_zero, elemsC, Int.reduceToNat, Nat.reducePow, i0, i4, i3, e1]) | (simp (disch := (first | omega | (simp only [AL, List.length_map]; omega))) only [AR, AL, ifT, ifF, take_all, List.length_cons, List.length_nil, Int.reduceToNat, Int.reducePow, Nat.reducePow, i0, i4, i3, e1]) | (refine wk_intro (by kernel_rfl) ?_) | (refine vf_of (by first | exact p | exact s1 | exact m | exact c) ?_))
        exact ⟨⟨j, v, by omega, by first | rfl | (congr 2; omega), .inl rfl, by rw [hu]; exact hle, by rw [hw]; exact g2⟩, by omega⟩
    · rw [decide_eq_false hle] at e1
      generalize hu : (r + 2 ^ j) * (r + 2 ^ j) = u at *
      generalize hv : r + 2 ^ j = v at *
      rcases i3 with i3 | ⟨e, i3⟩
      · repeat (first | (simp only [go_sem, Nat.reduceEqDiff, Nat.reduceAdd, Nat.reduceSub, Nat.reduceMul, Nat.reduceLeDiff, Nat.reduceLT, reduceIte, reduceCtorEq, Nat.succ_ne_zero, elemsC, Int.reduceToNat, Nat.reducePow, i0, i4, i3]) | (simp (disch := (first | omega | (simp only [AL, List.length_map]; omega))) only [AR, AL, ifT, ifF, take_all, List.length_cons, List.length_nil, Int.reduceToNat, Int.reducePow, Nat.reducePow, i0, i4, i3]) | (refine wk_intro (by kernel_rfl) ?_))
        repeat (first | (simp only [go_sem, Nat.reduceEqDiff, Nat.reduceAdd, Nat.reduceSub, Nat.reduceMul, Nat.reduceLeDiff, Nat.reduceLT, reduceIte, reduceCtorEq, Nat.succ_ne_zero, elemsC, Int.reduceToNat, Nat.reducePow, i0, i4, i3, e1]) | (simp (disch := (first | omega | (simp only [AL, List.length_map]; omega))) only [AR, AL, ifT, ifF, take_all, List.length_cons, List.length_nil, Int.reduceToNat, Int.reducePow, Nat.reducePow, i0, i4, i3, e1]) | (refine wk_intro (by kernel_rfl) ?_) | (refine vf_of (by first | exact p | exact s1 | exact m | exact c) ?_))
        exact ⟨⟨j, r, by omega, by first | rfl | (congr 2; omega), .inl (by first | rfl | exact i3), g1, by rw [hv, hu]; omega⟩, by omega⟩
      · subst e
        rw [lim_zero] at s1
        repeat (first | (simp only [go_sem, Nat.reduceEqDiff, Nat.reduceAdd, Nat.reduceSub, Nat.reduceMul, Nat.reduceLeDiff, Nat.reduceLT, reduceIte, reduceCtorEq, Nat.succ_ne_zero, elemsC, Int.reduceToNat, Nat.reducePow, i0, i4, i3, e1]) | (simp (disch := (first | omega | (simp only [AL, List.length_map]; omega))) only [AR, AL, ifT, ifF, take_all, List.length_cons, List.length_nil, Int.reduceToNat, Int.reducePow, Nat.reducePow, i0, i4, i3, e1]) | (refine wk_intro (by kernel_rfl) ?_) | (refine vf_of (by first | exact p | exact s1 | exact m | exact c) ?_))
        exact ⟨⟨j, 0, by omega, by first | rfl | (congr 2; omega), .inr (by first | rfl | exact ⟨rfl, rfl⟩ | exact ⟨rfl, i3⟩), g1, by rw [hv, hu]; omega⟩, by omega⟩
theorem ref4_Sqrt {a b w : Nat} (ha : (lim a).length ≤ 60) (hb : (lim b).length ≤ 60) (hw : w ≤ 1000) : Go.Ev.Fn CX 159 [ivV (a : Int) (b : Int), .int .i64 (w : Int)] (ivV (rtN (a * 2 ^ w) : Int) ((rtN (b * 2 ^ w) + 1 : Nat) : Int)) := by
  have s1 := ref1_shl (N := a) (m := w) (by omega) (by omega)
  have s2 := ref1_shl (N := b) (m := w) (by omega) (by omega)
  have l1 := lim_len_shl (a := a) (n := w)
  have l2 := lim_len_shl (a := b) (n := w)
  have r1 := ref4_root (a := a * 2 ^ w) (by omega)
  have r2 := ref4_root (a := b * 2 ^ w) (by omega)
  have o := ref4_Whole 1 (by omega)
  have l3 := lim_len_mono (rtN_self (b * 2 ^ w))
  have l4 : (lim (rtN (b * 2 ^ w) : Int).natAbs).length ≤ 1000 := by rw [Int.natAbs_natCast]; omega
  have p := ref4_Plus (rtN (b * 2 ^ w) : Int) 1 (by omega) (Nat.le_trans lim_len1 (by omega))
  have q : ∀ n : Nat, intV (n : Int) = .agg [.bool false, natV (lim n)] := fun n => iv_eq (Int.natAbs_natCast n) (decide_eq_false (by omega))
  rw [show ((rtN (b * 2 ^ w) : Int) + 1) = ((rtN (b * 2 ^ w) + 1 : Nat) : Int) from rfl, q, q] at p
  have qq : ∀ m n : Nat, ivV (m : Int) (n : Int) = .agg [.bool false, natV (lim m), .bool false, natV (lim n)] := fun m n => by
    show SV.agg [.bool (decide ((m : Int) < 0)), natV (lim (m : Int).natAbs), .bool (decide ((n : Int) < 0)), natV (lim (n : Int).natAbs)] = _
    rw [Int.natAbs_natCast, Int.natAbs_natCast, decide_eq_false (by omega), decide_eq_false (by omega)]
  rw [qq, qq]
  generalize rtN (b * 2 ^ w) + 1 = y at *
  generalize rtN (b * 2 ^ w) = z at *
  generalize rtN (a * 2 ^ w) = x at *
  generalize a * 2 ^ w = u at *
  generalize b * 2 ^ w = v at *
  refine Go.Ev.Fn.intro (fn := Tryz.f159) (body := (Tryz.f159).body.get!) (by kernel_rfl) (by kernel_rfl) (by kernel_rfl) (fun _ => rfl) (Nat.le_of_ble_eq_true (by kernel_rfl)) ?_; unfold Tryz.f159; simp only [Option.get!_some]
  repeat (first | (simp only [go_sem, Nat.reduceEqDiff, Nat.reduceAdd, Nat.reduceSub, Nat.reduceMul, Nat.reduceLeDiff, Nat.reduceLT, reduceIte, reduceCtorEq, Nat.succ_ne_zero, elemsC, Int.reduceToNat, Nat.reducePow]) | (simp (disch := (first | omega | (simp only [AL, List.length_map]; omega))) only [AR, AL, ifT, ifF, take_all, List.length_cons, List.length_nil, Int.reduceToNat, Int.reducePow, Nat.reducePow]) | (refine wk_intro (by kernel_rfl) ?_) | (refine vp_draw (id := 1) (l := [7, 9, 14, 16]) (by kernel_rfl) ?_) | (refine vf_of (by first | exact s1 | exact r1 | exact s2 | exact r2 | exact o | exact p) ?_))
end Go.Proofs.YtemnjalaincijaaGreat

/- vernierref4.Prod, in the evaluator. -/
namespace Go.Proofs.YtemnjalaincijaaGreat
set_option linter.unusedSimpArgs false
set_option linter.unusedVariables false
set_option maxRecDepth 8000
open Go.Ev
def mnZ (m x : Int) : Int := if x < m then x else m
def mxZ (m x : Int) : Int := if m < x then x else m
def loP (p1 p2 p3 p4 : Int) : Nat → Int
  | 0 => p1
  | 1 => p1
  | 2 => mnZ p1 p2
  | 3 => mnZ (mnZ p1 p2) p3
  | _ => mnZ (mnZ (mnZ p1 p2) p3) p4
def hiP (p1 p2 p3 p4 : Int) : Nat → Int
  | 0 => p1
  | 1 => p1
  | 2 => mxZ p1 p2
  | 3 => mxZ (mxZ p1 p2) p3
  | _ => mxZ (mxZ (mxZ p1 p2) p3) p4
/-- The least and the greatest of four products. -/
def loQ (a b c d : Int) : Int := loP (a * c) (a * d) (b * c) (b * d) 4
def hiQ (a b c d : Int) : Int := hiP (a * c) (a * d) (b * c) (b * d) 4
theorem cmpZ_lt {a b : Int} : decide (cmpZ a b < 0) = decide (a < b) := decide_eq_decide.2 (by unfold cmpZ; split <;> (try split) <;> omega)
theorem cmpZ_gt {a b : Int} : decide (cmpZ a b > 0) = decide (b < a) := decide_eq_decide.2 (by unfold cmpZ; split <;> (try split) <;> omega)
theorem cmpZ_le {a b : Int} : decide (cmpZ a b ≤ 0) = decide (a ≤ b) := decide_eq_decide.2 (by unfold cmpZ; split <;> (try split) <;> omega)
theorem mnZ_is (m x : Int) : mnZ m x = m ∨ mnZ m x = x := by unfold mnZ; split <;> simp
theorem loP_is (p1 p2 p3 p4 : Int) (i : Nat) : loP p1 p2 p3 p4 i = p1 ∨ loP p1 p2 p3 p4 i = p2 ∨ loP p1 p2 p3 p4 i = p3 ∨ loP p1 p2 p3 p4 i = p4 := by
  have h2 := mnZ_is p1 p2
  have h3 := mnZ_is (mnZ p1 p2) p3
  have h4 := mnZ_is (mnZ (mnZ p1 p2) p3) p4
  match i with
  | 0 => exact .inl rfl
  | 1 => exact .inl rfl
  | 2 => show mnZ p1 p2 = _ ∨ mnZ p1 p2 = _ ∨ mnZ p1 p2 = _ ∨ mnZ p1 p2 = _; omega
  | 3 => simp only [loP]; omega
  | _ + 4 => simp only [loP]; omega
theorem mxZ_is (m x : Int) : mxZ m x = m ∨ mxZ m x = x := by unfold mxZ; split <;> simp
theorem hiP_is (p1 p2 p3 p4 : Int) (i : Nat) : hiP p1 p2 p3 p4 i = p1 ∨ hiP p1 p2 p3 p4 i = p2 ∨ hiP p1 p2 p3 p4 i = p3 ∨ hiP p1 p2 p3 p4 i = p4 := by
  have h2 := mxZ_is p1 p2
  have h3 := mxZ_is (mxZ p1 p2) p3
  have h4 := mxZ_is (mxZ (mxZ p1 p2) p3) p4
  match i with
  | 0 => exact .inl rfl
  | 1 => exact .inl rfl
  | 2 => show mxZ p1 p2 = _ ∨ mxZ p1 p2 = _ ∨ mxZ p1 p2 = _ ∨ mxZ p1 p2 = _; omega
  | 3 => simp only [hiP]; omega
  | _ + 4 => simp only [hiP]; omega
set_option maxHeartbeats 1000000 in
theorem ref4_Prod {a b c d : Int} {w : Nat} (ha : (lim a.natAbs).length ≤ 10000) (hb : (lim b.natAbs).length ≤ 10000) (hc : (lim c.natAbs).length ≤ 10000) (hd : (lim d.natAbs).length ≤ 10000) (hw : w ≤ 4096) (h0 : 0 < w) :
    Go.Ev.Fn CX 109 [ivV a b, ivV c d, .int .i64 (w : Int)] (ivV (loQ a b c d / ((2 ^ w : Nat) : Int)) (cdZ (hiQ a b c d) (2 ^ w))) := by
  have m1 := ref4_Times a c (by omega) (by omega)
  have m2 := ref4_Times a d (by omega) (by omega)
  have m3 := ref4_Times b c (by omega) (by omega)
  have m4 := ref4_Times b d (by omega) (by omega)
  have l1 : (lim (a * c).natAbs).length ≤ 20000 := by rw [Int.natAbs_mul]; have := lim_len_mul (a := a.natAbs) (b := c.natAbs); omega
  have l2 : (lim (a * d).natAbs).length ≤ 20000 := by rw [Int.natAbs_mul]; have := lim_len_mul (a := a.natAbs) (b := d.natAbs); omega
  have l3 : (lim (b * c).natAbs).length ≤ 20000 := by rw [Int.natAbs_mul]; have := lim_len_mul (a := b.natAbs) (b := c.natAbs); omega
  have l4 : (lim (b * d).natAbs).length ≤ 20000 := by rw [Int.natAbs_mul]; have := lim_len_mul (a := b.natAbs) (b := d.natAbs); omega
  unfold loQ hiQ
  generalize a * c = p1 at *
  generalize a * d = p2 at *
  generalize b * c = p3 at *
  generalize b * d = p4 at *
  have lL : ∀ i, (lim (loP p1 p2 p3 p4 i).natAbs).length ≤ 20000 := by
    intro i
    rcases loP_is p1 p2 p3 p4 i with h | h | h | h <;> rw [h] <;> assumption
  have lH : ∀ i, (lim (hiP p1 p2 p3 p4 i).natAbs).length ≤ 20000 := by
    intro i
    rcases hiP_is p1 p2 p3 p4 i with h | h | h | h <;> rw [h] <;> assumption
  have s1 := ref4_Less (loP p1 p2 p3 p4 4) w (by have := lL 4; omega) hw h0
  have s2 := ref4_More (hiP p1 p2 p3 p4 4) w (by have := lH 4; omega) hw h0
  have L1 : loP p1 p2 p3 p4 1 = p1 := rfl
  have H1 : hiP p1 p2 p3 p4 1 = p1 := rfl
  have L2 : loP p1 p2 p3 p4 2 = mnZ (loP p1 p2 p3 p4 1) p2 := rfl
  have H2 : hiP p1 p2 p3 p4 2 = mxZ (hiP p1 p2 p3 p4 1) p2 := rfl
  have L3 : loP p1 p2 p3 p4 3 = mnZ (loP p1 p2 p3 p4 2) p3 := rfl
  have H3 : hiP p1 p2 p3 p4 3 = mxZ (hiP p1 p2 p3 p4 2) p3 := rfl
  have L4 : loP p1 p2 p3 p4 4 = mnZ (loP p1 p2 p3 p4 3) p4 := rfl
  have H4 : hiP p1 p2 p3 p4 4 = mxZ (hiP p1 p2 p3 p4 3) p4 := rfl
  generalize loP p1 p2 p3 p4 = lo at *
  generalize hiP p1 p2 p3 p4 = hi at *
  generalize hX : lo 4 / ((2 ^ w : Nat) : Int) = X at *
  generalize hY : cdZ (hi 4) (2 ^ w) = Y at *
  clear hX hY ha hb hc hd
  refine Go.Ev.Fn.intro (fn := Tryz.f109) (body := (Tryz.f109).body.get!) (by kernel_rfl) (by kernel_rfl) (by kernel_rfl) (fun _ => rfl) (Nat.le_of_ble_eq_true (by kernel_rfl)) ?_; unfold Tryz.f109; simp only [Option.get!_some]
  repeat (first | (simp only [go_sem, Nat.reduceEqDiff, Nat.reduceAdd, Nat.reduceSub, Nat.reduceMul, Nat.reduceLeDiff, Nat.reduceLT, reduceIte, reduceCtorEq, Nat.succ_ne_zero, elemsC, Int.reduceToNat, Nat.reducePow]) | (simp (disch := (first | omega | (simp only [AL, List.length_map]; omega))) only [AR, AL, ifT, ifF, take_all, List.length_cons, List.length_nil, Int.reduceToNat, Int.reducePow, Nat.reducePow]) | (refine wk_intro (by kernel_rfl) ?_) | (refine vp_draw (id := 1) (l := []) (by kernel_rfl) ?_) | (refine vp_draw (id := 2) (l := []) (by kernel_rfl) ?_) | (refine vp_draw (id := 6) (l := []) (by kernel_rfl) ?_) | (refine vp_draw (id := 8) (l := []) (by kernel_rfl) ?_) | (refine vp_draw (id := 10) (l := []) (by kernel_rfl) ?_) | (refine vf_of (by first | exact m1 | exact m2 | exact m3 | exact m4) ?_))
  refine vp_loop_inv (fun s => s.tmp 2 = .sv (.int .i64 (w : Int)) ∧ s.tmp 6 = .ptr 6 0 0 ∧ s.obj 6 0 = some [.bool false, .sl 0 [], .bool false, .sl 0 []] ∧ s.tmp 7 = .sv (.sl 4 [.bool (decide (p1 < 0)), natV (lim p1.natAbs), .bool (decide (p2 < 0)), natV (lim p2.natAbs), .bool (decide (p3 < 0)), natV (lim p3.natAbs), .bool (decide (p4 < 0)), natV (lim p4.natAbs)]) ∧ s.tmp 8 = .ptr 8 0 0 ∧ s.tmp 9 = .ptr 9 0 0 ∧
      ∃ i : Nat, s.tmp 10 = .sv (.int .i64 (i : Int)) ∧ 1 ≤ i ∧ i ≤ 4 ∧ s.obj 8 0 = some [.bool (decide (lo i < 0)), natV (lim (lo i).natAbs)] ∧ s.obj 9 0 = some [.bool (decide (hi i < 0)), natV (lim (hi i).natAbs)])
    (fun s => match s.tmp 10 with | .sv (.int _ i) => 4 - i.toNat | _ => 0) ⟨rfl, rfl, rfl, rfl, rfl, rfl, 1, rfl, by omega, by omega, by first | (rw [L1]; done) | (rw [L1]; rfl) | (rw [L1]; exact o8) | (rw [L1]; exact o9), by first | (rw [H1]; done) | (rw [H1]; rfl) | (rw [H1]; exact o8) | (rw [H1]; exact o9)⟩ ?_
  rintro s ⟨i2, i6, o6, i7, i8, i9, i, i10, g1, g2, o8, o9⟩
  obtain rfl | rfl | rfl | rfl : i = 4 ∨ i = 1 ∨ i = 2 ∨ i = 3 := by omega
  · repeat (first | (simp only [go_sem, Nat.reduceEqDiff, Nat.reduceAdd, Nat.reduceSub, Nat.reduceMul, Nat.reduceLeDiff, Nat.reduceLT, reduceIte, reduceCtorEq, Nat.succ_ne_zero, elemsC, Int.reduceToNat, Nat.reducePow, i2, i6, o6, i7, i8, i9, i10, o8, o9]) | (simp (disch := (first | omega | (simp only [AL, List.length_map]; omega))) only [AR, AL, ifT, ifF, take_all, List.length_cons, List.length_nil, Int.reduceToNat, Int.reducePow, Nat.reducePow, i2, i6, o6, i7, i8, i9, i10, o8, o9]) | (refine wk_intro (by kernel_rfl) ?_) | (refine vp_draw (id := 1) (l := []) (by kernel_rfl) ?_) | (refine vp_draw (id := 2) (l := []) (by kernel_rfl) ?_) | (refine vp_draw (id := 6) (l := []) (by kernel_rfl) ?_) | (refine vp_draw (id := 8) (l := []) (by kernel_rfl) ?_) | (refine vp_draw (id := 10) (l := []) (by kernel_rfl) ?_))
    repeat (first | (simp only [go_sem, Nat.reduceEqDiff, Nat.reduceAdd, Nat.reduceSub, Nat.reduceMul, Nat.reduceLeDiff, Nat.reduceLT, reduceIte, reduceCtorEq, Nat.succ_ne_zero, elemsC, Int.reduceToNat, Nat.reducePow, i2, i6, o6, i7, i8, i9, i10, o8, o9]) | (simp (disch := (first | omega | (simp only [AL, List.length_map]; omega))) only [AR, AL, ifT, ifF, take_all, List.length_cons, List.length_nil, Int.reduceToNat, Int.reducePow, Nat.reducePow, i2, i6, o6, i7, i8, i9, i10, o8, o9]) | (refine wk_intro (by kernel_rfl) ?_) | (refine vp_draw (id := 1) (l := []) (by kernel_rfl) ?_) | (refine vp_draw (id := 2) (l := []) (by kernel_rfl) ?_) | (refine vp_draw (id := 6) (l := []) (by kernel_rfl) ?_) | (refine vp_draw (id := 8) (l := []) (by kernel_rfl) ?_) | (refine vp_draw (id := 10) (l := []) (by kernel_rfl) ?_) | (refine vf_of (by first | exact s1 | exact s2) ?_))
  · have c1 := ref4_Cmp p2 (lo 1) (by omega) (by have := lL 1; omega)
    have c2 := ref4_Cmp p2 (hi 1) (by omega) (by have := lH 1; omega)
    have c3 := ref4_Cmp p2 (hi 1) (by omega) (by have := lH 1; omega)
    have e1 := cmpZ_lt (a := p2) (b := lo 1)
    have e2 := cmpZ_gt (a := p2) (b := hi 1)
    generalize cmpZ p2 (lo 1) = z1 at *
    generalize cmpZ p2 (hi 1) = z2 at *
    by_cases k1 : p2 < lo 1
    · rw [decide_eq_true k1] at e1
      rw [mnZ, if_pos k1] at L2
      by_cases k2 : hi 1 < p2
      · rw [decide_eq_true k2] at e2
        rw [mxZ, if_pos k2] at H2
        clear k1 k2
        repeat (first | (simp only [go_sem, Nat.reduceEqDiff, Nat.reduceAdd, Nat.reduceSub, Nat.reduceMul, Nat.reduceLeDiff, Nat.reduceLT, reduceIte, reduceCtorEq, Nat.succ_ne_zero, elemsC, Int.reduceToNat, Nat.reducePow, i2, i6, o6, i7, i8, i9, i10, o8, o9, e1, e2]) | (simp (disch := (first | omega | (simp only [AL, List.length_map]; omega))) only [AR, AL, ifT, ifF, take_all, List.length_cons, List.length_nil, Int.reduceToNat, Int.reducePow, Nat.reducePow, i2, i6, o6, i7, i8, i9, i10, o8, o9, e1, e2]) | (refine wk_intro (by kernel_rfl) ?_) | (refine vp_draw (id := 1) (l := []) (by kernel_rfl) ?_) | (refine vp_draw (id := 2) (l := []) (by kernel_rfl) ?_) | (refine vp_draw (id := 6) (l := []) (by kernel_rfl) ?_) | (refine vp_draw (id := 8) (l := []) (by kernel_rfl) ?_) | (refine vp_draw (id := 10) (l := []) (by kernel_rfl) ?_) | (refine vf_of (by first | exact c1 | exact c2) ?_))
        exact ⟨2, rfl, by omega, by omega, by first | (rw [L2]; done) | (rw [L2]; rfl) | (rw [L2]; exact o8) | (rw [L2]; exact o9), by first | (rw [H2]; done) | (rw [H2]; rfl) | (rw [H2]; exact o8) | (rw [H2]; exact o9)⟩
      · rw [decide_eq_false k2] at e2
        rw [mxZ, if_neg k2] at H2
        clear k1 k2
        repeat (first | (simp only [go_sem, Nat.reduceEqDiff, Nat.reduceAdd, Nat.reduceSub, Nat.reduceMul, Nat.reduceLeDiff, Nat.reduceLT, reduceIte, reduceCtorEq, Nat.succ_ne_zero, elemsC, Int.reduceToNat, Nat.reducePow, i2, i6, o6, i7, i8, i9, i10, o8, o9, e1, e2]) | (simp (disch := (first | omega | (simp only [AL, List.length_map]; omega))) only [AR, AL, ifT, ifF, take_all, List.length_cons, List.length_nil, Int.reduceToNat, Int.reducePow, Nat.reducePow, i2, i6, o6, i7, i8, i9, i10, o8, o9, e1, e2]) | (refine wk_intro (by kernel_rfl) ?_) | (refine vp_draw (id := 1) (l := []) (by kernel_rfl) ?_) | (refine vp_draw (id := 2) (l := []) (by kernel_rfl) ?_) | (refine vp_draw (id := 6) (l := []) (by kernel_rfl) ?_) | (refine vp_draw (id := 8) (l := []) (by kernel_rfl) ?_) | (refine vp_draw (id := 10) (l := []) (by kernel_rfl) ?_) | (refine vf_of (by first | exact c1 | exact c2) ?_))
        exact ⟨2, rfl, by omega, by omega, by first | (rw [L2]; done) | (rw [L2]; rfl) | (rw [L2]; exact o8) | (rw [L2]; exact o9), by first | (rw [H2]; done) | (rw [H2]; rfl) | (rw [H2]; exact o8) | (rw [H2]; exact o9)⟩
    · rw [decide_eq_false k1] at e1
      rw [mnZ, if_neg k1] at L2
      by_cases k2 : hi 1 < p2
      · rw [decide_eq_true k2] at e2
        rw [mxZ, if_pos k2] at H2
        clear k1 k2
        repeat (first | (simp only [go_sem, Nat.reduceEqDiff, Nat.reduceAdd, Nat.reduceSub, Nat.reduceMul, Nat.reduceLeDiff, Nat.reduceLT, reduceIte, reduceCtorEq, Nat.succ_ne_zero, elemsC, Int.reduceToNat, Nat.reducePow, i2, i6, o6, i7, i8, i9, i10, o8, o9, e1, e2]) | (simp (disch := (first | omega | (simp only [AL, List.length_map]; omega))) only [AR, AL, ifT, ifF, take_all, List.length_cons, List.length_nil, Int.reduceToNat, Int.reducePow, Nat.reducePow, i2, i6, o6, i7, i8, i9, i10, o8, o9, e1, e2]) | (refine wk_intro (by kernel_rfl) ?_) | (refine vp_draw (id := 1) (l := []) (by kernel_rfl) ?_) | (refine vp_draw (id := 2) (l := []) (by kernel_rfl) ?_) | (refine vp_draw (id := 6) (l := []) (by kernel_rfl) ?_) | (refine vp_draw (id := 8) (l := []) (by kernel_rfl) ?_) | (refine vp_draw (id := 10) (l := []) (by kernel_rfl) ?_) | (refine vf_of (by first | exact c1 | exact c2) ?_))
        exact ⟨2, rfl, by omega, by omega, by first | (rw [L2]; done) | (rw [L2]; rfl) | (rw [L2]; exact o8) | (rw [L2]; exact o9), by first | (rw [H2]; done) | (rw [H2]; rfl) | (rw [H2]; exact o8) | (rw [H2]; exact o9)⟩
      · rw [decide_eq_false k2] at e2
        rw [mxZ, if_neg k2] at H2
        clear k1 k2
        repeat (first | (simp only [go_sem, Nat.reduceEqDiff, Nat.reduceAdd, Nat.reduceSub, Nat.reduceMul, Nat.reduceLeDiff, Nat.reduceLT, reduceIte, reduceCtorEq, Nat.succ_ne_zero, elemsC, Int.reduceToNat, Nat.reducePow, i2, i6, o6, i7, i8, i9, i10, o8, o9, e1, e2]) | (simp (disch := (first | omega | (simp only [AL, List.length_map]; omega))) only [AR, AL, ifT, ifF, take_all, List.length_cons, List.length_nil, Int.reduceToNat, Int.reducePow, Nat.reducePow, i2, i6, o6, i7, i8, i9, i10, o8, o9, e1, e2]) | (refine wk_intro (by kernel_rfl) ?_) | (refine vp_draw (id := 1) (l := []) (by kernel_rfl) ?_) | (refine vp_draw (id := 2) (l := []) (by kernel_rfl) ?_) | (refine vp_draw (id := 6) (l := []) (by kernel_rfl) ?_) | (refine vp_draw (id := 8) (l := []) (by kernel_rfl) ?_) | (refine vp_draw (id := 10) (l := []) (by kernel_rfl) ?_) | (refine vf_of (by first | exact c1 | exact c2) ?_))
        exact ⟨2, rfl, by omega, by omega, by first | (rw [L2]; done) | (rw [L2]; rfl) | (rw [L2]; exact o8) | (rw [L2]; exact o9), by first | (rw [H2]; done) | (rw [H2]; rfl) | (rw [H2]; exact o8) | (rw [H2]; exact o9)⟩
  · have c1 := ref4_Cmp p3 (lo 2) (by omega) (by have := lL 2; omega)
    have c2 := ref4_Cmp p3 (hi 2) (by omega) (by have := lH 2; omega)
    have c3 := ref4_Cmp p3 (hi 2) (by omega) (by have := lH 2; omega)
    have e1 := cmpZ_lt (a := p3) (b := lo 2)
    have e2 := cmpZ_gt (a := p3) (b := hi 2)
    generalize cmpZ p3 (lo 2) = z1 at *
    generalize cmpZ p3 (hi 2) = z2 at *
    by_cases k1 : p3 < lo 2
    · rw [decide_eq_true k1] at e1
      rw [mnZ, if_pos k1] at L3
      by_cases k2 : hi 2 < p3
      · rw [decide_eq_true k2] at e2
        rw [mxZ, if_pos k2] at H3
        clear k1 k2
        repeat (first | (simp only [go_sem, Nat.reduceEqDiff, Nat.reduceAdd, Nat.reduceSub, Nat.reduceMul, Nat.reduceLeDiff, Nat.reduceLT, reduceIte, reduceCtorEq, Nat.succ_ne_zero, elemsC, Int.reduceToNat, Nat.reducePow, i2, i6, o6, i7, i8, i9, i10, o8, o9, e1, e2]) | (simp (disch := (first | omega | (simp only [AL, List.length_map]; omega))) only [AR, AL, ifT, ifF, take_all, List.length_cons, List.length_nil, Int.reduceToNat, Int.reducePow, Nat.reducePow, i2, i6, o6, i7, i8, i9, i10, o8, o9, e1, e2]) | (refine wk_intro (by kernel_rfl) ?_) | (refine vp_draw (id := 1) (l := []) (by kernel_rfl) ?_) | (refine vp_draw (id := 2) (l := []) (by kernel_rfl) ?_) | (refine vp_draw (id := 6) (l := []) (by kernel_rfl) ?_) | (refine vp_draw (id := 8) (l := []) (by kernel_rfl) ?_) | (refine vp_draw (id := 10) (l := []) (by kernel_rfl) ?_) | (refine vf_of (by first | exact c1 | exact c2) ?_))
        exact ⟨3, rfl, by omega, by omega, by first | (rw [L3]; done) | (rw [L3]; rfl) | (rw [L3]; exact o8) | (rw [L3]; exact o9), by first | (rw [H3]; done) | (rw [H3]; rfl) | (rw [H3]; exact o8) | (rw [H3]; exact o9)⟩
      · rw [decide_eq_false k2] at e2
        rw [mxZ, if_neg k2] at H3
        clear k1 k2
        repeat (first | (simp only [go_sem, Nat.reduceEqDiff, Nat.reduceAdd, Nat.reduceSub, Nat.reduceMul, Nat.reduceLeDiff, Nat.reduceLT, reduceIte, reduceCtorEq, Nat.succ_ne_zero, elemsC, Int.reduceToNat, Nat.reducePow, i2, i6, o6, i7, i8, i9, i10, o8, o9, e1, e2]) | (simp (disch := (first | omega | (simp only [AL, List.length_map]; omega))) only [AR, AL, ifT, ifF, take_all, List.length_cons, List.length_nil, Int.reduceToNat, Int.reducePow, Nat.reducePow, i2, i6, o6, i7, i8, i9, i10, o8, o9, e1, e2]) | (refine wk_intro (by kernel_rfl) ?_) | (refine vp_draw (id := 1) (l := []) (by kernel_rfl) ?_) | (refine vp_draw (id := 2) (l := []) (by kernel_rfl) ?_) | (refine vp_draw (id := 6) (l := []) (by kernel_rfl) ?_) | (refine vp_draw (id := 8) (l := []) (by kernel_rfl) ?_) | (refine vp_draw (id := 10) (l := []) (by kernel_rfl) ?_) | (refine vf_of (by first | exact c1 | exact c2) ?_))
        exact ⟨3, rfl, by omega, by omega, by first | (rw [L3]; done) | (rw [L3]; rfl) | (rw [L3]; exact o8) | (rw [L3]; exact o9), by first | (rw [H3]; done) | (rw [H3]; rfl) | (rw [H3]; exact o8) | (rw [H3]; exact o9)⟩
    · rw [decide_eq_false k1] at e1
      rw [mnZ, if_neg k1] at L3
      by_cases k2 : hi 2 < p3
      · rw [decide_eq_true k2] at e2
        rw [mxZ, if_pos k2] at H3
        clear k1 k2
        repeat (first | (simp only [go_sem, Nat.reduceEqDiff, Nat.reduceAdd, Nat.reduceSub, Nat.reduceMul, Nat.reduceLeDiff, Nat.reduceLT, reduceIte, reduceCtorEq, Nat.succ_ne_zero, elemsC, Int.reduceToNat, Nat.reducePow, i2, i6, o6, i7, i8, i9, i10, o8, o9, e1, e2]) | (simp (disch := (first | omega | (simp only [AL, List.length_map]; omega))) only [AR, AL, ifT, ifF, take_all, List.length_cons, List.length_nil, Int.reduceToNat, Int.reducePow, Nat.reducePow, i2, i6, o6, i7, i8, i9, i10, o8, o9, e1, e2]) | (refine wk_intro (by kernel_rfl) ?_) | (refine vp_draw (id := 1) (l := []) (by kernel_rfl) ?_) | (refine vp_draw (id := 2) (l := []) (by kernel_rfl) ?_) | (refine vp_draw (id := 6) (l := []) (by kernel_rfl) ?_) | (refine vp_draw (id := 8) (l := []) (by kernel_rfl) ?_) | (refine vp_draw (id := 10) (l := []) (by kernel_rfl) ?_) | (refine vf_of (by first | exact c1 | exact c2) ?_))
        exact ⟨3, rfl, by omega, by omega, by first | (rw [L3]; done) | (rw [L3]; rfl) | (rw [L3]; exact o8) | (rw [L3]; exact o9), by first | (rw [H3]; done) | (rw [H3]; rfl) | (rw [H3]; exact o8) | (rw [H3]; exact o9)⟩
      · rw [decide_eq_false k2] at e2
        rw [mxZ, if_neg k2] at H3
        clear k1 k2
        repeat (first | (simp only [go_sem, Nat.reduceEqDiff, Nat.reduceAdd, Nat.reduceSub, Nat.reduceMul, Nat.reduceLeDiff, Nat.reduceLT, reduceIte, reduceCtorEq, Nat.succ_ne_zero, elemsC, Int.reduceToNat, Nat.reducePow, i2, i6, o6, i7, i8, i9, i10, o8, o9, e1, e2]) | (simp (disch := (first | omega | (simp only [AL, List.length_map]; omega))) only [AR, AL, ifT, ifF, take_all, List.length_cons, List.length_nil, Int.reduceToNat, Int.reducePow, Nat.reducePow, i2, i6, o6, i7, i8, i9, i10, o8, o9, e1, e2]) | (refine wk_intro (by kernel_rfl) ?_) | (refine vp_draw (id := 1) (l := []) (by kernel_rfl) ?_) | (refine vp_draw (id := 2) (l := []) (by kernel_rfl) ?_) | (refine vp_draw (id := 6) (l := []) (by kernel_rfl) ?_) | (refine vp_draw (id := 8) (l := []) (by kernel_rfl) ?_) | (refine vp_draw (id := 10) (l := []) (by kernel_rfl) ?_) | (refine vf_of (by first | exact c1 | exact c2) ?_))
        exact ⟨3, rfl, by omega, by omega, by first | (rw [L3]; done) | (rw [L3]; rfl) | (rw [L3]; exact o8) | (rw [L3]; exact o9), by first | (rw [H3]; done) | (rw [H3]; rfl) | (rw [H3]; exact o8) | (rw [H3]; exact o9)⟩
  · have c1 := ref4_Cmp p4 (lo 3) (by omega) (by have := lL 3; omega)
    have c2 := ref4_Cmp p4 (hi 3) (by omega) (by have := lH 3; omega)
    have c3 := ref4_Cmp p4 (hi 3) (by omega) (by have := lH 3; omega)
    have e1 := cmpZ_lt (a := p4) (b := lo 3)
    have e2 := cmpZ_gt (a := p4) (b := hi 3)
    generalize cmpZ p4 (lo 3) = z1 at *
    generalize cmpZ p4 (hi 3) = z2 at *
    by_cases k1 : p4 < lo 3
    · rw [decide_eq_true k1] at e1
      rw [mnZ, if_pos k1] at L4
      by_cases k2 : hi 3 < p4
      · rw [decide_eq_true k2] at e2
        rw [mxZ, if_pos k2] at H4
        clear k1 k2
        repeat (first | (simp only [go_sem, Nat.reduceEqDiff, Nat.reduceAdd, Nat.reduceSub, Nat.reduceMul, Nat.reduceLeDiff, Nat.reduceLT, reduceIte, reduceCtorEq, Nat.succ_ne_zero, elemsC, Int.reduceToNat, Nat.reducePow, i2, i6, o6, i7, i8, i9, i10, o8, o9, e1, e2]) | (simp (disch := (first | omega | (simp only [AL, List.length_map]; omega))) only [AR, AL, ifT, ifF, take_all, List.length_cons, List.length_nil, Int.reduceToNat, Int.reducePow, Nat.reducePow, i2, i6, o6, i7, i8, i9, i10, o8, o9, e1, e2]) | (refine wk_intro (by kernel_rfl) ?_) | (refine vp_draw (id := 1) (l := []) (by kernel_rfl) ?_) | (refine vp_draw (id := 2) (l := []) (by kernel_rfl) ?_) | (refine vp_draw (id := 6) (l := []) (by kernel_rfl) ?_) | (refine vp_draw (id := 8) (l := []) (by kernel_rfl) ?_) | (refine vp_draw (id := 10) (l := []) (by kernel_rfl) ?_) | (refine vf_of (by first | exact c1 | exact c2) ?_))
        exact ⟨4, rfl, by omega, by omega, by first | (rw [L4]; done) | (rw [L4]; rfl) | (rw [L4]; exact o8) | (rw [L4]; exact o9), by first | (rw [H4]; done) | (rw [H4]; rfl) | (rw [H4]; exact o8) | (rw [H4]; exact o9)⟩
      · rw [decide_eq_false k2] at e2
        rw [mxZ, if_neg k2] at H4
        clear k1 k2
        repeat (first | (simp only [go_sem, Nat.reduceEqDiff, Nat.reduceAdd, Nat.reduceSub, Nat.reduceMul, Nat.reduceLeDiff, Nat.reduceLT, reduceIte, reduceCtorEq, Nat.succ_ne_zero, elemsC, Int.reduceToNat, Nat.reducePow, i2, i6, o6, i7, i8, i9, i10, o8, o9, e1, e2]) | (simp (disch := (first | omega | (simp only [AL, List.length_map]; omega))) only [AR, AL, ifT, ifF, take_all, List.length_cons, List.length_nil, Int.reduceToNat, Int.reducePow, Nat.reducePow, i2, i6, o6, i7, i8, i9, i10, o8, o9, e1, e2]) | (refine wk_intro (by kernel_rfl) ?_) | (refine vp_draw (id := 1) (l := []) (by kernel_rfl) ?_) | (refine vp_draw (id := 2) (l := []) (by kernel_rfl) ?_) | (refine vp_draw (id := 6) (l := []) (by kernel_rfl) ?_) | (refine vp_draw (id := 8) (l := []) (by kernel_rfl) ?_) | (refine vp_draw (id := 10) (l := []) (by kernel_rfl) ?_) | (refine vf_of (by first | exact c1 | exact c2) ?_))
        exact ⟨4, rfl, by omega, by omega, by first | (rw [L4]; done) | (rw [L4]; rfl) | (rw [L4]; exact o8) | (rw [L4]; exact o9), by first | (rw [H4]; done) | (rw [H4]; rfl) | (rw [H4]; exact o8) | (rw [H4]; exact o9)⟩
    · rw [decide_eq_false k1] at e1
      rw [mnZ, if_neg k1] at L4
      by_cases k2 : hi 3 < p4
      · rw [decide_eq_true k2] at e2
        rw [mxZ, if_pos k2] at H4
        clear k1 k2
        repeat (first | (simp only [go_sem, Nat.reduceEqDiff, Nat.reduceAdd, Nat.reduceSub, Nat.reduceMul, Nat.reduceLeDiff, Nat.reduceLT, reduceIte, reduceCtorEq, Nat.succ_ne_zero, elemsC, Int.reduceToNat, Nat.reducePow, i2, i6, o6, i7, i8, i9, i10, o8, o9, e1, e2]) | (simp (disch := (first | omega | (simp only [AL, List.length_map]; omega))) only [AR, AL, ifT, ifF, take_all, List.length_cons, List.length_nil, Int.reduceToNat, Int.reducePow, Nat.reducePow, i2, i6, o6, i7, i8, i9, i10, o8, o9, e1, e2]) | (refine wk_intro (by kernel_rfl) ?_) | (refine vp_draw (id := 1) (l := []) (by kernel_rfl) ?_) | (refine vp_draw (id := 2) (l := []) (by kernel_rfl) ?_) | (refine vp_draw (id := 6) (l := []) (by kernel_rfl) ?_) | (refine vp_draw (id := 8) (l := []) (by kernel_rfl) ?_) | (refine vp_draw (id := 10) (l := []) (by kernel_rfl) ?_) | (refine vf_of (by first | exact c1 | exact c2) ?_))
        exact ⟨4, rfl, by omega, by omega, by first | (rw [L4]; done) | (rw [L4]; rfl) | (rw [L4]; exact o8) | (rw [L4]; exact o9), by first | (rw [H4]; done) | (rw [H4]; rfl) | (rw [H4]; exact o8) | (rw [H4]; exact o9)⟩
      · rw [decide_eq_false k2] at e2
        rw [mxZ, if_neg k2] at H4
        clear k1 k2
        repeat (first | (simp only [go_sem, Nat.reduceEqDiff, Nat.reduceAdd, Nat.reduceSub, Nat.reduceMul, Nat.reduceLeDiff, Nat.reduceLT, reduceIte, reduceCtorEq, Nat.succ_ne_zero, elemsC, Int.reduceToNat, Nat.reducePow, i2, i6, o6, i7, i8, i9, i10, o8, o9, e1, e2]) | (simp (disch := (first | omega | (simp only [AL, List.length_map]; omega))) only [AR, AL, ifT, ifF, take_all, List.length_cons, List.length_nil, Int.reduceToNat, Int.reducePow, Nat.reducePow, i2, i6, o6, i7, i8, i9, i10, o8, o9, e1, e2]) | (refine wk_intro (by kernel_rfl) ?_) | (refine vp_draw (id := 1) (l := []) (by kernel_rfl) ?_) | (refine vp_draw (id := 2) (l := []) (by kernel_rfl) ?_) | (refine vp_draw (id := 6) (l := []) (by kernel_rfl) ?_) | (refine vp_draw (id := 8) (l := []) (by kernel_rfl) ?_) | (refine vp_draw (id := 10) (l := []) (by kernel_rfl) ?_) | (refine vf_of (by first | exact c1 | exact c2) ?_))
        exact ⟨4, rfl, by omega, by omega, by first | (rw [L4]; done) | (rw [L4]; rfl) | (rw [L4]; exact o8) | (rw [L4]; exact o9), by first | (rw [H4]; done) | (rw [H4]; rfl) | (rw [H4]; exact o8) | (rw [H4]; exact o9)⟩
end Go.Proofs.YtemnjalaincijaaGreat

/- Pi, to so many digits: pure functions on naturals that mirror arcs.pi and vernierref8.PiIv; the kernel reckons them at all widths that are wanted. No program. -/
namespace Go.Ev
/-- A number is reckoned before it is handed on. -/
def pin {α : Type} (n : Nat) (f : Nat → α) : α := match n with
  | 0 => f 0
  | m + 1 => f (m + 1)
/-- arcs.angle's rounds: the terms by Euler's row, until the last one is small. -/
def angGo (w b1 b2 : Nat) : Nat → Nat → Nat → Nat → Nat → Nat → Option (Nat × Nat)
  | 0, _, _, _, _, _ => none
  | f + 1, k, t1, t2, a1, a2 => if t2 < 4 then some (a1, a2 + 8) else
    pin (t1 * b1 / 2 ^ w * (2 * k) / (2 * k + 1)) fun u1 => pin ((t2 * b2 / 2 ^ w + 1) * (2 * k) / (2 * k + 1) + 1) fun u2 =>
    pin (a1 + u1) fun c1 => pin (a2 + u2) fun c2 => pin (k + 1) fun k' => angGo w b1 b2 f k' u1 u2 c1 c2
def angF (n d w : Nat) : Option (Nat × Nat) :=
  pin (n * n * 2 ^ w / (n * n + d * d)) fun b1 => pin (n * d * 2 ^ w / (n * n + d * d)) fun t1 => angGo w b1 (b1 + 1) 1000 1 t1 (t1 + 1) t1 (t1 + 1)
/-- arcs.pi. -/
def piF (w : Nat) : Option (Nat × Nat) := match angF 1 5 w, angF 1 239 w with
  | some (a1, a2), some (b1, b2) => some (a1 * 16 - (b2 * 4 + 1), (a2 * 16 + 1 - b1 * 4) + 1)
  | _, _ => none
/-- The root of pi, times 2 to 400. -/
def rootPi : Nat := 4576918740415440415430138886030104330034393630387746481038405196946375920276839941112766425178723903652484208164514262098
/-- At so many digits pi lies between two whole numbers, for certain: and the constant's square does. -/
def piOk (p : Nat) : Bool := match piF (p + 64) with
  | some (lo, hi) => pin (lo / 2 ^ 64) fun a => Nat.beq a ((hi - 1) / 2 ^ 64) && (Nat.ble (a * 2 ^ (800 - p)) (rootPi * rootPi) && Nat.ble (rootPi * rootPi) ((a + 1) * 2 ^ (800 - p)))
  | none => false
def allFrom (f : Nat → Bool) : Nat → Nat → Bool
  | 0, _ => true
  | n + 1, k => f k && allFrom f n (k + 1)
theorem pi_ok : allFrom piOk 217 8 = true := by kernel_rfl
/-- Rounded up. -/
def cdv (a b : Nat) : Nat := (a + b - 1) / b
/-- vernierref8.small's rounds; what is added and what is taken away stands apart: the sum is a1 .. a2 less b1 .. b2. -/
def smGo (w s1 s2 : Nat) : Nat → Nat → Bool → Nat → Nat → Nat → Nat → Nat → Nat → Option (Nat × Nat × Nat × Nat)
  | 0, _, _, _, _, _, _, _, _ => none
  | f + 1, i, odd, t1, t2, a1, a2, b1, b2 =>
    pin (t1 * s1 / 2 ^ w) fun u1 => pin (cdv (t2 * s2) (2 ^ w)) fun u2 => pin (u1 / (2 * i + 1)) fun x1 => pin (cdv u2 (2 * i + 1)) fun x2 => pin (i + 1) fun i' =>
    match odd with
    | true => pin (b1 + x1) fun c1 => pin (b2 + x2) fun c2 => if u2 ≤ 2 then some (a1, a2, c1, c2) else smGo w s1 s2 f i' false u1 u2 a1 a2 c1 c2
    | false => pin (a1 + x1) fun c1 => pin (a2 + x2) fun c2 => if u2 ≤ 2 then some (c1, c2, b1, b2) else smGo w s1 s2 f i' true u1 u2 c1 c2 b1 b2
def smF (d w : Nat) : Option (Nat × Nat) := pin (2 ^ w / d) fun y1 => pin (cdv (2 ^ w) d) fun y2 => pin (y1 * y1 / 2 ^ w) fun s1 => pin (cdv (y2 * y2) (2 ^ w)) fun s2 =>
  match smGo w s1 s2 1000 1 true y1 y2 y1 y2 0 0 with
  | some (a1, a2, b1, b2) => if b2 + 4 ≤ a1 ∧ b1 ≤ a2 then some (a1 - b2 - 4, a2 - b1 + 4) else none
  | none => none
/-- vernierref8.PiIv. -/
def piIv (w : Nat) : Option (Nat × Nat) := match smF 5 (w + 10), smF 239 (w + 10) with
  | some (a1, a2), some (b1, b2) => if b2 * 4 ≤ a1 * 16 ∧ b1 * 4 ≤ a2 * 16 then some ((a1 * 16 - b2 * 4) / 2 ^ 10, cdv (a2 * 16 - b1 * 4) (2 ^ 10)) else none
  | _, _ => none
def ivOk (w : Nat) : Bool := match piIv w with
  | some (lo, hi) => Nat.ble (lo * 2 ^ (800 - w)) (rootPi * rootPi) && Nat.ble (rootPi * rootPi) (hi * 2 ^ (800 - w))
  | none => false
theorem iv_ok : allFrom ivOk 121 190 = true := by kernel_rfl
end Go.Ev

/- vernierref8: part, small, PiIv, in the evaluator. -/
namespace Go.Proofs.YtemnjalaincijaaGreat
set_option linter.unusedSimpArgs false
set_option linter.unusedVariables false
set_option maxRecDepth 8000
open Go.Ev
theorem pin_eq {α : Type} (n : Nat) (f : Nat → α) : pin n f = f n := by cases n <;> rfl
/-- From one natural to another. -/
abbrev ivN (a b : Nat) : SV := .agg [.bool false, natV (lim a), .bool false, natV (lim b)]
abbrev intN (a : Nat) : SV := .agg [.bool false, natV (lim a)]
theorem intN_eq (n : Nat) : intV (n : Int) = intN n := iv_eq (Int.natAbs_natCast n) (decide_eq_false (by omega))
theorem ivN_eq (m n : Nat) : ivV (m : Int) (n : Int) = ivN m n := by
  show SV.agg [.bool (decide ((m : Int) < 0)), natV (lim (m : Int).natAbs), .bool (decide ((n : Int) < 0)), natV (lim (n : Int).natAbs)] = _
  rw [Int.natAbs_natCast, Int.natAbs_natCast, decide_eq_false (by omega), decide_eq_false (by omega)]
theorem cdv_le {a b c : Nat} (hb : 0 < b) (h : a ≤ c * b) : cdv a b ≤ c := by
  unfold cdv
  rw [Nat.div_le_iff_le_mul hb]
  omega
theorem div_le_cdv {a b d : Nat} (hd : 0 < d) (h : a ≤ b) : a / d ≤ cdv b d := by
  unfold cdv
  exact Nat.div_le_div_right (by omega)
theorem cdZ_nat {n d : Nat} (hd : 0 < d) : cdZ (n : Int) d = (cdv n d : Int) := by
  unfold cdZ cdv
  rw [fall_eq (a := -(n : Int)) (by omega), Int.natAbs_neg, Int.natAbs_natCast]
  have hm := Nat.div_add_mod n d
  have hl := Nat.mod_lt n hd
  by_cases h0 : n % d = 0
  · rw [if_neg (fun h => h.2 h0)]
    have e : (n + d - 1) / d = n / d := by
      rw [show n + d - 1 = (d - 1) + d * (n / d) by omega, Nat.add_mul_div_left _ _ hd, Nat.div_eq_of_lt (by omega), Nat.zero_add]
    rw [e]
    by_cases hn : n = 0
    · subst hn; simp [sgn]
    · rw [decide_eq_true (by omega)]
      show -(-((n / d : Nat) : Int)) = _
      omega
  · have hn : n ≠ 0 := by rintro rfl; simp at h0
    rw [if_pos ⟨by omega, h0⟩]
    have e : (n + d - 1) / d = n / d + 1 := by
      rw [show n + d - 1 = (n % d - 1) + d * (n / d + 1) by rw [Nat.mul_add]; omega, Nat.add_mul_div_left _ _ hd, Nat.div_eq_of_lt (by omega), Nat.zero_add]
    rw [e]
    omega
theorem loQ_nat {a b c d : Nat} (h1 : a ≤ b) (h2 : c ≤ d) : loQ a b c d = ((a * c : Nat) : Int) := by
  have e1 : a * c ≤ a * d := Nat.mul_le_mul_left _ h2
  have e2 : a * c ≤ b * c := Nat.mul_le_mul_right _ h1
  have e3 : a * c ≤ b * d := Nat.mul_le_mul h1 h2
  unfold loQ loP mnZ
  rw [← Int.natCast_mul, ← Int.natCast_mul, ← Int.natCast_mul, ← Int.natCast_mul]
  rw [if_neg (show ¬ ((a * d : Nat) : Int) < ((a * c : Nat) : Int) by omega), if_neg (show ¬ ((b * c : Nat) : Int) < ((a * c : Nat) : Int) by omega), if_neg (by omega)]
  rfl
theorem hiQ_nat {a b c d : Nat} (h1 : a ≤ b) (h2 : c ≤ d) : hiQ a b c d = ((b * d : Nat) : Int) := by
  have e1 : a * c ≤ a * d := Nat.mul_le_mul_left _ h2
  have e2 : a * c ≤ b * c := Nat.mul_le_mul_right _ h1
  have e3 : b * c ≤ b * d := Nat.mul_le_mul_left _ h2
  have e4 : a * d ≤ b * d := Nat.mul_le_mul_right _ h1
  unfold hiQ hiP mxZ
  rw [← Int.natCast_mul, ← Int.natCast_mul, ← Int.natCast_mul, ← Int.natCast_mul]
  repeat' split
  all_goals omega
theorem ref4_ProdN {a b c d w : Nat} (h1 : a ≤ b) (h2 : c ≤ d) (hb : (lim b).length ≤ 10000) (hd : (lim d).length ≤ 10000) (hw : w ≤ 4096) (h0 : 0 < w) :
    Go.Ev.Fn CX 109 [ivN a b, ivN c d, .int .i64 (w : Int)] (ivN (a * c / 2 ^ w) (cdv (b * d) (2 ^ w))) := by
  have la := lim_len_mono h1
  have lc := lim_len_mono h2
  have h := ref4_Prod (a := (a : Int)) (b := (b : Int)) (c := (c : Int)) (d := (d : Int)) (w := w) (by rw [Int.natAbs_natCast]; omega) (by rw [Int.natAbs_natCast]; omega) (by rw [Int.natAbs_natCast]; omega) (by rw [Int.natAbs_natCast]; omega) hw h0
  rw [loQ_nat h1 h2, hiQ_nat h1 h2, cdZ_nat (Nat.pow_pos (by omega)), ← Int.natCast_ediv, ivN_eq, ivN_eq, ivN_eq] at h
  exact h
theorem ref4_ByN {a b n : Nat} (ha : (lim a).length ≤ 100000) (hb : (lim b).length ≤ 100000) (h0 : 0 < n) (hn : n < 9223372036854775808) : Go.Ev.Fn CX 184 [ivN a b, .int .i64 (n : Int)] (ivN (a / n) (cdv b n)) := by
  have h := ref4_By (a := (a : Int)) (b := (b : Int)) (by rw [Int.natAbs_natCast]; omega) (by rw [Int.natAbs_natCast]; omega) n h0 hn
  rw [cdZ_nat h0, ← Int.natCast_ediv, ivN_eq, ivN_eq] at h
  exact h
theorem ref4_MinusN {x y : Int} {c d : Nat} (hx : (lim x.natAbs).length ≤ 100000) (hy : (lim y.natAbs).length ≤ 100000) (hc : (lim c).length ≤ 100000) (hd : (lim d).length ≤ 100000) : Go.Ev.Fn CX 194 [ivV x y, ivN c d] (ivV (x - d) (y - c)) := by
  have h := ref4_Minus (c := (c : Int)) (d := (d : Int)) hx hy (by rw [Int.natAbs_natCast]; omega) (by rw [Int.natAbs_natCast]; omega)
  rw [ivN_eq] at h
  exact h
theorem ref4_SumN {x y : Int} {c d : Nat} (hx : (lim x.natAbs).length ≤ 100000) (hy : (lim y.natAbs).length ≤ 100000) (hc : (lim c).length ≤ 100000) (hd : (lim d).length ≤ 100000) : Go.Ev.Fn CX 99 [ivV x y, ivN c d] (ivV (x + c) (y + d)) := by
  have h := ref4_Sum (c := (c : Int)) (d := (d : Int)) hx hy (by rw [Int.natAbs_natCast]; omega) (by rw [Int.natAbs_natCast]; omega)
  rw [ivN_eq] at h
  exact h
theorem ref4_MostN {a b : Nat} (h1 : a ≤ b) (hb : (lim b).length ≤ 100000) : Go.Ev.Fn CX 185 [ivN a b] (intN b) := by
  have la := lim_len_mono h1
  have h := ref4_Most (a := (a : Int)) (b := (b : Int)) (by rw [Int.natAbs_natCast]; omega) (by rw [Int.natAbs_natCast]; omega)
  rw [Int.natAbs_natCast, Int.natAbs_natCast, Nat.max_eq_right h1, ivN_eq, intN_eq] at h
  exact h
theorem ref4_CmpN {a b : Nat} (ha : (lim a).length ≤ 100000) (hb : (lim b).length ≤ 100000) : Go.Ev.Fn CX 144 [intN a, intN b] (.int .i64 (cmpZ a b)) := by
  have h := ref4_Cmp (a : Int) (b : Int) (by rw [Int.natAbs_natCast]; omega) (by rw [Int.natAbs_natCast]; omega)
  rw [intN_eq, intN_eq] at h
  exact h
theorem lim_len_p2 {n w : Nat} (h : n ≤ 2 ^ w) (hw : w ≤ 1000) : (lim n).length ≤ 40 := by
  have l := lim_len_shl (a := 1) (n := w)
  have l1 := lim_len1
  rw [Nat.one_mul] at l
  have := lim_len_mono h
  omega
section
variable {w s1 s2 : Nat}
set_option maxHeartbeats 1000000 in
theorem ref8_small {v : SV} {q : Rat} {d A B : Nat} (hv : RatA v q 2) (hq : q.num = 1) (hd : q.den = d) (hdd : 0 < d) (hw : w ≤ 900) (hw0 : 0 < w) (hs : smF d w = some (A, B)) :
    Go.Ev.Fn CX 192 [v, .int .i64 (w : Int)] (ivN A B) := by
  have nm := ref4_Num hv (w := w) (by omega) (by omega) (by omega)
  rw [hq, hd, Int.one_mul, cdZ_nat hdd, ← Int.natCast_ediv, ivN_eq] at nm
  unfold smF at hs
  rw [pin_eq, pin_eq, pin_eq, pin_eq] at hs
  have hP : 0 < 2 ^ w := Nat.pow_pos (by omega)
  have y2T : cdv (2 ^ w) d ≤ 2 ^ w := cdv_le hdd (Nat.le_mul_of_pos_right _ hdd)
  have y12 : 2 ^ w / d ≤ cdv (2 ^ w) d := by
    unfold cdv
    exact Nat.div_le_div_right (by omega)
  generalize 2 ^ w / d = y1 at *
  generalize cdv (2 ^ w) d = y2 at *
  have ly2 := lim_len_p2 y2T (by omega)
  have ps := ref4_ProdN (a := y1) (b := y2) (c := y1) (d := y2) (w := w) y12 y12 (by omega) (by omega) (by omega) hw0
  have s2T : cdv (y2 * y2) (2 ^ w) ≤ 2 ^ w := cdv_le hP (Nat.mul_le_mul y2T y2T)
  have s12 : y1 * y1 / 2 ^ w ≤ cdv (y2 * y2) (2 ^ w) := by
    unfold cdv
    refine Nat.div_le_div_right ?_
    have := Nat.mul_le_mul y12 y12
    omega
  generalize y1 * y1 / 2 ^ w = s1 at *
  generalize cdv (y2 * y2) (2 ^ w) = s2 at *
  have ls2 := lim_len_p2 s2T (by omega)
  split at hs
  · rename_i A1 A2 B1 B2 hgo
    by_cases hfin : B2 + 4 ≤ A1 ∧ B1 ≤ A2
    · rw [if_pos hfin] at hs
      obtain ⟨rfl, rfl⟩ : A1 - B2 - 4 = A ∧ A2 - B1 + 4 = B := by simpa using hs
      clear hs
      have w2 := ref4_Whole 2 (by omega)
      rw [show (2 : Int) = ((2 : Nat) : Int) from rfl, intN_eq] at w2
      have l2 : (lim 2).length ≤ 1 := lim_len_one (by decide)
      obtain ⟨s0, n0, d0, rfl, -⟩ := hv
      refine Go.Ev.Fn.intro (fn := Tryz.f192) (body := (Tryz.f192).body.get!) (by kernel_rfl) (by kernel_rfl) (by kernel_rfl) (fun _ => rfl) (Nat.le_of_ble_eq_true (by kernel_rfl)) ?_; unfold Tryz.f192; simp only [Option.get!_some]
      repeat (first | (simp only [go_sem, Nat.reduceEqDiff, Nat.reduceAdd, Nat.reduceSub, Nat.reduceMul, Nat.reduceLeDiff, Nat.reduceLT, reduceIte, reduceCtorEq, Nat.succ_ne_zero, elemsC, Int.reduceToNat, Nat.reducePow]) | (simp (disch := (first | omega | (simp only [AL, List.length_map]; omega))) only [AR, AL, ifT, ifF, take_all, List.length_cons, List.length_nil, Int.reduceToNat, Int.reducePow, Nat.reducePow]) | (refine wk_intro (by kernel_rfl) ?_) | (refine vp_draw (id := 3) (l := []) (by kernel_rfl) ?_) | (refine vf_of (by first | exact nm | exact ps) ?_))
      refine vp_loop_inv (fun s => s.tmp 1 = .sv (.int .i64 (w : Int)) ∧ s.tmp 4 = .ptr 4 0 0 ∧ s.obj 4 0 = some [.bool false, .sl 0 [], .bool false, .sl 0 []] ∧ s.tmp 6 = .ptr 6 0 0 ∧ s.obj 6 0 = some [.bool false, natV (lim s1), .bool false, natV (lim s2)] ∧ s.tmp 7 = .ptr 7 0 0 ∧ s.tmp 8 = .ptr 8 0 0 ∧
          ∃ (f i t1 t2 a1 a2 b1 b2 : Nat) (x y : Int), s.tmp 9 = .sv (.int .i64 (i : Int)) ∧ f + i = 1001 ∧ 1 ≤ i ∧ smGo w s1 s2 f i (decide (i % 2 = 1)) t1 t2 a1 a2 b1 b2 = some (A1, A2, B1, B2) ∧
            s.obj 8 0 = some [.bool false, natV (lim t1), .bool false, natV (lim t2)] ∧ s.obj 7 0 = some [.bool (decide (x < 0)), natV (lim x.natAbs), .bool (decide (y < 0)), natV (lim y.natAbs)] ∧
            x = (a1 : Int) - b2 ∧ y = (a2 : Int) - b1 ∧ t1 ≤ t2 ∧ t2 ≤ 2 ^ w ∧ a1 ≤ i * 2 ^ w ∧ a2 ≤ i * 2 ^ w ∧ b1 ≤ i * 2 ^ w ∧ b2 ≤ i * 2 ^ w)
        (fun s => match s.tmp 9 with | .sv (.int _ i) => 1002 - i.toNat | _ => 0) ⟨rfl, rfl, rfl, rfl, rfl, rfl, rfl, 1000, 1, y1, y2, y1, y2, 0, 0, (y1 : Int), (y2 : Int), rfl, rfl, by omega, hgo, rfl, ?_, by omega, by omega, y12, y2T, by omega, by omega, by omega, by omega⟩ ?_
      · rw [show decide ((y1 : Int) < 0) = false from decide_eq_false (by omega), show decide ((y2 : Int) < 0) = false from decide_eq_false (by omega), Int.natAbs_natCast, Int.natAbs_natCast]
        rfl
      rintro s ⟨i1, i4, o4, i6, o6, i7, i8, f, i, t1, t2, a1, a2, b1, b2, x, y, i9, hfi, hi, hg, o8, o7, hx, hy, g1, g2, g3, g4, g5, g6⟩
      cases f with
      | zero => simp only [smGo] at hg; cases hg
      | succ f =>
        have lt2 := lim_len_p2 g2 (by omega)
        have pp := ref4_ProdN (a := t1) (b := t2) (c := s1) (d := s2) (w := w) g1 s12 (by omega) (by omega) (by omega) hw0
        have u2t : cdv (t2 * s2) (2 ^ w) ≤ t2 := cdv_le hP (Nat.mul_le_mul_left _ s2T)
        have u12 : t1 * s1 / 2 ^ w ≤ cdv (t2 * s2) (2 ^ w) := by
          unfold cdv
          refine Nat.div_le_div_right ?_
          have := Nat.mul_le_mul g1 s12
          omega
        have hbig : i * 2 ^ w ≤ 2 ^ (w + 10) := by
          rw [Nat.pow_add, Nat.mul_comm (2 ^ w)]
          exact Nat.mul_le_mul_right _ (by omega)
        have hpl : (i + 1) * 2 ^ w = i * 2 ^ w + 2 ^ w := by rw [Nat.add_mul, Nat.one_mul]
        have hi2 : 2 ^ w ≤ i * 2 ^ w := Nat.le_mul_of_pos_left _ (by omega)
        have big2 : i * 2 ^ w + i * 2 ^ w ≤ 2 ^ (w + 11) := by rw [show w + 11 = w + 10 + 1 by omega, Nat.pow_succ]; omega
        have nz : 2 * i + 1 ≠ 0 := by omega
        have by1 := ref4_ByN (a := t1 * s1 / 2 ^ w) (b := cdv (t2 * s2) (2 ^ w)) (n := 2 * i + 1) (Nat.le_trans (lim_len_mono (Nat.le_trans u12 u2t)) (by omega)) (Nat.le_trans (lim_len_mono u2t) (by omega)) (by omega) (by omega)
        have x2u : cdv (cdv (t2 * s2) (2 ^ w)) (2 * i + 1) ≤ cdv (t2 * s2) (2 ^ w) := cdv_le (by omega) (Nat.le_mul_of_pos_right _ (by omega))
        have x12 : t1 * s1 / 2 ^ w / (2 * i + 1) ≤ cdv (cdv (t2 * s2) (2 ^ w)) (2 * i + 1) := div_le_cdv (by omega) u12
        have mo := ref4_MostN (a := t1 * s1 / 2 ^ w) (b := cdv (t2 * s2) (2 ^ w)) u12 (Nat.le_trans (lim_len_mono u2t) (by omega))
        have cc := ref4_CmpN (a := cdv (t2 * s2) (2 ^ w)) (b := 2) (Nat.le_trans (lim_len_mono u2t) (by omega)) (by omega)
        have ec : decide (cmpZ ((cdv (t2 * s2) (2 ^ w) : Nat) : Int) ((2 : Nat) : Int) ≤ 0) = decide (cdv (t2 * s2) (2 ^ w) ≤ 2) := by rw [cmpZ_le]; exact decide_eq_decide.2 (by omega)
        have tm : (i : Int).tmod 2 = ((i % 2 : Nat) : Int) := _root_.id rfl
        simp only [smGo, pin_eq] at hg
        generalize cmpZ ((cdv (t2 * s2) (2 ^ w) : Nat) : Int) ((2 : Nat) : Int) = z at *
        generalize t1 * s1 / 2 ^ w = u1 at *
        generalize cdv (t2 * s2) (2 ^ w) = u2 at *
        generalize u1 / (2 * i + 1) = x1 at *
        generalize cdv u2 (2 * i + 1) = x2 at *
        have lu2 := lim_len_p2 (Nat.le_trans u2t g2) (by omega)
        have lx2 := lim_len_mono x2u
        have lx1 := lim_len_mono x12
        have lx := lim_len_p2 (n := x.natAbs) (w := w + 10) (by omega) (by omega)
        have ly := lim_len_p2 (n := y.natAbs) (w := w + 10) (by omega) (by omega)
        rw [show ((2 * i + 1 : Nat) : Int) = 2 * (i : Int) + 1 by omega] at by1
        rcases Nat.mod_two_eq_zero_or_one i with hpar | hpar
        · rw [hpar] at tm
          rw [hpar, show decide ((0 : Nat) = 1) = false from rfl] at hg
          replace hg : (if u2 ≤ 2 then some (a1 + x1, a2 + x2, b1, b2) else smGo w s1 s2 f (i + 1) true u1 u2 (a1 + x1) (a2 + x2) b1 b2) = some (A1, A2, B1, B2) := hg
          have sm := ref4_SumN (x := x) (y := y) (c := x1) (d := x2) (by omega) (by omega) (by omega) (by omega)
          have lX := lim_len_p2 (n := (x + x1).natAbs) (w := w + 11) (by omega) (by omega)
          have lY := lim_len_p2 (n := (y + x2).natAbs) (w := w + 11) (by omega) (by omega)
          by_cases hu : u2 ≤ 2
          · rw [decide_eq_true hu] at ec
            rw [if_pos hu] at hg
            have wd := ref4_Wide (a := x + x1) (b := y + x2) (by omega) (by omega) 4 (by omega)
            simp only [Option.some.injEq, Prod.mk.injEq] at hg
            rw [show x + x1 - 4 = ((A1 - B2 - 4 : Nat) : Int) by omega, show y + x2 + 4 = ((A2 - B1 + 4 : Nat) : Int) by omega, ivN_eq] at wd
            generalize x + x1 = X at *
            generalize y + x2 = Y at *
            clear hg hx hy
            repeat (first | (simp only [go_sem, Nat.reduceEqDiff, Nat.reduceAdd, Nat.reduceSub, Nat.reduceMul, Nat.reduceLeDiff, Nat.reduceLT, reduceIte, reduceCtorEq, Nat.succ_ne_zero, elemsC, Int.reduceToNat, Nat.reducePow, i1, i4, o4, i6, o6, i7, i8, i9, o8, o7, tm, ec]) | (simp (disch := (first | omega | (simp only [AL, List.length_map]; omega))) only [AR, AL, ifT, ifF, take_all, List.length_cons, List.length_nil, Int.reduceToNat, Int.reducePow, Nat.reducePow, i1, i4, o4, i6, o6, i7, i8, i9, o8, o7, tm, ec]) | (refine wk_intro (by kernel_rfl) ?_) | (refine vp_draw (id := 3) (l := []) (by kernel_rfl) ?_) | (refine vf_of (by first | exact pp | exact by1 | exact sm | exact mo | exact w2 | exact cc | exact wd) ?_))
          · rw [decide_eq_false hu] at ec
            rw [if_neg hu] at hg
            have hpar' : decide ((i + 1) % 2 = 1) = true := decide_eq_true (by omega)
            rw [← hpar'] at hg
            generalize hX : x + x1 = X at *
            generalize hY : y + x2 = Y at *
            repeat (first | (simp only [go_sem, Nat.reduceEqDiff, Nat.reduceAdd, Nat.reduceSub, Nat.reduceMul, Nat.reduceLeDiff, Nat.reduceLT, reduceIte, reduceCtorEq, Nat.succ_ne_zero, elemsC, Int.reduceToNat, Nat.reducePow, i1, i4, o4, i6, o6, i7, i8, i9, o8, o7, tm, ec]) | (simp (disch := (first | omega | (simp only [AL, List.length_map]; omega))) only [AR, AL, ifT, ifF, take_all, List.length_cons, List.length_nil, Int.reduceToNat, Int.reducePow, Nat.reducePow, i1, i4, o4, i6, o6, i7, i8, i9, o8, o7, tm, ec]) | (refine wk_intro (by kernel_rfl) ?_) | (refine vp_draw (id := 3) (l := []) (by kernel_rfl) ?_) | (refine vf_of (by first | exact pp | exact by1 | exact sm | exact mo | exact w2 | exact cc) ?_))
            exact ⟨⟨f, i + 1, u1, u2, a1 + x1, a2 + x2, b1, b2, X, Y, rfl, by omega, by omega, hg, rfl, rfl, by omega, by omega, by omega, by omega, by omega, by omega, by omega, by omega⟩, by omega⟩
        · rw [hpar] at tm
          rw [hpar, show decide ((1 : Nat) = 1) = true from rfl] at hg
          replace hg : (if u2 ≤ 2 then some (a1, a2, b1 + x1, b2 + x2) else smGo w s1 s2 f (i + 1) false u1 u2 a1 a2 (b1 + x1) (b2 + x2)) = some (A1, A2, B1, B2) := hg
          have sm := ref4_MinusN (x := x) (y := y) (c := x1) (d := x2) (by omega) (by omega) (by omega) (by omega)
          have lX := lim_len_p2 (n := (x - x2).natAbs) (w := w + 11) (by omega) (by omega)
          have lY := lim_len_p2 (n := (y - x1).natAbs) (w := w + 11) (by omega) (by omega)
          by_cases hu : u2 ≤ 2
          · rw [decide_eq_true hu] at ec
            rw [if_pos hu] at hg
            have wd := ref4_Wide (a := x - x2) (b := y - x1) (by omega) (by omega) 4 (by omega)
            simp only [Option.some.injEq, Prod.mk.injEq] at hg
            rw [show x - x2 - 4 = ((A1 - B2 - 4 : Nat) : Int) by omega, show y - x1 + 4 = ((A2 - B1 + 4 : Nat) : Int) by omega, ivN_eq] at wd
            generalize x - x2 = X at *
            generalize y - x1 = Y at *
            clear hg hx hy
            repeat (first | (simp only [go_sem, Nat.reduceEqDiff, Nat.reduceAdd, Nat.reduceSub, Nat.reduceMul, Nat.reduceLeDiff, Nat.reduceLT, reduceIte, reduceCtorEq, Nat.succ_ne_zero, elemsC, Int.reduceToNat, Nat.reducePow, i1, i4, o4, i6, o6, i7, i8, i9, o8, o7, tm, ec]) | (simp (disch := (first | omega | (simp only [AL, List.length_map]; omega))) only [AR, AL, ifT, ifF, take_all, List.length_cons, List.length_nil, Int.reduceToNat, Int.reducePow, Nat.reducePow, i1, i4, o4, i6, o6, i7, i8, i9, o8, o7, tm, ec]) | (refine wk_intro (by kernel_rfl) ?_) | (refine vp_draw (id := 3) (l := []) (by kernel_rfl) ?_) | (refine vf_of (by first | exact pp | exact by1 | exact sm | exact mo | exact w2 | exact cc | exact wd) ?_))
          · rw [decide_eq_false hu] at ec
            rw [if_neg hu] at hg
            have hpar' : decide ((i + 1) % 2 = 1) = false := decide_eq_false (by omega)
            rw [← hpar'] at hg
            generalize hX : x - x2 = X at *
            generalize hY : y - x1 = Y at *
            repeat (first | (simp only [go_sem, Nat.reduceEqDiff, Nat.reduceAdd, Nat.reduceSub, Nat.reduceMul, Nat.reduceLeDiff, Nat.reduceLT, reduceIte, reduceCtorEq, Nat.succ_ne_zero, elemsC, Int.reduceToNat, Nat.reducePow, i1, i4, o4, i6, o6, i7, i8, i9, o8, o7, tm, ec]) | (simp (disch := (first | omega | (simp only [AL, List.length_map]; omega))) only [AR, AL, ifT, ifF, take_all, List.length_cons, List.length_nil, Int.reduceToNat, Int.reducePow, Nat.reducePow, i1, i4, o4, i6, o6, i7, i8, i9, o8, o7, tm, ec]) | (refine wk_intro (by kernel_rfl) ?_) | (refine vp_draw (id := 3) (l := []) (by kernel_rfl) ?_) | (refine vf_of (by first | exact pp | exact by1 | exact sm | exact mo | exact w2 | exact cc) ?_))
            exact ⟨⟨f, i + 1, u1, u2, a1, a2, b1 + x1, b2 + x2, X, Y, rfl, by omega, by omega, hg, rfl, rfl, by omega, by omega, by omega, by omega, by omega, by omega, by omega, by omega⟩, by omega⟩
    · rw [if_neg hfin] at hs; cases hs
  · cases hs
end
theorem ref8_part {n : Nat} (hn : n < 4294967296) : Go.Ev.Fn CX 193 [.int .u32 (n : Int)] (rv (mkRat 1 n)) := by
  have o := ref2_Of false [1] [n] (by simp [okL]) (by simp [okL]; exact hn) (by simp) (by simp)
  rw [show wth [1] = 1 from rfl, show wth [n] = n by simp [wth]] at o
  have o' : Go.Ev.Fn CX 30 [.bool false, .sl 1 [.int .u32 1], .sl 1 [.int .u32 (n : Int)]] (rv (mkRat 1 n)) := o
  clear o
  generalize mkRat 1 n = q at *
  refine Go.Ev.Fn.intro (fn := Tryz.f193) (body := (Tryz.f193).body.get!) (by kernel_rfl) (by kernel_rfl) (by kernel_rfl) (fun _ => rfl) (Nat.le_of_ble_eq_true (by kernel_rfl)) ?_; unfold Tryz.f193; simp only [Option.get!_some]
  repeat (first | (simp only [go_sem, Nat.reduceEqDiff, Nat.reduceAdd, Nat.reduceSub, Nat.reduceMul, Nat.reduceLeDiff, Nat.reduceLT, reduceIte, reduceCtorEq, Nat.succ_ne_zero, elemsC, Int.reduceToNat, Nat.reducePow]) | (simp (disch := (first | omega | (simp only [AL, List.length_map]; omega))) only [AR, AL, ifT, ifF, take_all, List.length_cons, List.length_nil, Int.reduceToNat, Int.reducePow, Nat.reducePow]) | (refine wk_intro (by kernel_rfl) ?_) | (refine vf_of (by first | exact o') ?_))
theorem ref4_OftenN {a b n : Nat} (ha : (lim a).length ≤ 100000) (hb : (lim b).length ≤ 100000) (hn : n < 4294967296) : Go.Ev.Fn CX 103 [ivN a b, .int .i64 (n : Int)] (ivN (a * n) (b * n)) := by
  have h := ref4_Often (a := (a : Int)) (b := (b : Int)) (by rw [Int.natAbs_natCast]; omega) (by rw [Int.natAbs_natCast]; omega) (n : Int) (by omega)
  rw [← Int.natCast_mul, ← Int.natCast_mul, ivN_eq, ivN_eq] at h
  exact h
theorem ref4_BackN {a b n : Nat} (ha : (lim a).length ≤ 100000) (hb : (lim b).length ≤ 100000) (hn : n ≤ 4096) (h0 : 0 < n) : Go.Ev.Fn CX 105 [ivN a b, .int .i64 (n : Int)] (ivN (a / 2 ^ n) (cdv b (2 ^ n))) := by
  have h := ref4_Back (a := (a : Int)) (b := (b : Int)) (by rw [Int.natAbs_natCast]; omega) (by rw [Int.natAbs_natCast]; omega) n hn h0
  rw [cdZ_nat (Nat.pow_pos (by omega)), ← Int.natCast_ediv, ivN_eq, ivN_eq] at h
  exact h
/-- An angle's interval is no wider than so. -/
theorem smGo_bd {w s1 s2 T : Nat} (hs1 : s1 ≤ 2 ^ w) (hs : s2 ≤ 2 ^ w) : ∀ (f i : Nat) (odd : Bool) (t1 t2 a1 a2 b1 b2 : Nat) {A1 A2 B1 B2 : Nat}, smGo w s1 s2 f i odd t1 t2 a1 a2 b1 b2 = some (A1, A2, B1, B2) → t1 ≤ T → t2 ≤ T → A1 ≤ a1 + f * T ∧ A2 ≤ a2 + f * T := by
  intro f
  induction f with
  | zero => intro i odd t1 t2 a1 a2 b1 b2 A1 A2 B1 B2 h; simp only [smGo] at h; cases h
  | succ f ih =>
    intro i odd t1 t2 a1 a2 b1 b2 A1 A2 B1 B2 h ht1 ht
    have hP : 0 < 2 ^ w := Nat.pow_pos (by omega)
    have u1t : t1 * s1 / 2 ^ w ≤ t1 := (Nat.div_le_iff_le_mul hP).2 (by have := Nat.mul_le_mul_left t1 hs1; omega)
    have x1u := Nat.div_le_self (t1 * s1 / 2 ^ w) (2 * i + 1)
    have u2t : cdv (t2 * s2) (2 ^ w) ≤ t2 := cdv_le hP (Nat.mul_le_mul_left _ hs)
    have x2u : cdv (cdv (t2 * s2) (2 ^ w)) (2 * i + 1) ≤ cdv (t2 * s2) (2 ^ w) := cdv_le (by omega) (Nat.le_mul_of_pos_right _ (by omega))
    simp only [smGo, pin_eq] at h
    generalize cdv (t2 * s2) (2 ^ w) = u2 at *
    generalize cdv u2 (2 * i + 1) = x2 at *
    generalize t1 * s1 / 2 ^ w = u1 at *
    generalize u1 / (2 * i + 1) = x1 at *
    rw [Nat.add_mul, Nat.one_mul]
    cases odd with
    | true =>
      replace h : (if u2 ≤ 2 then some (a1, a2, b1 + x1, b2 + x2) else smGo w s1 s2 f (i + 1) false u1 u2 a1 a2 (b1 + x1) (b2 + x2)) = some (A1, A2, B1, B2) := h
      split at h
      · simp only [Option.some.injEq, Prod.mk.injEq] at h
        omega
      · have := ih _ _ _ _ _ _ _ _ h (by omega) (by omega)
        omega
    | false =>
      replace h : (if u2 ≤ 2 then some (a1 + x1, a2 + x2, b1, b2) else smGo w s1 s2 f (i + 1) true u1 u2 (a1 + x1) (a2 + x2) b1 b2) = some (A1, A2, B1, B2) := h
      split at h
      · simp only [Option.some.injEq, Prod.mk.injEq] at h
        omega
      · have := ih _ _ _ _ _ _ _ _ h (by omega) (by omega)
        omega
theorem smF_bd {d w A B : Nat} (hd : 0 < d) (hw : w ≤ 900) (h : smF d w = some (A, B)) : (lim A).length ≤ 50 ∧ (lim B).length ≤ 50 := by
  unfold smF at h
  rw [pin_eq, pin_eq, pin_eq, pin_eq] at h
  have hP : 0 < 2 ^ w := Nat.pow_pos (by omega)
  have y2T : cdv (2 ^ w) d ≤ 2 ^ w := cdv_le hd (Nat.le_mul_of_pos_right _ hd)
  have s2T : cdv (cdv (2 ^ w) d * cdv (2 ^ w) d) (2 ^ w) ≤ 2 ^ w := cdv_le hP (Nat.mul_le_mul y2T y2T)
  split at h
  · rename_i A1 A2 B1 B2 hgo
    have y1T : 2 ^ w / d ≤ 2 ^ w := Nat.div_le_self _ _
    have s1T : 2 ^ w / d * (2 ^ w / d) / 2 ^ w ≤ 2 ^ w := (Nat.div_le_iff_le_mul hP).2 (by have := Nat.mul_le_mul y1T y1T; omega)
    have hb := smGo_bd s1T s2T _ _ _ _ _ _ _ _ _ hgo y1T y2T
    split at h
    · simp only [Option.some.injEq, Prod.mk.injEq] at h
      have hbig : 2 ^ w * 2048 = 2 ^ (w + 11) := by rw [Nat.pow_add]
      have l1 := lim_len_p2 (n := B - 4) (w := w + 11) (by omega) (by omega)
      have l2 : (lim B).length ≤ 41 := Nat.le_trans (lim_len_mono (show B ≤ (B - 4) + 4 by omega)) (lim_len_add (L := 40) l1 (Nat.le_trans (lim_len_one (by decide)) (by omega)))
      exact ⟨Nat.le_trans (lim_len_p2 (n := A) (w := w + 11) (by omega) (by omega)) (by omega), by omega⟩
    · cases h
  · cases h
theorem ref8_PiIv {w lo hi : Nat} (hw : w ≤ 800) (h : piIv w = some (lo, hi)) : Go.Ev.Fn CX 157 [.int .i64 (w : Int)] (ivN lo hi) := by
  unfold piIv at h
  split at h
  · rename_i a1 a2 b1 b2 h1 h2
    split at h
    · rename_i hc
      obtain ⟨rfl, rfl⟩ : (a1 * 16 - b2 * 4) / 2 ^ 10 = lo ∧ cdv (a2 * 16 - b1 * 4) (2 ^ 10) = hi := by simpa using h
      clear h
      have p5 := ref8_part (n := 5) (by omega)
      have p239 := ref8_part (n := 239) (by omega)
      have z5 : szR (mkRat 1 5) 2 := ⟨lim_len_lt (by decide +kernel), lim_len_lt (by decide +kernel)⟩
      have z239 : szR (mkRat 1 239) 2 := ⟨lim_len_lt (by decide +kernel), lim_len_lt (by decide +kernel)⟩
      have s5 := ref8_small (d := 5) (RatA_rv z5) (by decide +kernel) (by decide +kernel) (by omega) (by omega) (by omega) h1
      have s239 := ref8_small (d := 239) (RatA_rv z239) (by decide +kernel) (by decide +kernel) (by omega) (by omega) (by omega) h2
      obtain ⟨g1, g2⟩ := smF_bd (by omega) (by omega) h1
      obtain ⟨g3, g4⟩ := smF_bd (by omega) (by omega) h2
      have o1 := ref4_OftenN (a := a1) (b := a2) (n := 16) (by omega) (by omega) (by omega)
      have o2 := ref4_OftenN (a := b1) (b := b2) (n := 4) (by omega) (by omega) (by omega)
      have l16 : (lim 16).length ≤ 1 := lim_len_one (by decide)
      have l4 : (lim 4).length ≤ 1 := lim_len_one (by decide)
      have e1 := lim_len_mul (a := a1) (b := 16)
      have e2 := lim_len_mul (a := a2) (b := 16)
      have e3 := lim_len_mul (a := b1) (b := 4)
      have e4 := lim_len_mul (a := b2) (b := 4)
      have m := ref4_MinusN (x := ((a1 * 16 : Nat) : Int)) (y := ((a2 * 16 : Nat) : Int)) (c := b1 * 4) (d := b2 * 4) (by rw [Int.natAbs_natCast]; omega) (by rw [Int.natAbs_natCast]; omega) (by omega) (by omega)
      rw [← Int.ofNat_sub hc.1, ← Int.ofNat_sub hc.2, ivN_eq, ivN_eq] at m
      have l5 := lim_len_mono (Nat.sub_le (a1 * 16) (b2 * 4))
      have l6 := lim_len_mono (Nat.sub_le (a2 * 16) (b1 * 4))
      have bk := ref4_BackN (a := a1 * 16 - b2 * 4) (b := a2 * 16 - b1 * 4) (n := 10) (by omega) (by omega) (by omega) (by omega)
      generalize (a1 * 16 - b2 * 4) / 2 ^ 10 = x at *
      generalize cdv (a2 * 16 - b1 * 4) (2 ^ 10) = y at *
      generalize a1 * 16 - b2 * 4 = x1 at *
      generalize a2 * 16 - b1 * 4 = x2 at *
      generalize a1 * 16 = x3 at *
      generalize a2 * 16 = x4 at *
      generalize b1 * 4 = x5 at *
      generalize b2 * 4 = x6 at *
      generalize mkRat 1 5 = q5 at *
      generalize mkRat 1 239 = q239 at *
      rw [show ((w + 10 : Nat) : Int) = (w : Int) + 10 by omega] at s5 s239
      refine Go.Ev.Fn.intro (fn := Tryz.f157) (body := (Tryz.f157).body.get!) (by kernel_rfl) (by kernel_rfl) (by kernel_rfl) (fun _ => rfl) (Nat.le_of_ble_eq_true (by kernel_rfl)) ?_; unfold Tryz.f157; simp only [Option.get!_some]
      repeat (first | (simp only [go_sem, Nat.reduceEqDiff, Nat.reduceAdd, Nat.reduceSub, Nat.reduceMul, Nat.reduceLeDiff, Nat.reduceLT, reduceIte, reduceCtorEq, Nat.succ_ne_zero, elemsC, Int.reduceToNat, Nat.reducePow]) | (simp (disch := (first | omega | (simp only [AL, List.length_map]; omega))) only [AR, AL, ifT, ifF, take_all, List.length_cons, List.length_nil, Int.reduceToNat, Int.reducePow, Nat.reducePow]) | (refine wk_intro (by kernel_rfl) ?_) | (refine vp_draw (id := 2) (l := []) (by kernel_rfl) ?_) | (refine vf_of (by first | exact p5 | exact s5 | exact p239 | exact s239 | exact o1 | exact o2 | exact m | exact bk) ?_))
    · cases h
  · cases h
end Go.Proofs.YtemnjalaincijaaGreat

/- arcs: angle, pi, held, Pi; fix.Certain, in the evaluator. -/
namespace Go.Proofs.YtemnjalaincijaaGreat
set_option linter.unusedSimpArgs false
set_option linter.unusedVariables false
set_option maxRecDepth 8000
open Go.Ev
theorem times_le {x k : Nat} : (x + 1) * (2 * k) / (2 * k + 1) + 1 ≤ x + 2 := by
  have h : (x + 1) * (2 * k) / (2 * k + 1) ≤ x + 1 := (Nat.div_le_iff_le_mul (by omega)).2 (by have := Nat.mul_le_mul_left (x + 1) (show 2 * k ≤ 2 * k + 1 by omega); omega)
  omega
set_option maxHeartbeats 1000000 in
theorem arcs_angle {n d w A B : Nat} (hn : n ≤ 1000) (hd : d ≤ 1000) (hd0 : 0 < d) (hw : w ≤ 900) (hw0 : 0 < w) (h : angF n d w = some (A, B)) : Go.Ev.Fn CX 214 [natV (lim n), natV (lim d), .int .i64 (w : Int)] (spanV A B) := by
  unfold angF at h
  rw [pin_eq, pin_eq] at h
  have ln : (lim n).length ≤ 1 := lim_len_one (by omega)
  have ld : (lim d).length ≤ 1 := lim_len_one (by omega)
  have m1 := nat_MulL (N := n) (D := n) (by omega) (by omega)
  have m2 := nat_MulL (N := d) (D := d) (by omega) (by omega)
  have m3 := nat_MulL (N := n) (D := d) (by omega) (by omega)
  have lnn := lim_len_mul (a := n) (b := n)
  have ldd := lim_len_mul (a := d) (b := d)
  have lnd := lim_len_mul (a := n) (b := d)
  have s1 := nat_AddL (N := n * n) (D := d * d) (by omega) (by omega)
  have lsq := lim_len_add (a := n * n) (b := d * d) (L := 2) (by omega) (by omega)
  have hdd : 0 < d * d := Nat.mul_pos hd0 hd0
  have hnd : n * d ≤ n * n + d * d := by
    rcases Nat.le_total n d with g | g
    · have := Nat.mul_le_mul_right d g; omega
    · have := Nat.mul_le_mul_left n g; omega
  have o1 := fix_Of (n := n * n) (d := n * n + d * d) (w := w) (by omega) (by omega) (by omega) (by omega)
  have o2 := fix_Of (n := n * d) (d := n * n + d * d) (w := w) (by omega) (by omega) (by omega) (by omega)
  have hb1 : n * n * 2 ^ w / (n * n + d * d) < 2 ^ w := by
    rw [Nat.div_lt_iff_lt_mul (by omega), Nat.mul_comm (2 ^ w)]
    exact Nat.mul_lt_mul_of_pos_right (by omega) (Nat.pow_pos (by omega))
  have ht1 : n * d * 2 ^ w / (n * n + d * d) ≤ 2 ^ w := (Nat.div_le_iff_le_mul (by omega)).2 (by have := Nat.mul_le_mul_right (2 ^ w) hnd; rw [Nat.mul_comm (2 ^ w)]; omega)
  generalize n * n * 2 ^ w / (n * n + d * d) = b1 at *
  generalize n * d * 2 ^ w / (n * n + d * d) = t0 at *
  generalize n * n + d * d = sq at *
  generalize n * n = nn at *
  generalize d * d = dd at *
  generalize n * d = nd at *
  have hP : 0 < 2 ^ w := Nat.pow_pos (by omega)
  have lb := lim_len_p2 (n := b1) (w := w) (by omega) (by omega)
  have lb2 := lim_len_p2 (n := b1 + 1) (w := w) (by omega) (by omega)
  have big : 2 ^ w * 2048 = 2 ^ (w + 11) := by rw [Nat.pow_add]
  have big2 : 2 ^ (w + 11) * 2048 = 2 ^ (w + 22) := by rw [show w + 22 = (w + 11) + 11 by omega, Nat.pow_add 2 (w + 11) 11]
  refine Go.Ev.Fn.intro (fn := Tryz.f214) (body := (Tryz.f214).body.get!) (by kernel_rfl) (by kernel_rfl) (by kernel_rfl) (fun _ => rfl) (Nat.le_of_ble_eq_true (by kernel_rfl)) ?_; unfold Tryz.f214; simp only [Option.get!_some]
  repeat (first | (simp only [go_sem, Nat.reduceEqDiff, Nat.reduceAdd, Nat.reduceSub, Nat.reduceMul, Nat.reduceLeDiff, Nat.reduceLT, reduceIte, reduceCtorEq, Nat.succ_ne_zero, elemsC, Int.reduceToNat, Nat.reducePow]) | (simp (disch := (first | omega | (simp only [AL, List.length_map]; omega))) only [AR, AL, ifT, ifF, take_all, List.length_cons, List.length_nil, Int.reduceToNat, Int.reducePow, Nat.reducePow]) | (refine wk_intro (by kernel_rfl) ?_) | (refine vf_of (by first | exact m1 | exact m2 | exact s1 | exact o1 | exact m3 | exact o2) ?_))
  refine vp_loop_inv (fun s => s.tmp 2 = .sv (.int .i64 (w : Int)) ∧ s.tmp 6 = .ptr 6 0 0 ∧ s.obj 6 0 = some [.sl 0 [], .sl 0 []] ∧ s.tmp 8 = .ptr 8 0 0 ∧ s.obj 8 0 = some [natV (lim b1), natV (lim (b1 + 1))] ∧ s.tmp 9 = .ptr 9 0 0 ∧ s.tmp 10 = .ptr 10 0 0 ∧
      ∃ f k t1 t2 a1 a2 : Nat, s.tmp 11 = .sv (.int .u64 (k : Int)) ∧ f + k = 1001 ∧ 1 ≤ k ∧ angGo w b1 (b1 + 1) f k t1 t2 a1 a2 = some (A, B) ∧ s.obj 9 0 = some [natV (lim t1), natV (lim t2)] ∧ s.obj 10 0 = some [natV (lim a1), natV (lim a2)] ∧
        t1 ≤ t2 ∧ t2 ≤ 2 ^ w + 2 * k ∧ a1 ≤ a2 ∧ a2 ≤ k * 2 ^ (w + 11))
    (fun s => match s.tmp 11 with | .sv (.int _ i) => 1002 - i.toNat | _ => 0) ⟨rfl, rfl, rfl, rfl, rfl, rfl, rfl, 1000, 1, t0, t0 + 1, t0, t0 + 1, rfl, rfl, by omega, h, rfl, rfl, by omega, by omega, by omega, by omega⟩ ?_
  rintro s ⟨i2, i6, o6, i8, o8, i9, i10, f, k, t1, t2, a1, a2, i11, hfk, hk, hg, o9, o10, g1, g2, g3, g4⟩
  have hk2 : k * 2 ^ (w + 11) ≤ 1001 * 2 ^ (w + 11) := Nat.mul_le_mul_right _ (by omega)
  have lt2 := lim_len_p2 (n := t2) (w := w + 11) (by omega) (by omega)
  have lt1 := lim_len_p2 (n := t1) (w := w + 11) (by omega) (by omega)
  have la2 := lim_len_p2 (n := a2) (w := w + 22) (by omega) (by omega)
  have la1 := lim_len_p2 (n := a1) (w := w + 22) (by omega) (by omega)
  have sm := fix_Small (a := t1) (b := t2) (by omega) (k := 2) (by omega)
  cases f with
  | zero => simp only [angGo] at hg; cases hg
  | succ f =>
    rw [angGo] at hg
    simp only [pin_eq] at hg
    by_cases hs : t2 < 2 ^ 2
    · rw [decide_eq_true hs] at sm
      rw [if_pos (show t2 < 4 from hs)] at hg
      obtain ⟨rfl, rfl⟩ : a1 = A ∧ a2 + 8 = B := by simpa using hg
      have wd := fix_Wider (a := a1) (b := a2) (n := 8) (by omega) (by omega) (by omega)
      clear hg
      repeat (first | (simp only [go_sem, Nat.reduceEqDiff, Nat.reduceAdd, Nat.reduceSub, Nat.reduceMul, Nat.reduceLeDiff, Nat.reduceLT, reduceIte, reduceCtorEq, Nat.succ_ne_zero, elemsC, Int.reduceToNat, Nat.reducePow, i2, i6, o6, i8, o8, i9, i10, i11, o9, o10, Bool.not_true]) | (simp (disch := (first | omega | (simp only [AL, List.length_map]; omega))) only [AR, AL, ifT, ifF, take_all, List.length_cons, List.length_nil, Int.reduceToNat, Int.reducePow, Nat.reducePow, i2, i6, o6, i8, o8, i9, i10, i11, o9, o10, Bool.not_true]) | (refine wk_intro (by kernel_rfl) ?_) | (refine vf_of (by first | exact sm | exact wd) ?_))
    · rw [decide_eq_false hs] at sm
      rw [if_neg (show ¬ t2 < 4 from hs)] at hg
      have mu := fix_Mul (a := t1) (b := t2) (c := b1) (d := b1 + 1) (w := w) (by omega) (by omega) (by omega) (by omega) (by omega) hw0
      have q1 := nat_Of (2 * k) (by omega)
      have q2 := nat_Of (2 * k + 1) (by omega)
      have l1 : (lim (2 * k)).length ≤ 1 := lim_len_one (by omega)
      have l2 : (lim (2 * k + 1)).length ≤ 1 := lim_len_one (by omega)
      have hx : t2 * (b1 + 1) / 2 ^ w ≤ t2 := (Nat.div_le_iff_le_mul hP).2 (by have := Nat.mul_le_mul_left t2 (show b1 + 1 ≤ 2 ^ w by omega); omega)
      have hy : t1 * b1 / 2 ^ w ≤ t2 * (b1 + 1) / 2 ^ w := Nat.div_le_div_right (Nat.mul_le_mul g1 (by omega))
      generalize t1 * b1 / 2 ^ w = x1 at *
      generalize t2 * (b1 + 1) / 2 ^ w = x2 at *
      have lx2 := lim_len_p2 (n := x2 + 1) (w := w + 11) (by omega) (by omega)
      have lx1 := lim_len_p2 (n := x1) (w := w + 11) (by omega) (by omega)
      have ti := fix_Times (a := x1) (b := x2 + 1) (n := 2 * k) (d := 2 * k + 1) (by omega) (by omega) (by omega) (by omega) (by omega)
      have hz := times_le (x := x2) (k := k)
      have hz2 : x1 * (2 * k) / (2 * k + 1) ≤ (x2 + 1) * (2 * k) / (2 * k + 1) + 1 := Nat.le_succ_of_le (Nat.div_le_div_right (Nat.mul_le_mul_right _ (by omega)))
      generalize x1 * (2 * k) / (2 * k + 1) = u1 at *
      generalize (x2 + 1) * (2 * k) / (2 * k + 1) + 1 = u2 at *
      have lu2 := lim_len_p2 (n := u2) (w := w + 11) (by omega) (by omega)
      have lu1 := lim_len_p2 (n := u1) (w := w + 11) (by omega) (by omega)
      have ad := fix_Add (a := a1) (b := a2) (c := u1) (d := u2) (by omega) (by omega) (by omega) (by omega)
      have e1 : ((2 * k : Nat) : Int) = 2 * (k : Int) := by omega
      have e2 : ((2 * k + 1 : Nat) : Int) = 2 * (k : Int) + 1 := by omega
      rw [e1] at q1
      rw [e2] at q2
      repeat (first | (simp only [go_sem, Nat.reduceEqDiff, Nat.reduceAdd, Nat.reduceSub, Nat.reduceMul, Nat.reduceLeDiff, Nat.reduceLT, reduceIte, reduceCtorEq, Nat.succ_ne_zero, elemsC, Int.reduceToNat, Nat.reducePow, i2, i6, o6, i8, o8, i9, i10, i11, o9, o10, Bool.not_false]) | (simp (disch := (first | omega | (simp only [AL, List.length_map]; omega))) only [AR, AL, ifT, ifF, take_all, List.length_cons, List.length_nil, Int.reduceToNat, Int.reducePow, Nat.reducePow, i2, i6, o6, i8, o8, i9, i10, i11, o9, o10, Bool.not_false]) | (refine wk_intro (by kernel_rfl) ?_) | (refine vf_of (by first | exact sm | exact mu | exact q1 | exact q2 | exact ti | exact ad) ?_))
      exact ⟨⟨f, k + 1, u1, u2, a1 + u1, a2 + u2, rfl, by omega, by omega, hg, rfl, rfl, by omega, by omega, by omega, by rw [Nat.add_mul, Nat.one_mul]; omega⟩, by omega⟩
theorem fix_Certain1 {p sp lo hi : Nat} {f : FuncId} (hf : Go.Ev.Fn CX f [.int .i64 ((p + sp : Nat) : Int)] (spanV lo hi)) (hlo : (lim lo).length ≤ 1000) (hhi : (lim hi).length ≤ 1000) (hp : p ≤ 10000) (hsp : sp ≤ 1000) (hs0 : 0 < sp) (hc : lo / 2 ^ sp = (hi - 1) / 2 ^ sp) :
    Go.Ev.Fn CX 117 [.int .i64 (p : Int), .int .i64 (sp : Int), .fn f []] (ballR (mkRat ((lo / 2 ^ sp : Nat) : Int) (2 ^ p)) (mkRat ((lo / 2 ^ sp + 1 : Nat) : Int) (2 ^ p))) := by
  have fl := fix_Floor (a := lo) (b := hi) (w := p + sp) (p := p) (by omega) (by omega) (by omega) (by omega)
  rw [Nat.add_sub_cancel_left, decide_eq_true hc] at fl
  have o := fix_One
  have l1 := lim_len1
  have sh := fix_shl (a := 1) (m := p) (by omega) (by omega)
  have lp := lim_len_shl (a := 1) (n := p)
  rw [Nat.one_mul] at sh lp
  have ll := lim_len_mono (Nat.div_le_self lo (2 ^ sp))
  have n1 := fix_Next (a := lo / 2 ^ sp) (by omega)
  have l2 := lim_len_add (a := lo / 2 ^ sp) (b := 1) (L := 1000) (by omega) (by omega)
  have r1 := rat_OfL (s := false) (n := lo / 2 ^ sp) (d := 2 ^ p) (by omega) (by omega)
  have r2 := rat_OfL (s := false) (n := lo / 2 ^ sp + 1) (d := 2 ^ p) (by omega) (by omega)
  rw [show sgn false (lo / 2 ^ sp) = ((lo / 2 ^ sp : Nat) : Int) from rfl] at r1
  rw [show sgn false (lo / 2 ^ sp + 1) = ((lo / 2 ^ sp + 1 : Nat) : Int) from rfl] at r2
  generalize mkRat ((lo / 2 ^ sp : Nat) : Int) (2 ^ p) = q1 at *
  generalize mkRat ((lo / 2 ^ sp + 1 : Nat) : Int) (2 ^ p) = q2 at *
  generalize lo / 2 ^ sp + 1 = a' at *
  generalize lo / 2 ^ sp = a at *
  generalize 2 ^ p = P at *
  rw [show ((p + sp : Nat) : Int) = (p : Int) + (sp : Int) from rfl] at hf fl
  refine Go.Ev.Fn.intro (fn := Tryz.f117) (body := (Tryz.f117).body.get!) (by kernel_rfl) (by kernel_rfl) (by kernel_rfl) (fun _ => rfl) (Nat.le_of_ble_eq_true (by kernel_rfl)) ?_; unfold Tryz.f117; simp only [Option.get!_some]
  repeat (first | (simp only [go_sem, Nat.reduceEqDiff, Nat.reduceAdd, Nat.reduceSub, Nat.reduceMul, Nat.reduceLeDiff, Nat.reduceLT, reduceIte, reduceCtorEq, Nat.succ_ne_zero, elemsC, Int.reduceToNat, Nat.reducePow]) | (simp (disch := (first | omega | (simp only [AL, List.length_map]; omega))) only [AR, AL, ifT, ifF, take_all, List.length_cons, List.length_nil, Int.reduceToNat, Int.reducePow, Nat.reducePow]) | (refine wk_intro (by kernel_rfl) ?_))
  refine vp_loop_inv (fun s => s.tmp 0 = .sv (.int .i64 (p : Int)) ∧ s.tmp 2 = .sv (.fn f []) ∧ s.tmp 6 = .ptr 6 0 0 ∧ s.obj 6 0 = some [.bool false, .sl 0 [], .sl 0 [], .bool false, .sl 0 [], .sl 0 []] ∧ s.tmp 7 = .sv (.int .i64 ((p : Int) + (sp : Int)))) (fun _ => 0) ⟨rfl, rfl, rfl, rfl, rfl⟩ ?_
  rintro s ⟨i0, i2, i6, o6, i7⟩
  repeat (first | (simp only [go_sem, Nat.reduceEqDiff, Nat.reduceAdd, Nat.reduceSub, Nat.reduceMul, Nat.reduceLeDiff, Nat.reduceLT, reduceIte, reduceCtorEq, Nat.succ_ne_zero, elemsC, Int.reduceToNat, Nat.reducePow, i0, i2, i6, o6, i7]) | (simp (disch := (first | omega | (simp only [AL, List.length_map]; omega))) only [AR, AL, ifT, ifF, take_all, List.length_cons, List.length_nil, Int.reduceToNat, Int.reducePow, Nat.reducePow, i0, i2, i6, o6, i7]) | (refine wk_intro (by kernel_rfl) ?_) | (refine vf_of (by first | exact hf | exact fl | exact o | exact sh | exact r1 | exact n1 | exact r2) ?_))
theorem arcs_held (p : Int) : Go.Ev.Fn CX 189 [.int .i64 p] (.int .i64 (if p < 0 then 0 else if 512 < p then 512 else p)) := by
  by_cases h1 : p < 0
  · rw [if_pos h1]
    have e1 : (if (0 : Int) > p then (0 : Int) else p) = 0 := if_pos (by omega)
    refine Go.Ev.Fn.intro (fn := Tryz.f189) (body := (Tryz.f189).body.get!) (by kernel_rfl) (by kernel_rfl) (by kernel_rfl) (fun _ => rfl) (Nat.le_of_ble_eq_true (by kernel_rfl)) ?_; unfold Tryz.f189; simp only [Option.get!_some]
    repeat (first | (simp only [go_sem, Nat.reduceEqDiff, Nat.reduceAdd, Nat.reduceSub, Nat.reduceMul, Nat.reduceLeDiff, Nat.reduceLT, reduceIte, reduceCtorEq, Nat.succ_ne_zero, elemsC, Int.reduceToNat, Nat.reducePow, e1]) | (simp (disch := (first | omega | (simp only [AL, List.length_map]; omega))) only [AR, AL, ifT, ifF, take_all, List.length_cons, List.length_nil, Int.reduceToNat, Int.reducePow, Nat.reducePow, e1]) | (refine wk_intro (by kernel_rfl) ?_))
  · rw [if_neg h1]
    have e1 : (if (0 : Int) > p then (0 : Int) else p) = p := if_neg (by omega)
    by_cases h2 : 512 < p
    · rw [if_pos h2]
      have e2 : (if (512 : Int) < p then (512 : Int) else p) = 512 := if_pos h2
      refine Go.Ev.Fn.intro (fn := Tryz.f189) (body := (Tryz.f189).body.get!) (by kernel_rfl) (by kernel_rfl) (by kernel_rfl) (fun _ => rfl) (Nat.le_of_ble_eq_true (by kernel_rfl)) ?_; unfold Tryz.f189; simp only [Option.get!_some]
      repeat (first | (simp only [go_sem, Nat.reduceEqDiff, Nat.reduceAdd, Nat.reduceSub, Nat.reduceMul, Nat.reduceLeDiff, Nat.reduceLT, reduceIte, reduceCtorEq, Nat.succ_ne_zero, elemsC, Int.reduceToNat, Nat.reducePow, e1, e2]) | (simp (disch := (first | omega | (simp only [AL, List.length_map]; omega))) only [AR, AL, ifT, ifF, take_all, List.length_cons, List.length_nil, Int.reduceToNat, Int.reducePow, Nat.reducePow, e1, e2]) | (refine wk_intro (by kernel_rfl) ?_))
    · rw [if_neg h2]
      have e2 : (if (512 : Int) < p then (512 : Int) else p) = p := if_neg h2
      refine Go.Ev.Fn.intro (fn := Tryz.f189) (body := (Tryz.f189).body.get!) (by kernel_rfl) (by kernel_rfl) (by kernel_rfl) (fun _ => rfl) (Nat.le_of_ble_eq_true (by kernel_rfl)) ?_; unfold Tryz.f189; simp only [Option.get!_some]
      repeat (first | (simp only [go_sem, Nat.reduceEqDiff, Nat.reduceAdd, Nat.reduceSub, Nat.reduceMul, Nat.reduceLeDiff, Nat.reduceLT, reduceIte, reduceCtorEq, Nat.succ_ne_zero, elemsC, Int.reduceToNat, Nat.reducePow, e1, e2]) | (simp (disch := (first | omega | (simp only [AL, List.length_map]; omega))) only [AR, AL, ifT, ifF, take_all, List.length_cons, List.length_nil, Int.reduceToNat, Int.reducePow, Nat.reducePow, e1, e2]) | (refine wk_intro (by kernel_rfl) ?_))
theorem angGo_bd {w b1 b2 T : Nat} (hb : b1 ≤ b2) (hb2 : b2 ≤ 2 ^ w) : ∀ (f k t1 t2 a1 a2 : Nat) {A B : Nat}, angGo w b1 b2 f k t1 t2 a1 a2 = some (A, B) → t1 ≤ t2 → t2 + 2 * f ≤ T → a1 ≤ a2 → A ≤ B ∧ B ≤ a2 + f * T + 8 := by
  intro f
  induction f with
  | zero => intro k t1 t2 a1 a2 A B h; simp only [angGo] at h; cases h
  | succ f ih =>
    intro k t1 t2 a1 a2 A B h ht hT ha
    have hP : 0 < 2 ^ w := Nat.pow_pos (by omega)
    rw [angGo] at h
    simp only [pin_eq] at h
    rw [Nat.add_mul, Nat.one_mul]
    by_cases hs : t2 < 4
    · rw [if_pos hs] at h
      obtain ⟨rfl, rfl⟩ : a1 = A ∧ a2 + 8 = B := by simpa using h
      omega
    · rw [if_neg hs] at h
      have hx : t2 * b2 / 2 ^ w ≤ t2 := (Nat.div_le_iff_le_mul hP).2 (by have := Nat.mul_le_mul_left t2 hb2; omega)
      have hy : t1 * b1 / 2 ^ w ≤ t2 * b2 / 2 ^ w := Nat.div_le_div_right (Nat.mul_le_mul ht hb)
      have hz := times_le (x := t2 * b2 / 2 ^ w) (k := k)
      have hz2 : t1 * b1 / 2 ^ w * (2 * k) / (2 * k + 1) ≤ (t2 * b2 / 2 ^ w + 1) * (2 * k) / (2 * k + 1) + 1 := Nat.le_succ_of_le (Nat.div_le_div_right (Nat.mul_le_mul_right _ (by omega)))
      generalize t1 * b1 / 2 ^ w * (2 * k) / (2 * k + 1) = u1 at *
      generalize (t2 * b2 / 2 ^ w + 1) * (2 * k) / (2 * k + 1) + 1 = u2 at *
      have := ih _ _ _ _ _ h hz2 (by omega) (by omega)
      omega
theorem angF_bd {n d w A B : Nat} (hn0 : 0 < n) (hnd : n ≤ d) (hw : w ≤ 900) (hw0 : 11 ≤ w) (h : angF n d w = some (A, B)) : (lim A).length ≤ 40 ∧ (lim B).length ≤ 40 := by
  unfold angF at h
  rw [pin_eq, pin_eq] at h
  have hP : 0 < 2 ^ w := Nat.pow_pos (by omega)
  have h1 := Nat.mul_le_mul hnd hnd
  have h2 : n * d ≤ d * d := Nat.mul_le_mul_right _ hnd
  have h3 : 0 < n * n := Nat.mul_pos hn0 hn0
  have hb1 : n * n * 2 ^ w / (n * n + d * d) < 2 ^ w := by
    rw [Nat.div_lt_iff_lt_mul (by omega), Nat.mul_comm (2 ^ w)]
    exact Nat.mul_lt_mul_of_pos_right (by omega) hP
  have ht1 : n * d * 2 ^ w / (n * n + d * d) ≤ 2 ^ w := (Nat.div_le_iff_le_mul (by omega)).2 (by have := Nat.mul_le_mul_right (2 ^ w) (show n * d ≤ n * n + d * d by omega); rw [Nat.mul_comm (2 ^ w)]; omega)
  have hb := angGo_bd (T := 2 ^ w + 2001) (Nat.le_succ _) (by omega) _ _ _ _ _ _ h (by omega) (by omega) (by omega)
  have hbig : 2 ^ w * 4096 = 2 ^ (w + 12) := by rw [Nat.pow_add]
  have h11 : 2 ^ 11 ≤ 2 ^ w := Nat.pow_le_pow_right (by omega) hw0
  exact ⟨lim_len_p2 (w := w + 12) (by omega) (by omega), lim_len_p2 (w := w + 12) (by omega) (by omega)⟩
theorem arcs_pi {w A B : Nat} (hw : w ≤ 900) (hw0 : 11 ≤ w) (h : piF w = some (A, B)) : Go.Ev.Fn CX 190 [.int .i64 (w : Int)] (spanV A B) ∧ (lim A).length ≤ 100 ∧ (lim B).length ≤ 100 := by
  unfold piF at h
  split at h
  · rename_i a1 a2 b1 b2 h1 h2
    obtain ⟨rfl, rfl⟩ : a1 * 16 - (b2 * 4 + 1) = A ∧ a2 * 16 + 1 - b1 * 4 + 1 = B := by simpa using h
    clear h
    have an1 := arcs_angle (n := 1) (d := 5) (by omega) (by omega) (by omega) hw (by omega) h1
    have an2 := arcs_angle (n := 1) (d := 239) (by omega) (by omega) (by omega) hw (by omega) h2
    obtain ⟨g1, g2⟩ := angF_bd (by omega) (by omega) (by omega) hw0 h1
    obtain ⟨g3, g4⟩ := angF_bd (by omega) (by omega) (by omega) hw0 h2
    have o := fix_One
    have q5 := nat_Of 5 (by omega)
    have q239 := nat_Of 239 (by omega)
    have q16 := nat_Of 16 (by omega)
    have q4 := nat_Of 4 (by omega)
    have l16 : (lim 16).length ≤ 1 := lim_len_one (by decide)
    have l4 : (lim 4).length ≤ 1 := lim_len_one (by decide)
    have l1 := lim_len1
    have t1 := fix_Times (a := a1) (b := a2) (n := 16) (d := 1) (by omega) (by omega) (by omega) (by omega) (by omega)
    have t2 := fix_Times (a := b1) (b := b2) (n := 4) (d := 1) (by omega) (by omega) (by omega) (by omega) (by omega)
    rw [Nat.div_one, Nat.div_one] at t1 t2
    have e1 := lim_len_mul (a := a1) (b := 16)
    have e2 := lim_len_mul (a := a2) (b := 16)
    have e3 := lim_len_mul (a := b1) (b := 4)
    have e4 := lim_len_mul (a := b2) (b := 4)
    have e5 := lim_len_add (a := a2 * 16) (b := 1) (L := 50) (by omega) (by omega)
    have e6 := lim_len_add (a := b2 * 4) (b := 1) (L := 50) (by omega) (by omega)
    have sb := fix_Sub (a := a1 * 16) (b := a2 * 16 + 1) (c := b1 * 4) (d := b2 * 4 + 1) (by omega) (by omega) (by omega) (by omega)
    have e7 := lim_len_mono (Nat.sub_le (a1 * 16) (b2 * 4 + 1))
    have e8 := lim_len_mono (Nat.sub_le (a2 * 16 + 1) (b1 * 4))
    have e9 := lim_len_add (a := a2 * 16 + 1 - b1 * 4) (b := 1) (L := 60) (by omega) (by omega)
    refine ⟨?_, by omega, by omega⟩
    generalize a1 * 16 - (b2 * 4 + 1) = x1 at *
    generalize a2 * 16 + 1 - b1 * 4 + 1 = x2 at *
    generalize a2 * 16 + 1 = x3 at *
    generalize b2 * 4 + 1 = x4 at *
    generalize a1 * 16 = x5 at *
    generalize b1 * 4 = x6 at *
    refine Go.Ev.Fn.intro (fn := Tryz.f190) (body := (Tryz.f190).body.get!) (by kernel_rfl) (by kernel_rfl) (by kernel_rfl) (fun _ => rfl) (Nat.le_of_ble_eq_true (by kernel_rfl)) ?_; unfold Tryz.f190; simp only [Option.get!_some]
    repeat (first | (simp only [go_sem, Nat.reduceEqDiff, Nat.reduceAdd, Nat.reduceSub, Nat.reduceMul, Nat.reduceLeDiff, Nat.reduceLT, reduceIte, reduceCtorEq, Nat.succ_ne_zero, elemsC, Int.reduceToNat, Nat.reducePow]) | (simp (disch := (first | omega | (simp only [AL, List.length_map]; omega))) only [AR, AL, ifT, ifF, take_all, List.length_cons, List.length_nil, Int.reduceToNat, Int.reducePow, Nat.reducePow]) | (refine wk_intro (by kernel_rfl) ?_) | (refine vp_draw (id := 2) (l := [14, 15, 18, 19]) (by kernel_rfl) ?_) | (refine vf_of (by first | exact o | exact q5 | exact an1 | exact q239 | exact an2 | exact q16 | exact t1 | exact q4 | exact t2 | exact sb) ?_))
  · cases h
theorem allFrom_at {f : Nat → Bool} : ∀ {n k : Nat}, allFrom f n k = true → ∀ i, k ≤ i → i < k + n → f i = true := by
  intro n
  induction n with
  | zero => intro k _ i h1 h2; omega
  | succ n ih =>
    intro k h i h1 h2
    rw [allFrom, Bool.and_eq_true] at h
    rcases Nat.eq_or_lt_of_le h1 with h3 | h3
    · rw [← h3]; exact h.1
    · exact ih h.2 i h3 (by omega)
/-- Pi, to so many digits: the constant's square lies in it. -/
theorem arcs_Pi {p : Nat} (h1 : 8 ≤ p) (h2 : p < 225) : ∃ a : Nat, Go.Ev.Fn CX 149 [.int .i64 (p : Int)] (ballR (mkRat (a : Int) (2 ^ p)) (mkRat ((a + 1 : Nat) : Int) (2 ^ p))) ∧ a * 2 ^ (800 - p) ≤ rootPi * rootPi ∧ rootPi * rootPi ≤ (a + 1) * 2 ^ (800 - p) := by
  have h := allFrom_at pi_ok p h1 (by omega)
  unfold piOk at h
  split at h
  · rename_i lo hi hpi
    rw [pin_eq, Bool.and_eq_true, Bool.and_eq_true] at h
    obtain ⟨k1, k2, k3⟩ := h
    have k1 := Nat.eq_of_beq_eq_true k1
    have k2 := Nat.le_of_ble_eq_true k2
    have k3 := Nat.le_of_ble_eq_true k3
    obtain ⟨f, g1, g2⟩ := arcs_pi (by omega) (by omega) hpi
    have c := fix_Certain1 (p := p) (sp := 64) f (by omega) (by omega) (by omega) (by omega) (by omega) k1
    refine ⟨lo / 2 ^ 64, ?_, k2, k3⟩
    have hh := arcs_held (p : Int)
    rw [if_neg (by omega), if_neg (by omega)] at hh
    generalize mkRat ((lo / 2 ^ 64 : Nat) : Int) (2 ^ p) = q1 at *
    generalize mkRat ((lo / 2 ^ 64 + 1 : Nat) : Int) (2 ^ p) = q2 at *
    clear k2 k3 f hpi
    refine Go.Ev.Fn.intro (fn := Tryz.f149) (body := (Tryz.f149).body.get!) (by kernel_rfl) (by kernel_rfl) (by kernel_rfl) (fun _ => rfl) (Nat.le_of_ble_eq_true (by kernel_rfl)) ?_; unfold Tryz.f149; simp only [Option.get!_some]
    repeat (first | (simp only [go_sem, Nat.reduceEqDiff, Nat.reduceAdd, Nat.reduceSub, Nat.reduceMul, Nat.reduceLeDiff, Nat.reduceLT, reduceIte, reduceCtorEq, Nat.succ_ne_zero, elemsC, Int.reduceToNat, Nat.reducePow]) | (simp (disch := (first | omega | (simp only [AL, List.length_map]; omega))) only [AR, AL, ifT, ifF, take_all, List.length_cons, List.length_nil, Int.reduceToNat, Int.reducePow, Nat.reducePow]) | (refine wk_intro (by kernel_rfl) ?_) | (refine vf_of (by first | exact hh | exact c) ?_))
  · cases h
end Go.Proofs.YtemnjalaincijaaGreat

/- fix.Certain in as many rounds as it takes, in the evaluator. -/
namespace Go.Proofs.YtemnjalaincijaaGreat
set_option linter.unusedSimpArgs false
set_option linter.unusedVariables false
set_option maxRecDepth 8000
open Go.Ev
set_option linter.unusedVariables false
theorem least {P : Nat → Prop} {k : Nat} (h : P k) : ∃ j, P j ∧ j ≤ k ∧ ∀ i, i < j → ¬ P i := by
  induction k using Nat.strongRecOn with
  | _ k ih =>
    by_cases g : ∃ i, i < k ∧ P i
    · obtain ⟨i, hi, hp⟩ := g
      obtain ⟨j, h1, h2, h3⟩ := ih i hi hp
      exact ⟨j, h1, by omega, h3⟩
    · exact ⟨k, h, Nat.le_refl k, fun i hi hp => g ⟨i, hi, hp⟩⟩
/-- Doubled often enough. -/
theorem doubles {w0 M : Nat} (h0 : 0 < w0) (h : w0 ≤ M) : ∃ k, M ≤ w0 * 2 ^ k ∧ w0 * 2 ^ k < 2 * M := by
  have top : M ≤ w0 * 2 ^ M := Nat.le_trans (Nat.le_of_lt Nat.lt_two_pow_self) (Nat.le_mul_of_pos_left _ h0)
  obtain ⟨k, h1, -, h3⟩ := least (P := fun k => M ≤ w0 * 2 ^ k) top
  refine ⟨k, h1, ?_⟩
  cases k with
  | zero => rw [Nat.pow_zero, Nat.mul_one]; omega
  | succ k =>
    have := h3 k (Nat.lt_succ_self k)
    rw [Nat.pow_succ, ← Nat.mul_assoc]
    omega
section
variable {p sp M : Nat} {f : FuncId} {caps : List SV} {lo hi : Nat → Nat}
theorem certain_at (h0 : 0 < p + sp) (hM : p + sp ≤ M) (hc : ∀ w, M ≤ w → w < 2 * M → lo w / 2 ^ (w - p) = (hi w - 1) / 2 ^ (w - p)) :
    ∃ k, lo ((p + sp) * 2 ^ k) / 2 ^ ((p + sp) * 2 ^ k - p) = (hi ((p + sp) * 2 ^ k) - 1) / 2 ^ ((p + sp) * 2 ^ k - p) ∧ (p + sp) * 2 ^ k < 2 * M ∧ ∀ i, i < k → lo ((p + sp) * 2 ^ i) / 2 ^ ((p + sp) * 2 ^ i - p) ≠ (hi ((p + sp) * 2 ^ i) - 1) / 2 ^ ((p + sp) * 2 ^ i - p) := by
  obtain ⟨k0, a1, a2⟩ := doubles h0 hM
  obtain ⟨k, b1, b2, b3⟩ := least (P := fun k => lo ((p + sp) * 2 ^ k) / 2 ^ ((p + sp) * 2 ^ k - p) = (hi ((p + sp) * 2 ^ k) - 1) / 2 ^ ((p + sp) * 2 ^ k - p)) (hc _ a1 a2)
  refine ⟨k, b1, Nat.lt_of_le_of_lt (Nat.mul_le_mul_left _ (Nat.pow_le_pow_right (by omega) b2)) a2, b3⟩
set_option maxHeartbeats 1000000 in
theorem fix_CertainL (hsp : 0 < sp) (hM : p + sp ≤ M) (hM2 : M ≤ 200000000) (hp : p ≤ 10000) (hs : sp ≤ 10000)
    (hf : ∀ w : Nat, p + sp ≤ w → w < 2 * M → Go.Ev.Fn CX f (.int .i64 (w : Int) :: caps) (spanV (lo w) (hi w)))
    (hl : ∀ w : Nat, p + sp ≤ w → w < 2 * M → (lim (lo w)).length ≤ 50000000 ∧ (lim (hi w)).length ≤ 50000000 ∧ (lim (lo w / 2 ^ (w - p))).length ≤ 5000)
    (hc : ∀ w, M ≤ w → w < 2 * M → lo w / 2 ^ (w - p) = (hi w - 1) / 2 ^ (w - p)) :
    ∃ w, p + sp ≤ w ∧ w < 2 * M ∧ lo w / 2 ^ (w - p) = (hi w - 1) / 2 ^ (w - p) ∧
      Go.Ev.Fn CX 117 [.int .i64 (p : Int), .int .i64 (sp : Int), .fn f caps] (ballR (mkRat ((lo w / 2 ^ (w - p) : Nat) : Int) (2 ^ p)) (mkRat ((lo w / 2 ^ (w - p) + 1 : Nat) : Int) (2 ^ p))) := by
  obtain ⟨k, c1, c2, c3⟩ := certain_at (by omega) hM hc
  obtain ⟨W, hW⟩ : ∃ W, W = (p + sp) * 2 ^ k := ⟨_, rfl⟩
  have pk : ∀ i, p + sp ≤ (p + sp) * 2 ^ i := fun i => Nat.le_mul_of_pos_right _ (Nat.pow_pos (by omega))
  have mk : ∀ i, i ≤ k → (p + sp) * 2 ^ i ≤ W := fun i hi => by rw [hW]; exact Nat.mul_le_mul_left _ (Nat.pow_le_pow_right (by omega) hi)
  rw [← hW] at c1 c2
  refine ⟨W, by rw [hW]; exact pk k, c2, c1, ?_⟩
  obtain ⟨la, lb, lm⟩ := hl W (by rw [hW]; exact pk k) c2
  have hfW := hf W (by rw [hW]; exact pk k) c2
  have hpW : p < W := by have := pk k; omega
  have fl := fix_Floor (a := lo W) (b := hi W) (w := W) (p := p) (by omega) (by omega) hpW (by omega)
  rw [decide_eq_true c1] at fl
  have o := fix_One
  have l1 := lim_len1
  have sh := fix_shl (a := 1) (m := p) (by omega) (by omega)
  have lp := lim_len_shl (a := 1) (n := p)
  rw [Nat.one_mul] at sh lp
  have n1 := fix_Next (a := lo W / 2 ^ (W - p)) (by omega)
  have l2 := lim_len_add (a := lo W / 2 ^ (W - p)) (b := 1) (L := 5000) (by omega) (by omega)
  have r1 := rat_OfL (s := false) (n := lo W / 2 ^ (W - p)) (d := 2 ^ p) (by omega) (by omega)
  have r2 := rat_OfL (s := false) (n := lo W / 2 ^ (W - p) + 1) (d := 2 ^ p) (by omega) (by omega)
  rw [show sgn false (lo W / 2 ^ (W - p)) = ((lo W / 2 ^ (W - p) : Nat) : Int) from rfl] at r1
  rw [show sgn false (lo W / 2 ^ (W - p) + 1) = ((lo W / 2 ^ (W - p) + 1 : Nat) : Int) from rfl] at r2
  generalize mkRat ((lo W / 2 ^ (W - p) : Nat) : Int) (2 ^ p) = q1 at *
  generalize mkRat ((lo W / 2 ^ (W - p) + 1 : Nat) : Int) (2 ^ p) = q2 at *
  generalize lo W / 2 ^ (W - p) + 1 = a' at *
  generalize ha : lo W / 2 ^ (W - p) = a at *
  generalize 2 ^ p = P at *
  -- one round that is not the last
  have rd : ∀ i, i < k → ∃ x y : Nat, ∃ m : Nat, Go.Ev.Fn CX f (.int .i64 (((p + sp) * 2 ^ i : Nat) : Int) :: caps) (spanV x y) ∧ Go.Ev.Fn CX 176 [spanV x y, .int .i64 (((p + sp) * 2 ^ i : Nat) : Int), .int .i64 (p : Int)] (.tup [natV (lim m), .bool false]) := by
    intro i hi'
    have h1 := pk i
    have h2 := mk i (by omega)
    obtain ⟨xa, xb, -⟩ := hl ((p + sp) * 2 ^ i) h1 (by omega)
    have g := fix_Floor (a := lo ((p + sp) * 2 ^ i)) (b := hi ((p + sp) * 2 ^ i)) (w := (p + sp) * 2 ^ i) (p := p) (by omega) (by omega) (by omega) (by omega)
    rw [decide_eq_false (c3 i hi')] at g
    exact ⟨_, _, _, hf _ h1 (by omega), g⟩
  have dbl : ∀ i : Nat, i < k → (p + sp) * 2 ^ i * 2 = (p + sp) * 2 ^ (i + 1) := fun i _ => by rw [Nat.pow_succ, Nat.mul_assoc]
  clear hc hl hf c3 c1 la lb lm l2 lp l1
  refine Go.Ev.Fn.intro (fn := Tryz.f117) (body := (Tryz.f117).body.get!) (by kernel_rfl) (by kernel_rfl) (by kernel_rfl) (fun _ => rfl) (Nat.le_of_ble_eq_true (by kernel_rfl)) ?_; unfold Tryz.f117; simp only [Option.get!_some]
  repeat (first | (simp only [go_sem, Nat.reduceEqDiff, Nat.reduceAdd, Nat.reduceSub, Nat.reduceMul, Nat.reduceLeDiff, Nat.reduceLT, reduceIte, reduceCtorEq, Nat.succ_ne_zero, elemsC, Int.reduceToNat, Nat.reducePow]) | (simp (disch := (first | omega | (simp only [AL, List.length_map]; omega))) only [AR, AL, ifT, ifF, take_all, List.length_cons, List.length_nil, Int.reduceToNat, Int.reducePow, Nat.reducePow]) | (refine wk_intro (by kernel_rfl) ?_))
  refine vp_loop_inv (fun s => s.tmp 0 = .sv (.int .i64 (p : Int)) ∧ s.tmp 2 = .sv (.fn f caps) ∧ s.tmp 6 = .ptr 6 0 0 ∧ s.obj 6 0 = some [.bool false, .sl 0 [], .sl 0 [], .bool false, .sl 0 [], .sl 0 []] ∧ ∃ i : Nat, i ≤ k ∧ s.tmp 7 = .sv (.int .i64 (((p + sp) * 2 ^ i : Nat) : Int)))
    (fun s => match s.tmp 7 with | .sv (.int _ j) => 400000000 - j.toNat | _ => 0) ⟨rfl, rfl, rfl, rfl, 0, by omega, by rw [Nat.pow_zero, Nat.mul_one]; rfl⟩ ?_
  rintro s ⟨i0, i2, i6, o6, i, hi', i7⟩
  by_cases e : i = k
  · subst e
    rw [← hW] at i7
    clear rd dbl
    repeat (first | (simp only [go_sem, Nat.reduceEqDiff, Nat.reduceAdd, Nat.reduceSub, Nat.reduceMul, Nat.reduceLeDiff, Nat.reduceLT, reduceIte, reduceCtorEq, Nat.succ_ne_zero, elemsC, Int.reduceToNat, Nat.reducePow, i0, i2, i6, o6, i7]) | (simp (disch := (first | omega | (simp only [AL, List.length_map]; omega))) only [AR, AL, ifT, ifF, take_all, List.length_cons, List.length_nil, Int.reduceToNat, Int.reducePow, Nat.reducePow, i0, i2, i6, o6, i7]) | (refine wk_intro (by kernel_rfl) ?_) | (refine vf_of (by first | exact hfW | exact fl | exact o | exact sh | exact r1 | exact n1 | exact r2) ?_))
  · obtain ⟨x, y, m, g1, g2⟩ := rd i (by omega)
    have h1 := mk (i + 1) (by omega)
    have h3 := pk i
    have h2 := dbl i (by omega)
    have e2 : (((p + sp) * 2 ^ (i + 1) : Nat) : Int) = (((p + sp) * 2 ^ i : Nat) : Int) * 2 := by rw [← h2]; exact Int.natCast_mul _ _
    clear rd dbl hfW fl
    generalize hv : (p + sp) * 2 ^ (i + 1) = v at *
    generalize (p + sp) * 2 ^ i = u at *
    repeat (first | (simp only [go_sem, Nat.reduceEqDiff, Nat.reduceAdd, Nat.reduceSub, Nat.reduceMul, Nat.reduceLeDiff, Nat.reduceLT, reduceIte, reduceCtorEq, Nat.succ_ne_zero, elemsC, Int.reduceToNat, Nat.reducePow, i0, i2, i6, o6, i7]) | (simp (disch := (first | omega | (simp only [AL, List.length_map]; omega))) only [AR, AL, ifT, ifF, take_all, List.length_cons, List.length_nil, Int.reduceToNat, Int.reducePow, Nat.reducePow, i0, i2, i6, o6, i7]) | (refine wk_intro (by kernel_rfl) ?_) | (refine vf_of (by first | exact g1 | exact g2) ?_))
    exact ⟨⟨i + 1, by omega, by rw [hv, e2]⟩, by omega⟩
end
end Go.Proofs.YtemnjalaincijaaGreat

/- exps: row, near, Exp, in the evaluator. -/
namespace Go.Proofs.YtemnjalaincijaaGreat
set_option linter.unusedSimpArgs false
set_option linter.unusedVariables false
set_option maxRecDepth 8000
open Go.Ev
set_option linter.unusedVariables false
theorem lim_len_pw {n w : Nat} (h : n < 2 ^ w) : (lim n).length ≤ w / 32 + 1 := by
  refine lim_len_lt (Nat.lt_of_lt_of_le h ?_)
  rw [show (4294967296 : Nat) = 2 ^ 32 from rfl, ← Nat.pow_mul]
  exact Nat.pow_le_pow_right (by omega) (by omega)
set_option maxHeartbeats 1000000 in
theorem exps_row {w Y A B : Nat} (hw : 64 ≤ w) (hw2 : w ≤ 400000000) (hY : Y + 1 ≤ 2 ^ (w - 7)) (h : eRow w Y (w / 7 + 3) 1 (2 ^ w) (2 ^ w + 1) (2 ^ w) (2 ^ w + 1) = some (A, B)) :
    Go.Ev.Fn CX 178 [spanV Y (Y + 1), .int .i64 (w : Int)] (spanV A B) := by
  have un := fix_Unit (w := w) (by omega)
  have lw : w < 2 ^ w := Nat.lt_two_pow_self
  have e1 : 2 ^ (w + 1) = 2 ^ w * 2 := Nat.pow_succ _ _
  have e2 : 2 ^ (w + 2) = 2 ^ w * 4 := Nat.pow_add _ _ _
  have hYw : 2 ^ (w - 7) ≤ 2 ^ w := Nat.pow_le_pow_right (by omega) (by omega)
  have lY := lim_len_pw (n := Y) (w := w + 2) (by omega)
  have lY1 := lim_len_pw (n := Y + 1) (w := w + 2) (by omega)
  have i0 := eInv_0 w
  have lens := fun (n t1 t2 a1 a2 : Nat) (hn : n ≤ w / 7 + 4) (h : eInv w n t1 t2 a1 a2) => (show (lim t1).length ≤ 13000000 ∧ (lim t2).length ≤ 13000000 ∧ (lim a1).length ≤ 13000000 ∧ (lim a2).length ≤ 13000000 from by
    obtain ⟨q1, q2, q3, q4, q5, q6, q7, q8⟩ := h
    have a := lim_len_pw (n := t1) (w := w + 2) (by omega)
    have b := lim_len_pw (n := t2) (w := w + 2) (by omega)
    have c := lim_len_pw (n := a1) (w := w + 2) (by omega)
    have d := lim_len_pw (n := a2) (w := w + 2) (by omega)
    exact ⟨by omega, by omega, by omega, by omega⟩)
  have step := fun (n t1 t2 a1 a2 : Nat) (h : eInv w n t1 t2 a1 a2) => eInv_step (Y := Y) hw hY h
  generalize hP : 2 ^ w = P at un h i0
  clear e1 e2 lw
  refine Go.Ev.Fn.intro (fn := Tryz.f178) (body := (Tryz.f178).body.get!) (by kernel_rfl) (by kernel_rfl) (by kernel_rfl) (fun _ => rfl) (Nat.le_of_ble_eq_true (by kernel_rfl)) ?_; unfold Tryz.f178; simp only [Option.get!_some]
  repeat (first | (simp only [go_sem, Nat.reduceEqDiff, Nat.reduceAdd, Nat.reduceSub, Nat.reduceMul, Nat.reduceLeDiff, Nat.reduceLT, reduceIte, reduceCtorEq, Nat.succ_ne_zero, elemsC, Int.reduceToNat, Nat.reducePow]) | (simp (disch := (first | omega | (simp only [AL, List.length_map]; omega))) only [AR, AL, ifT, ifF, take_all, List.length_cons, List.length_nil, Int.reduceToNat, Int.reducePow, Nat.reducePow]) | (refine wk_intro (by kernel_rfl) ?_) | (refine vf_of (by first | exact un) ?_))
  refine vp_loop_inv (fun s => s.tmp 1 = .sv (.int .i64 (w : Int)) ∧ s.tmp 2 = .ptr 2 0 0 ∧ s.obj 2 0 = some [natV (lim Y), natV (lim (Y + 1))] ∧ s.tmp 4 = .ptr 4 0 0 ∧ s.obj 4 0 = some [.sl 0 [], .sl 0 []] ∧ s.tmp 5 = .ptr 5 0 0 ∧ s.tmp 6 = .ptr 6 0 0 ∧
      ∃ f n t1 t2 a1 a2 : Nat, s.tmp 7 = .sv (.int .u64 (n : Int)) ∧ f + n = w / 7 + 4 ∧ eRow w Y f n t1 t2 a1 a2 = some (A, B) ∧ s.obj 6 0 = some [natV (lim t1), natV (lim t2)] ∧ s.obj 5 0 = some [natV (lim a1), natV (lim a2)] ∧ eInv w n t1 t2 a1 a2)
    (fun s => match s.tmp 7 with | .sv (.int _ i) => w / 7 + 5 - i.toNat | _ => 0) ⟨rfl, rfl, rfl, rfl, rfl, rfl, rfl, w / 7 + 3, 1, P, P + 1, P, P + 1, rfl, by omega, h, rfl, rfl, i0⟩ ?_
  rintro s ⟨i1, i2, o2, i4, o4, i5, i6, f, n, t1, t2, a1, a2, i7, hfn, hgo, o6, o5, hok⟩
  obtain ⟨lt1, lt2, la1, la2⟩ := lens n t1 t2 a1 a2 (by omega) hok
  have hn1 := hok.1
  have st := step n t1 t2 a1 a2 hok
  have sm := fix_Small (a := t1) (b := t2) (by omega) (k := 1) (by omega)
  cases f with
  | zero => simp only [eRow] at hgo; cases hgo
  | succ f =>
    rw [eRow] at hgo
    by_cases hs : t2 < 2
    · rw [if_pos hs] at hgo
      simp only [Option.some.injEq, Prod.mk.injEq] at hgo
      obtain ⟨rfl, rfl⟩ := hgo
      rw [decide_eq_true (show t2 < 2 ^ 1 from hs)] at sm
      have wd := fix_Wider (a := a1) (b := a2) (n := 1) (by omega) (by omega) (by omega)
      clear step lens st h un
      repeat (first | (simp only [go_sem, Nat.reduceEqDiff, Nat.reduceAdd, Nat.reduceSub, Nat.reduceMul, Nat.reduceLeDiff, Nat.reduceLT, reduceIte, reduceCtorEq, Nat.succ_ne_zero, elemsC, Int.reduceToNat, Nat.reducePow, i1, i2, o2, i4, o4, i5, i6, i7, o5, o6, Bool.not_true]) | (simp (disch := (first | omega | (simp only [AL, List.length_map]; omega))) only [AR, AL, ifT, ifF, take_all, List.length_cons, List.length_nil, Int.reduceToNat, Int.reducePow, Nat.reducePow, i1, i2, o2, i4, o4, i5, i6, i7, o5, o6, Bool.not_true]) | (refine wk_intro (by kernel_rfl) ?_) | (refine vf_of (by first | exact sm | exact wd) ?_))
    · rw [if_neg hs] at hgo
      rw [decide_eq_false (show ¬ t2 < 2 ^ 1 from hs)] at sm
      obtain ⟨lu1, lu2, lb1, lb2⟩ := lens (n + 1) _ _ _ _ (by omega) st
      have mu := fix_Mul (a := t1) (b := t2) (c := Y) (d := Y + 1) (w := w) (by omega) (by omega) (by omega) (by omega) (by omega) (by omega)
      have o1 := fix_One
      have q1 := nat_Of n (by omega)
      have l1 := lim_len1
      have lq : (lim n).length ≤ 2 := lim_len_lt (by omega)
      have z1 := lim_len_mul (a := t1) (b := Y)
      have z2 := lim_len_mul (a := t2) (b := Y + 1)
      have z3 := lim_len_mono (Nat.div_le_self (t1 * Y) (2 ^ w))
      have z4 := lim_len_add (a := t2 * (Y + 1) / 2 ^ w) (b := 1) (L := 26000000) (Nat.le_trans (lim_len_mono (Nat.div_le_self (t2 * (Y + 1)) (2 ^ w))) (by omega)) (by omega)
      have ti := fix_Times (a := t1 * Y / 2 ^ w) (b := t2 * (Y + 1) / 2 ^ w + 1) (n := 1) (d := n) (by omega) (by omega) (by omega) (by omega) (by omega)
      generalize t1 * Y / 2 ^ w * 1 / n = u1 at *
      generalize (t2 * (Y + 1) / 2 ^ w + 1) * 1 / n + 1 = u2 at *
      generalize t1 * Y / 2 ^ w = v1 at *
      generalize t2 * (Y + 1) / 2 ^ w + 1 = v2 at *
      have ad := fix_Add (a := a1) (b := a2) (c := u1) (d := u2) (by omega) (by omega) (by omega) (by omega)
      clear step lens h un
      repeat (first | (simp only [go_sem, Nat.reduceEqDiff, Nat.reduceAdd, Nat.reduceSub, Nat.reduceMul, Nat.reduceLeDiff, Nat.reduceLT, reduceIte, reduceCtorEq, Nat.succ_ne_zero, elemsC, Int.reduceToNat, Nat.reducePow, i1, i2, o2, i4, o4, i5, i6, i7, o5, o6, Bool.not_false]) | (simp (disch := (first | omega | (simp only [AL, List.length_map]; omega))) only [AR, AL, ifT, ifF, take_all, List.length_cons, List.length_nil, Int.reduceToNat, Int.reducePow, Nat.reducePow, i1, i2, o2, i4, o4, i5, i6, i7, o5, o6, Bool.not_false]) | (refine wk_intro (by kernel_rfl) ?_) | (refine vf_of (by first | exact sm | exact mu | exact o1 | exact q1 | exact ti | exact ad) ?_))
      exact ⟨⟨f, n + 1, u1, u2, a1 + u1, a2 + u2, rfl, by omega, hgo, rfl, rfl, st⟩, by omega⟩
/-- What near reckons. -/
def nearS (n d w : Nat) (R : Nat × Nat) : Prop := ∃ A B : Nat, eRow w (n * 2 ^ w / (d * 2 ^ 14)) (w / 7 + 3) 1 (2 ^ w) (2 ^ w + 1) (2 ^ w) (2 ^ w + 1) = some (A, B) ∧ A ≤ B ∧ 2 ^ w ≤ A ∧ B < 2 ^ (w + 2) ∧ R = sqs w 14 A B
def nearR (neg : Bool) (w : Nat) (R : Nat × Nat) : Nat × Nat := if neg then (2 ^ (2 * w) / R.2, 2 ^ (2 * w) / R.1 + 1) else R
set_option maxHeartbeats 1000000 in
theorem exps_near {s : Bool} {n d w : Nat} {R : Nat × Nat} (hd : 0 < d) (h : n ≤ 64 * d) (hw : 160 ≤ w) (hw2 : w ≤ 200000000) (ln : (lim n).length ≤ 1000) (ld : (lim d).length ≤ 1000) (hR : nearS n d w R) :
    Go.Ev.Fn CX 119 [ratV s (lim n) (lim d), .int .i64 (w : Int)] (spanV (nearR s w R).1 (nearR s w R).2) := by
  obtain ⟨A, B, hr, hAB, hA, hB, rfl⟩ := hR
  have sh := fix_shl (a := d) (m := 14) (by omega) (by omega)
  have ls := lim_len_shl (a := d) (n := 14)
  have dp : 0 < d * 2 ^ 14 := by omega
  have of := fix_Of (n := n) (d := d * 2 ^ 14) (w := w) (by omega) (by omega) (by omega) (by omega)
  have hY : n * 2 ^ w / (d * 2 ^ 14) + 1 ≤ 2 ^ (w - 7) := by
    have e8 : 2 ^ w = 2 ^ (w - 8) * 256 := by rw [show (256 : Nat) = 2 ^ 8 from rfl, ← Nat.pow_add]; congr 1; omega
    have e7 : 2 ^ (w - 7) = 2 ^ (w - 8) * 2 := by rw [← Nat.pow_succ]; congr 1; omega
    have p8 : 0 < 2 ^ (w - 8) := Nat.pow_pos (by omega)
    have Yle : n * 2 ^ w / (d * 2 ^ 14) ≤ 2 ^ (w - 8) := by
      refine (Nat.div_le_iff_le_mul dp).2 ?_
      have m := Nat.mul_le_mul_right (2 ^ w) h
      have k : 64 * d * 2 ^ w = 2 ^ (w - 8) * (d * 2 ^ 14) := by
        rw [e8]; generalize 2 ^ (w - 8) = z; rw [show (2 : Nat) ^ 14 = 16384 from rfl]; grind
      omega
    omega
  have rw1 := exps_row (w := w) (by omega) (by omega) hY hr
  generalize hY' : n * 2 ^ w / (d * 2 ^ 14) = Y at *
  have e14 : d * 2 ^ 14 = d * 16384 := rfl
  generalize d * 2 ^ 14 = d' at *
  clear hr hY ln ld ls
  obtain ⟨c14, hc14⟩ : ∃ c : Nat, c = 32768 := ⟨_, rfl⟩
  have fin := sqs_ok (w := w) 14 A B 2 (B - A + 1) hA hAB hB (by omega) (by omega)
  obtain ⟨R1, R2, hRR⟩ : ∃ R1 R2 : Nat, sqs w 14 A B = (R1, R2) := ⟨_, _, rfl⟩
  rw [hRR] at fin ⊢
  obtain ⟨f1, f2, f3, -⟩ := fin
  rw [show 2 * 2 ^ 14 = c14 by omega] at f3
  simp only at f1 f2 f3
  have Pw : 0 < 2 ^ w := Nat.pow_pos (by omega)
  have lR1 := lim_len_pw (n := R1) (w := w + c14) (by omega)
  have lR2 := lim_len_pw (n := R2) (w := w + c14) (by omega)
  have inv := fix_Inverse (a := R1) (b := R2) (w := w) (by omega) (by omega) (by omega) (by omega) (by omega)
  have loop : ∀ (k lo hi c : Nat), 2 ^ w ≤ lo → lo ≤ hi → hi < 2 ^ (w + c) → c * 2 ^ k ≤ c14 → 1 ≤ k → (Go.Ev.Fn CX 60 [spanV lo hi, spanV lo hi, .int .i64 (w : Int)] (spanV (lo * lo / 2 ^ w) (hi * hi / 2 ^ w + 1)) ∧ 2 ^ w ≤ lo * lo / 2 ^ w ∧ lo * lo / 2 ^ w ≤ hi * hi / 2 ^ w + 1 ∧ hi * hi / 2 ^ w + 1 < 2 ^ (w + (c + c)) ∧ (c + c) * 2 ^ (k - 1) ≤ c14) := by
    intro k lo hi c h1 h2 h3 h4 h5
    obtain ⟨s1, s2, s3, -⟩ := sq_step h1 h2 h3 (G := hi - lo + 1) (by omega) (by omega)
    have hc : c ≤ c14 := Nat.le_trans (Nat.le_mul_of_pos_right _ (Nat.pow_pos (by omega))) h4
    have l1 := lim_len_pw (n := lo) (w := w + c) (by omega)
    have l2 := lim_len_pw (n := hi) (w := w + c) h3
    have mu := fix_Mul (a := lo) (b := hi) (c := lo) (d := hi) (w := w) (by omega) (by omega) (by omega) (by omega) (by omega) (by omega)
    refine ⟨mu, s1, s2, s3, ?_⟩
    have e : (c + c) * 2 ^ (k - 1) = c * 2 ^ k := by
      obtain ⟨j, rfl⟩ : ∃ j, k = j + 1 := ⟨k - 1, by omega⟩
      rw [Nat.add_sub_cancel, Nat.pow_succ, ← Nat.mul_two, Nat.mul_assoc, Nat.mul_comm 2]
    rw [e]; exact h4
  refine Go.Ev.Fn.intro (fn := Tryz.f119) (body := (Tryz.f119).body.get!) (by kernel_rfl) (by kernel_rfl) (by kernel_rfl) (fun _ => rfl) (Nat.le_of_ble_eq_true (by kernel_rfl)) ?_; unfold Tryz.f119; simp only [Option.get!_some]
  repeat (first | (simp only [go_sem, Nat.reduceEqDiff, Nat.reduceAdd, Nat.reduceSub, Nat.reduceMul, Nat.reduceLeDiff, Nat.reduceLT, reduceIte, reduceCtorEq, Nat.succ_ne_zero, elemsC, Int.reduceToNat, Nat.reducePow]) | (simp (disch := (first | omega | (simp only [AL, List.length_map]; omega))) only [AR, AL, ifT, ifF, take_all, List.length_cons, List.length_nil, Int.reduceToNat, Int.reducePow, Nat.reducePow]) | (refine wk_intro (by kernel_rfl) ?_) | (refine vp_draw (id := 1) (l := [10, 8, 11]) (by kernel_rfl) ?_) | (refine vf_of (by first | exact sh | exact of | exact rw1) ?_))
  refine vp_loop_inv (fun s' => s'.tmp 1 = .sv (.int .i64 (w : Int)) ∧ s'.tmp 2 = .ptr 2 0 0 ∧ s'.obj 2 0 = some [.bool s, natV (lim n), natV (lim d)] ∧ s'.tmp 4 = .ptr 4 0 0 ∧ s'.obj 4 0 = some [.sl 0 [], .sl 0 []] ∧ s'.tmp 6 = .ptr 6 0 0 ∧
      ∃ k lo hi c : Nat, s'.tmp 17 = .sv (.int .i64 ((14 - k : Nat) : Int)) ∧ k ≤ 14 ∧ s'.obj 6 0 = some [natV (lim lo), natV (lim hi)] ∧ sqs w k lo hi = (R1, R2) ∧ 2 ^ w ≤ lo ∧ lo ≤ hi ∧ hi < 2 ^ (w + c) ∧ c * 2 ^ k ≤ c14)
    (fun s' => match s'.tmp 17 with | .sv (.int _ i) => 15 - i.toNat | _ => 0) ⟨rfl, rfl, rfl, rfl, rfl, rfl, 14, A, B, 2, rfl, by omega, rfl, hRR, hA, hAB, hB, by omega⟩ ?_
  rintro s' ⟨i1, i2, o2, i4, o4, i6, k, lo, hi, c, i17, hk, o6, hsq, g1, g2, g3, g4⟩
  cases k with
  | zero =>
    have hsq' : (lo, hi) = (R1, R2) := hsq
    simp only [Prod.mk.injEq] at hsq'
    obtain ⟨rfl, rfl⟩ := hsq'
    clear loop
    cases s with
    | true =>
      show _
      unfold nearR
      rw [if_pos rfl]
      repeat (first | (simp only [go_sem, Nat.reduceEqDiff, Nat.reduceAdd, Nat.reduceSub, Nat.reduceMul, Nat.reduceLeDiff, Nat.reduceLT, reduceIte, reduceCtorEq, Nat.succ_ne_zero, elemsC, Int.reduceToNat, Nat.reducePow, i1, i2, o2, i4, o4, i6, i17, o6]) | (simp (disch := (first | omega | (simp only [AL, List.length_map]; omega))) only [AR, AL, ifT, ifF, take_all, List.length_cons, List.length_nil, Int.reduceToNat, Int.reducePow, Nat.reducePow, i1, i2, o2, i4, o4, i6, i17, o6]) | (refine wk_intro (by kernel_rfl) ?_) | (refine vp_draw (id := 1) (l := [10, 8, 11]) (by kernel_rfl) ?_) | (refine vf_of (by first | exact inv) ?_))
    | false =>
      unfold nearR
      rw [if_neg (by simp)]
      repeat (first | (simp only [go_sem, Nat.reduceEqDiff, Nat.reduceAdd, Nat.reduceSub, Nat.reduceMul, Nat.reduceLeDiff, Nat.reduceLT, reduceIte, reduceCtorEq, Nat.succ_ne_zero, elemsC, Int.reduceToNat, Nat.reducePow, i1, i2, o2, i4, o4, i6, i17, o6]) | (simp (disch := (first | omega | (simp only [AL, List.length_map]; omega))) only [AR, AL, ifT, ifF, take_all, List.length_cons, List.length_nil, Int.reduceToNat, Int.reducePow, Nat.reducePow, i1, i2, o2, i4, o4, i6, i17, o6]) | (refine wk_intro (by kernel_rfl) ?_) | (refine vp_draw (id := 1) (l := [10, 8, 11]) (by kernel_rfl) ?_))
  | succ k =>
    obtain ⟨mu, s1, s2, s3, s4⟩ := loop (k + 1) lo hi c g1 g2 g3 g4 (by omega)
    rw [Nat.add_sub_cancel] at s4
    have hsq' : sqs w k (lo * lo / 2 ^ w) (hi * hi / 2 ^ w + 1) = (R1, R2) := hsq
    clear loop hsq
    generalize lo * lo / 2 ^ w = lo' at *
    generalize hi * hi / 2 ^ w + 1 = hi' at *
    repeat (first | (simp only [go_sem, Nat.reduceEqDiff, Nat.reduceAdd, Nat.reduceSub, Nat.reduceMul, Nat.reduceLeDiff, Nat.reduceLT, reduceIte, reduceCtorEq, Nat.succ_ne_zero, elemsC, Int.reduceToNat, Nat.reducePow, i1, i2, o2, i4, o4, i6, i17, o6]) | (simp (disch := (first | omega | (simp only [AL, List.length_map]; omega))) only [AR, AL, ifT, ifF, take_all, List.length_cons, List.length_nil, Int.reduceToNat, Int.reducePow, Nat.reducePow, i1, i2, o2, i4, o4, i6, i17, o6]) | (refine wk_intro (by kernel_rfl) ?_) | (refine vp_draw (id := 1) (l := [10, 8, 11]) (by kernel_rfl) ?_) | (refine vf_of (by first | exact mu) ?_))
    exact ⟨⟨k, lo', hi', c + c, by congr 2; omega, by omega, rfl, hsq', s1, s2, s3, s4⟩, by omega⟩
end Go.Proofs.YtemnjalaincijaaGreat

/- exps.Exp: it ends, and has what it should, in the evaluator. -/
namespace Go.Proofs.YtemnjalaincijaaGreat
set_option linter.unusedSimpArgs false
set_option linter.unusedVariables false
set_option maxRecDepth 8000
open Go.Ev
set_option linter.unusedVariables false
/-- e to the power of x, by a partial row. -/
def evX (x : Rat) (L : Nat) : Rat := if x < 0 then 1 / Ex.E (-x) L else Ex.E x L
def nearF (n d w : Nat) : Nat × Nat := match eRow w (n * 2 ^ w / (d * 2 ^ 14)) (w / 7 + 3) 1 (2 ^ w) (2 ^ w + 1) (2 ^ w) (2 ^ w + 1) with
  | some (A, B) => sqs w 14 A B
  | none => (0, 0)
theorem nearF_ok {n d w g c : Nat} (hg : g = 32794) (hc : c = 32768) (hd : 0 < d) (h : n ≤ 64 * d) (hw : 160 ≤ w) :
    nearS n d w (nearF n d w) ∧ 2 ^ w ≤ (nearF n d w).1 ∧ (nearF n d w).1 < (nearF n d w).2 ∧ (nearF n d w).2 < 2 ^ (w + c) ∧ (nearF n d w).2 ≤ (nearF n d w).1 + w * 2 ^ g ∧
      ∀ x : Rat, x * (d : Rat) = (n : Rat) → ∃ s, ∀ L, s ≤ L → Enc w (nearF n d w).1 (nearF n d w).2 (Ex.E x L) := by
  obtain ⟨A, B, r1, r2, r3, r4, r5, r6, r7, r8, r9⟩ := near_ok hg hc hd h hw
  have e : nearF n d w = sqs w 14 A B := by unfold nearF; rw [r1]
  rw [e]
  have strict : ∀ (k lo hi : Nat), lo ≤ hi → (sqs w (k + 1) lo hi).1 < (sqs w (k + 1) lo hi).2 := by
    intro k
    induction k with
    | zero =>
      intro lo hi h
      show lo * lo / 2 ^ w < hi * hi / 2 ^ w + 1
      exact Nat.lt_succ_of_le (Nat.div_le_div_right (Nat.mul_le_mul h h))
    | succ k ih =>
      intro lo hi h
      exact ih _ _ (Nat.le_succ_of_le (Nat.div_le_div_right (Nat.mul_le_mul h h)))
  exact ⟨⟨A, B, r1, r2, r3, r4, rfl⟩, r5, strict 13 A B r2, r7, r8, r9⟩
theorem exps_Exp1 {s : Bool} {n d : List Nat} {w : Nat} {r1 r2 : Nat} (h : Go.Ev.Fn CX 119 [ratV s n d, .int .i64 (w : Int)] (spanV r1 r2)) :
    Go.Ev.Fn CX 118 [.int .i64 (w : Int), .mem [.bool s, natV n, natV d]] (spanV r1 r2) := by
  refine Go.Ev.Fn.intro (fn := Tryz.f118) (body := (Tryz.f118).body.get!) (by kernel_rfl) (by kernel_rfl) (by kernel_rfl) (fun _ => rfl) (Nat.le_of_ble_eq_true (by kernel_rfl)) ?_; unfold Tryz.f118; simp only [Option.get!_some]
  repeat (first | (simp only [go_sem, Nat.reduceEqDiff, Nat.reduceAdd, Nat.reduceSub, Nat.reduceMul, Nat.reduceLeDiff, Nat.reduceLT, reduceIte, reduceCtorEq, Nat.succ_ne_zero, elemsC, Int.reduceToNat, Nat.reducePow]) | (simp (disch := (first | omega | (simp only [AL, List.length_map]; omega))) only [AR, AL, ifT, ifF, take_all, List.length_cons, List.length_nil, Int.reduceToNat, Int.reducePow, Nat.reducePow]) | (refine wk_intro (by kernel_rfl) ?_) | (refine vf_of (by first | exact h) ?_))
theorem neg_numX {x : Rat} : decide (x.num < 0) = decide (x < 0) := by
  have h := Rat.num_nonneg (q := x)
  refine decide_eq_decide.2 ⟨fun g => ?_, fun g => ?_⟩
  · have : ¬ 0 ≤ x := fun k => absurd (h.2 k) (by omega)
    grind
  · rcases Int.lt_or_le x.num 0 with k | k
    · exact k
    · exact absurd (h.1 k) (by grind)
section
variable {v : SV} {x : Rat} {L P : Nat} {pI : Int}
/-- Where it ends. -/
theorem exp_end {n d : Nat} {neg : Bool} (hn0 : 0 < n) (hd : 0 < d) (h : n ≤ 64 * d) (hd2 : d ≤ 2 ^ 240) (hP : P ≤ 512) (ln : (lim n).length ≤ 1000) (ld : (lim d).length ≤ 1000) :
    ∃ m s0 : Nat, (lim m).length ≤ 5000 ∧ Go.Ev.Fn CX 117 [.int .i64 (P : Int), .int .i64 160, .fn 118 [.mem [.bool neg, natV (lim n), natV (lim d)]]] (ballR (mkRat (m : Int) (2 ^ P)) (mkRat ((m + 1 : Nat) : Int) (2 ^ P))) ∧
      ∀ x : Rat, x * (d : Rat) = (n : Rat) → ∃ s0, ∀ L, s0 ≤ L → Enc P m (m + 1) (if neg then 1 / Ex.E x L else Ex.E x L) := by
  obtain ⟨g, hg⟩ : ∃ g : Nat, g = 32794 := ⟨_, rfl⟩
  obtain ⟨c, hc⟩ : ∃ g : Nat, g = 32768 := ⟨_, rfl⟩
  have ok := fun w (hw : 160 ≤ w) => nearF_ok (n := n) (d := d) (w := w) hg hc hd h hw
  have dR : (0 : Rat) < (d : Rat) := by exact_mod_cast hd
  obtain ⟨q, hq⟩ : ∃ q : Rat, q = (n : Rat) / (d : Rat) := ⟨_, rfl⟩
  have qd : q * (d : Rat) = (n : Rat) := by rw [hq]; exact Rat.div_mul_cancel (by grind)
  have q64 : q ≤ 64 := by
    refine le_by dR ?_
    rw [qd]
    have : ((n : Nat) : Rat) ≤ ((64 * d : Nat) : Rat) := Ex.castle h
    rw [Ex.castmul] at this; exact this
  have cert : ∀ w, 71000000 ≤ w → w < 2 * 71000000 → (nearR neg w (nearF n d w)).1 / 2 ^ (w - P) = ((nearR neg w (nearF n d w)).2 - 1) / 2 ^ (w - P) := by
    intro w hw hw2
    obtain ⟨-, o1, o2, o3, o4, o5⟩ := ok w (by omega)
    obtain ⟨s, hs⟩ := o5 q qd
    have w40 : w ≤ 2 ^ 40 := by omega
    cases neg with
    | false =>
      unfold nearR
      rw [if_neg (by simp)]
      exact cert_pos hn0 hd hd2 qd q64 hP (by omega) o2 o4 hs hw w40
    | true =>
      unfold nearR
      rw [if_pos rfl]
      exact cert_neg hn0 hd hd2 qd q64 hP (by omega) o1 o2 o4 hs hw w40
  have size : ∀ w, 160 ≤ w → w < 2 * 71000000 → P ≤ w → (nearR neg w (nearF n d w)).1 < 2 ^ (w + c) ∧ (nearR neg w (nearF n d w)).2 < 2 ^ (w + c) := by
    intro w hw hw2 hPw
    obtain ⟨-, o1, o2, o3, o4, -⟩ := ok w hw
    cases neg with
    | false =>
      unfold nearR
      rw [if_neg (by simp)]
      exact ⟨by omega, o3⟩
    | true =>
      unfold nearR
      rw [if_pos rfl]
      have Pw : 0 < 2 ^ w := Nat.pow_pos (by omega)
      have e2 : 2 ^ (2 * w) = 2 ^ w * 2 ^ w := by rw [← Nat.pow_add]; congr 1; omega
      have big : 2 ^ w * 4 ≤ 2 ^ (w + c) := by
        rw [show (4 : Nat) = 2 ^ 2 from rfl, ← Nat.pow_add]
        exact Nat.pow_le_pow_right (by omega) (by omega)
      have one : ∀ z : Nat, 2 ^ w ≤ z → 2 ^ (2 * w) / z ≤ 2 ^ w := by
        intro z hz
        refine (Nat.div_le_iff_le_mul (by omega)).2 ?_
        rw [e2]
        have := Nat.mul_le_mul_left (2 ^ w) hz
        omega
      have a := one (nearF n d w).2 (by omega)
      have b := one (nearF n d w).1 o1
      constructor
      · show 2 ^ (2 * w) / (nearF n d w).2 < _
        omega
      · show 2 ^ (2 * w) / (nearF n d w).1 + 1 < _
        omega
  obtain ⟨w, w1, w2, w3, fn⟩ := fix_CertainL (p := P) (sp := 160) (M := 71000000) (f := 118) (caps := [.mem [.bool neg, natV (lim n), natV (lim d)]]) (lo := fun w => (nearR neg w (nearF n d w)).1) (hi := fun w => (nearR neg w (nearF n d w)).2) (by omega) (by omega) (by omega) (by omega) (by omega)
    (fun w hw hw2 => exps_Exp1 (exps_near hd h (by omega) (by omega) ln ld (ok w (by omega)).1))
    (fun w hw hw2 => by
      obtain ⟨z1, z2⟩ := size w (by omega) hw2 (by omega)
      have a := lim_len_pw z1
      have b := lim_len_pw z2
      have m : (nearR neg w (nearF n d w)).1 / 2 ^ (w - P) < 2 ^ (P + c) := by
        refine (Nat.div_lt_iff_lt_mul (Nat.pow_pos (by omega))).2 ?_
        rw [← Nat.pow_add, show P + c + (w - P) = w + c by omega]; exact z1
      have l := lim_len_pw m
      exact ⟨by omega, by omega, by omega⟩)
    cert
  obtain ⟨z1, -⟩ := size w (by omega) w2 (by omega)
  obtain ⟨-, o1, o2, o3, o4, o5⟩ := ok w (by omega)
  obtain ⟨m, hm⟩ : ∃ m, m = (nearR neg w (nearF n d w)).1 / 2 ^ (w - P) := ⟨_, rfl⟩
  have lm : m < 2 ^ (P + c) := by
    rw [hm]
    refine (Nat.div_lt_iff_lt_mul (Nat.pow_pos (by omega))).2 ?_
    rw [← Nat.pow_add, show P + c + (w - P) = w + c by omega]; exact z1
  have ll := lim_len_pw lm
  refine ⟨m, 0, by omega, by rw [hm]; exact fn, fun x hx => ?_⟩
  obtain ⟨s0, hs⟩ := o5 x hx
  refine ⟨s0, fun L hL => ?_⟩
  have en : Enc w (nearR neg w (nearF n d w)).1 (nearR neg w (nearF n d w)).2 (if neg then 1 / Ex.E x L else Ex.E x L) := by
    cases neg with
    | false =>
      unfold nearR
      rw [if_neg (by simp), if_neg (by simp)]
      exact hs L hL
    | true =>
      unfold nearR
      rw [if_pos rfl, if_pos rfl]
      exact (enc_inv (by have : 0 < 2 ^ w := Nat.pow_pos (by omega); omega) (hs L hL)).1
  have pos2 : 0 < (nearR neg w (nearF n d w)).2 := by
    cases neg with
    | false => unfold nearR; rw [if_neg (by simp)]; omega
    | true => unfold nearR; rw [if_pos rfl]; exact Nat.succ_pos _
  have w3' : m = ((nearR neg w (nearF n d w)).2 - 1) / 2 ^ (w - P) := by rw [hm]; exact w3
  generalize (if neg then 1 / Ex.E x L else Ex.E x L) = z at *
  generalize (nearR neg w (nearF n d w)).1 = lo at *
  generalize (nearR neg w (nearF n d w)).2 = hi at *
  have Pw := p2_pos (w - P)
  have e : p2 w = p2 P * p2 (w - P) := by
    have : w = P + (w - P) := by omega
    have e2 : 2 ^ w = 2 ^ P * 2 ^ (w - P) := by rw [← Nat.pow_add]; congr 1
    show ((2 ^ w : Nat) : Rat) = _
    rw [e2]; exact Ex.castmul _ _
  obtain ⟨b1, b2⟩ := en
  rw [e, ← Rat.mul_assoc] at b1 b2
  constructor
  · refine le_by Pw ?_
    have k : m * 2 ^ (w - P) ≤ lo := by rw [hm]; exact Nat.div_mul_le_self _ _
    have k2 := Ex.castle k
    rw [Ex.castmul] at k2
    exact Rat.le_trans k2 b1
  · refine le_by Pw ?_
    have k : hi ≤ (m + 1) * 2 ^ (w - P) := by
      have := Nat.lt_mul_div_succ (hi - 1) (show 0 < 2 ^ (w - P) from Nat.pow_pos (by omega))
      rw [← w3', Nat.mul_comm] at this
      omega
    have k2 := Ex.castle k
    rw [Ex.castmul] at k2
    exact Rat.le_trans b2 k2
theorem exps_Exp (hv : RatA v x L) (hL1 : 1 ≤ L) (hL : L ≤ 100) (hx0 : x ≠ 0) (h1 : -64 ≤ x) (h2 : x ≤ 64) (hd : x.den ≤ 2 ^ 240) (hP : P ≤ 512) (hpI : (pI ≤ 0 ∧ P = 0) ∨ pI = (P : Int)) :
    ∃ m : Nat, (lim m).length ≤ 5000 ∧ Go.Ev.Fn CX 58 [v, .int .i64 pI] (.tup [ballR (mkRat (m : Int) (2 ^ P)) (mkRat ((m + 1 : Nat) : Int) (2 ^ P)), .bool true]) ∧ ∃ s0, ∀ L, s0 ≤ L → Enc P m (m + 1) (evX x L) := by
  have zx := szR_of hv hL1
  have n1 := rat_Norm hv (by omega)
  have im := rat_Int (-64) (by omega)
  have ip := rat_Int 64 (by omega)
  have c1 := rat_Cmp (RatA_rv zx) (RatA_rv (int_szR (n := -64) (by omega))) hL1 (by omega) (by omega)
  have c2 := rat_Cmp (RatA_rv zx) (RatA_rv (int_szR (n := 64) (by omega))) hL1 (by omega) (by omega)
  have zr := rat_Zero (RatA_rv zx) hL1 (by omega)
  rw [decide_eq_false hx0] at zr
  have e1 : decide (cmpR x ((-64 : Int) : Rat) < 0) = false := by rw [cmpR_lt]; exact decide_eq_false (Rat.not_lt.2 h1)
  have e2 : decide (cmpR x ((64 : Int) : Rat) > 0) = false := by rw [cmpR_gt]; exact decide_eq_false (Rat.not_lt.2 h2)
  have dp := x.den_pos
  have dR : (0 : Rat) < (x.den : Rat) := by exact_mod_cast dp
  have nd := Ex.denR x
  have n0 : 0 < x.num.natAbs := by
    have : x.num ≠ 0 := fun e => hx0 (num_zero.1 e)
    omega
  have xm : x.num ≤ 64 * (x.den : Int) ∧ -(64 * (x.den : Int)) ≤ x.num := by
    constructor
    · have m := Rat.mul_le_mul_of_nonneg_right h2 (Rat.le_of_lt dR)
      rw [nd] at m
      have : (x.num : Rat) ≤ ((64 * (x.den : Int) : Int) : Rat) := by rw [Rat.intCast_mul]; exact m
      exact Rat.intCast_le_intCast.1 this
    · have m := Rat.mul_le_mul_of_nonneg_right h1 (Rat.le_of_lt dR)
      rw [nd] at m
      have : ((-(64 * (x.den : Int)) : Int) : Rat) ≤ (x.num : Rat) := by
        rw [Rat.intCast_neg, Rat.intCast_mul]
        have e : -(((64 : Int) : Rat) * ((x.den : Int) : Rat)) = -64 * (x.den : Rat) := by
          have e3 : ((x.den : Int) : Rat) = (x.den : Rat) := rfl
          have e4 : ((64 : Int) : Rat) = 64 := rfl
          rw [e3, e4]; grind
        rw [e]; exact m
      exact Rat.intCast_le_intCast.1 this
  obtain ⟨m, -, lm, fn, en⟩ := exp_end (P := P) (n := x.num.natAbs) (d := x.den) (neg := decide (x.num < 0)) n0 dp (by omega) hd hP (Nat.le_trans zx.1 (by omega)) (Nat.le_trans zx.2 (by omega))
  have x1 : (if (0 : Int) > pI then (0 : Int) else pI) = (P : Int) := by split <;> omega
  have x2 : (if (512 : Int) < (P : Int) then (512 : Int) else (P : Int)) = (P : Int) := if_neg (by omega)
  refine ⟨m, lm, ?_, ?_⟩
  · clear en nd xm zx h1 h2 hx0 hpI
    obtain ⟨s, n, d, rfl, -⟩ := hv
    generalize mkRat (m : Int) (2 ^ P) = q1 at *
    generalize mkRat ((m + 1 : Nat) : Int) (2 ^ P) = q2 at *
    generalize cmpR x ((-64 : Int) : Rat) = y1 at *
    generalize cmpR x ((64 : Int) : Rat) = y2 at *
    refine Go.Ev.Fn.intro (fn := Tryz.f58) (body := (Tryz.f58).body.get!) (by kernel_rfl) (by kernel_rfl) (by kernel_rfl) (fun _ => rfl) (Nat.le_of_ble_eq_true (by kernel_rfl)) ?_; unfold Tryz.f58; simp only [Option.get!_some]
    repeat (first | (simp only [go_sem, Nat.reduceEqDiff, Nat.reduceAdd, Nat.reduceSub, Nat.reduceMul, Nat.reduceLeDiff, Nat.reduceLT, reduceIte, reduceCtorEq, Nat.succ_ne_zero, elemsC, Int.reduceToNat, Nat.reducePow, x1, x2, e1, e2, List.size_toArray, Array.size_empty]) | (simp (disch := (first | omega | (simp only [AL, List.length_map]; omega))) only [AR, AL, ifT, ifF, take_all, List.length_cons, List.length_nil, Int.reduceToNat, Int.reducePow, Nat.reducePow, x1, x2, e1, e2, List.size_toArray, Array.size_empty]) | (refine wk_intro (by kernel_rfl) ?_) | (refine vp_draw (id := 2) (l := []) (by kernel_rfl) ?_) | (refine vf_of (by first | exact n1 | exact im | exact c1 | exact ip | exact c2 | exact zr | exact fn) ?_))
  · by_cases hneg : x.num < 0
    · have xneg : x < 0 := by
        have := neg_numX (x := x)
        rw [decide_eq_true hneg] at this
        exact of_decide_eq_true this.symm
      obtain ⟨s0, hs⟩ := en (-x) (by
        have e : (x.num.natAbs : Int) = -x.num := by omega
        have e2 : ((x.num.natAbs : Nat) : Rat) = ((x.num.natAbs : Int) : Rat) := rfl
        rw [e2, e, Rat.intCast_neg, ← nd]; grind)
      rw [decide_eq_true hneg] at hs
      refine ⟨s0, fun L hL => ?_⟩
      unfold evX
      rw [if_pos xneg]
      exact hs L hL
    · have xpos : ¬ x < 0 := by
        have := neg_numX (x := x)
        rw [decide_eq_false hneg] at this
        exact of_decide_eq_false this.symm
      obtain ⟨s0, hs⟩ := en x (by
        have e : (x.num.natAbs : Int) = x.num := by omega
        have e2 : ((x.num.natAbs : Nat) : Rat) = ((x.num.natAbs : Int) : Rat) := rfl
        rw [e2, e, ← nd])
      rw [decide_eq_false hneg] at hs
      refine ⟨s0, fun L hL => ?_⟩
      unfold evX
      rw [if_neg xpos]
      exact hs L hL
end
end Go.Proofs.YtemnjalaincijaaGreat

/- Rows whose terms are each a number by k times the one ahead: they end. Plain mathematics. -/
namespace Go.Proofs.YtemnjalaincijaaGreat
open Go.Ev
set_option linter.unusedVariables false
/-- The row of incg and of bell, in naturals: from k on; the last term is below 4. -/
def tRow (w Y1 Y2 M : Nat) : Nat → Nat → Nat → Nat → Nat → Nat → Option (Nat × Nat)
  | 0, _, _, _, _, _ => none
  | f + 1, k, t1, t2, a1, a2 => if M ≤ k ∧ t2 < 4 then some (a1, a2 + 8) else
      tRow w Y1 Y2 M f (k + 2) (t1 * Y1 / 2 ^ w * 1 / k) ((t2 * Y2 / 2 ^ w + 1) * 1 / k + 1) (a1 + t1 * Y1 / 2 ^ w * 1 / k) (a2 + ((t2 * Y2 / 2 ^ w + 1) * 1 / k + 1))
/-- What holds behind i steps, from k0 on. -/
def tInv (w k0 i k t1 t2 a1 a2 : Nat) : Prop := k = k0 + 2 * i ∧ t1 ≤ t2 ∧ a1 ≤ a2 ∧ t2 < 2 ^ (w + 9 + 9 * min i 1024) ∧ a2 < (i + 2) * 2 ^ (w + 10000)
theorem tInv_0 {w k0 t1 t2 a1 a2 : Nat} (h1 : t1 ≤ t2) (h2 : a1 ≤ a2) (h3 : t2 < 2 ^ (w + 9)) (h4 : a2 < 2 ^ (w + 10)) : tInv w k0 0 k0 t1 t2 a1 a2 := by
  have : 2 ^ (w + 10) ≤ 2 ^ (w + 10000) := Nat.pow_le_pow_right (by omega) (by omega)
  refine ⟨by omega, h1, h2, h3, by omega⟩
theorem tStep_le {w Y2 k t2 : Nat} (hY : Y2 ≤ 2 ^ (w + 8)) (hk : 1 ≤ k) : (t2 * Y2 / 2 ^ w + 1) * 1 / k + 1 ≤ t2 * 256 + 2 ∧ (2048 ≤ k → (t2 * Y2 / 2 ^ w + 1) * 1 / k + 1 ≤ t2 / 8 + 2) ∧ (2048 ≤ k → t2 ≤ 4 → (t2 * Y2 / 2 ^ w + 1) * 1 / k + 1 = 1) := by
  have P : 0 < 2 ^ w := Nat.pow_pos (by omega)
  have h1 : t2 * Y2 / 2 ^ w ≤ t2 * 256 := by
    refine (Nat.div_le_iff_le_mul P).2 ?_
    have m := Nat.mul_le_mul_left t2 hY
    have e : t2 * 2 ^ (w + 8) = 2 ^ w * (t2 * 256) := by rw [Nat.pow_add, show (2 : Nat) ^ 8 = 256 from rfl, Nat.mul_left_comm]
    rw [Nat.mul_comm (t2 * 256)]
    omega
  rw [Nat.mul_one]
  generalize t2 * Y2 / 2 ^ w = q at *
  have a := Nat.div_le_self (q + 1) k
  refine ⟨by omega, fun g => ?_, fun g g2 => ?_⟩
  · have b : (q + 1) / k ≤ (q + 1) / 2048 := Nat.div_le_div_left g (by omega)
    omega
  · rw [Nat.div_eq_of_lt (by omega)]
theorem tInv_step {w Y1 Y2 k0 i k t1 t2 a1 a2 : Nat} (hY : Y2 ≤ 2 ^ (w + 8)) (hY1 : Y1 ≤ Y2) (hk0 : 1 ≤ k0) (h : tInv w k0 i k t1 t2 a1 a2) :
    tInv w k0 (i + 1) (k + 2) (t1 * Y1 / 2 ^ w * 1 / k) ((t2 * Y2 / 2 ^ w + 1) * 1 / k + 1) (a1 + t1 * Y1 / 2 ^ w * 1 / k) (a2 + ((t2 * Y2 / 2 ^ w + 1) * 1 / k + 1)) := by
  obtain ⟨h1, h2, h3, h4, h5⟩ := h
  obtain ⟨u1, u2, u3⟩ := tStep_le (t2 := t2) hY (show 1 ≤ k by omega)
  have q0 : t1 * Y1 / 2 ^ w * 1 / k ≤ (t2 * Y2 / 2 ^ w + 1) * 1 / k + 1 := by
    refine Nat.le_succ_of_le (Nat.div_le_div_right (Nat.mul_le_mul_right 1 ?_))
    exact Nat.le_succ_of_le (Nat.div_le_div_right (Nat.mul_le_mul h2 hY1))
  have nt : (t2 * Y2 / 2 ^ w + 1) * 1 / k + 1 < 2 ^ (w + 9 + 9 * min (i + 1) 1024) := by
    by_cases hi : i < 1024
    · rw [show min (i + 1) 1024 = min i 1024 + 1 by omega, show w + 9 + 9 * (min i 1024 + 1) = (w + 9 + 9 * min i 1024) + 9 by omega, Nat.pow_add _ _ 9, show (2 : Nat) ^ 9 = 512 from rfl]
      have : 2 ^ 2 ≤ 2 ^ (w + 9 + 9 * min i 1024) := Nat.pow_le_pow_right (by omega) (by omega)
      omega
    · rw [show min (i + 1) 1024 = min i 1024 by omega]
      have g := u2 (by omega)
      have : 2 ^ 4 ≤ 2 ^ (w + 9 + 9 * min i 1024) := Nat.pow_le_pow_right (by omega) (by omega)
      omega
  have le : 2 ^ (w + 9 + 9 * min (i + 1) 1024) ≤ 2 ^ (w + 10000) := Nat.pow_le_pow_right (by omega) (by omega)
  generalize t1 * Y1 / 2 ^ w * 1 / k = x at *
  generalize (t2 * Y2 / 2 ^ w + 1) * 1 / k + 1 = y at *
  refine ⟨by omega, q0, by omega, nt, ?_⟩
  rw [show i + 1 + 2 = (i + 2) + 1 by omega, Nat.add_mul (i + 2) 1, Nat.one_mul]
  omega
theorem tRow_low {w Y1 Y2 M k0 : Nat} (hY : Y2 ≤ 2 ^ (w + 8)) (hY1 : Y1 ≤ Y2) (hk0 : 1 ≤ k0) (hM : M ≤ 2048) : ∀ (m f i k t1 t2 a1 a2 : Nat), tInv w k0 i k t1 t2 a1 a2 → 2048 ≤ k → t2 ≤ 2 ^ (3 * m) + 3 → m + 2 ≤ f → ∃ A B, tRow w Y1 Y2 M f k t1 t2 a1 a2 = some (A, B) ∧ A ≤ B ∧ B < (i + m + 4) * 2 ^ (w + 10000) := by
  intro m
  induction m with
  | zero =>
    intro f i k t1 t2 a1 a2 h hk ht hf
    obtain ⟨f, rfl⟩ : ∃ j, f = j + 2 := ⟨f - 2, by omega⟩
    have P : 2 ^ 4 ≤ 2 ^ (w + 10000) := Nat.pow_le_pow_right (by omega) (by omega)
    have hh := h
    obtain ⟨h1, h2, h3, h4, h5⟩ := hh
    rw [tRow]
    by_cases g : M ≤ k ∧ t2 < 4
    · rw [if_pos g]
      refine ⟨a1, a2 + 8, rfl, by omega, ?_⟩
      rw [show i + 0 + 4 = (i + 2) + 2 by omega, Nat.add_mul (i + 2) 2]
      omega
    · rw [if_neg g]
      have st := tInv_step hY hY1 hk0 h
      have t4 : t2 ≤ 4 := by have : 2 ^ (3 * 0) = 1 := rfl; omega
      rw [(tStep_le (t2 := t2) hY (show 1 ≤ k by omega)).2.2 hk t4] at st ⊢
      obtain ⟨k1, k2, k3, k4, k5⟩ := st
      rw [tRow, if_pos (by omega)]
      refine ⟨_, _, rfl, by omega, ?_⟩
      rw [show i + 0 + 4 = (i + 1 + 2) + 1 by omega, Nat.add_mul (i + 1 + 2) 1]
      omega
  | succ m ih =>
    intro f i k t1 t2 a1 a2 h hk ht hf
    obtain ⟨f, rfl⟩ : ∃ j, f = j + 1 := ⟨f - 1, by omega⟩
    have P : 2 ^ 4 ≤ 2 ^ (w + 10000) := Nat.pow_le_pow_right (by omega) (by omega)
    have hh := h
    obtain ⟨h1, h2, h3, h4, h5⟩ := hh
    rw [tRow]
    by_cases g : M ≤ k ∧ t2 < 4
    · rw [if_pos g]
      refine ⟨a1, a2 + 8, rfl, by omega, ?_⟩
      rw [show i + (m + 1) + 4 = (i + 2) + (m + 3) by omega, Nat.add_mul (i + 2)]
      have := Nat.le_mul_of_pos_left (2 ^ (w + 10000)) (show 0 < m + 3 by omega)
      omega
    · rw [if_neg g]
      have st := tInv_step hY hY1 hk0 h
      have up := (tStep_le (t2 := t2) hY (show 1 ≤ k by omega)).2.1 hk
      have dv : t2 / 8 ≤ 2 ^ (3 * m) := by
        have e : 2 ^ (3 * (m + 1)) = 2 ^ (3 * m) * 8 := by rw [show 3 * (m + 1) = 3 * m + 3 by omega, Nat.pow_add]
        rw [e] at ht
        omega
      obtain ⟨A, B, r1, r2, r3⟩ := ih f (i + 1) (k + 2) _ _ _ _ st (by omega) (by omega) (by omega)
      exact ⟨A, B, r1, r2, by rw [show i + (m + 1) + 4 = i + 1 + m + 4 by omega]; exact r3⟩
/-- The row ends. -/
theorem tRow_end {w Y1 Y2 M k0 : Nat} (hY : Y2 ≤ 2 ^ (w + 8)) (hY1 : Y1 ≤ Y2) (hk0 : 1 ≤ k0) (hM : M ≤ 2048) (hw : w ≤ 3000) : ∀ (d f i k t1 t2 a1 a2 : Nat), tInv w k0 i k t1 t2 a1 a2 → 2048 ≤ k + 2 * d → i + d ≤ 1024 → d + 4100 ≤ f → ∃ A B, tRow w Y1 Y2 M f k t1 t2 a1 a2 = some (A, B) ∧ A ≤ B ∧ B < 2 ^ (w + 10014) := by
  have fin : ∀ z B : Nat, z ≤ 16000 → B < z * 2 ^ (w + 10000) → B < 2 ^ (w + 10014) := by
    intro z B hz hB
    have e : 2 ^ (w + 10014) = 16384 * 2 ^ (w + 10000) := by rw [show w + 10014 = 14 + (w + 10000) by omega, Nat.pow_add 2 14]
    have m := Nat.mul_le_mul_right (2 ^ (w + 10000)) (show z ≤ 16384 by omega)
    omega
  intro d
  induction d with
  | zero =>
    intro f i k t1 t2 a1 a2 h hk hi hf
    have h4 := h.2.2.2.1
    obtain ⟨m, hm⟩ : ∃ m : Nat, m = 4098 := ⟨_, rfl⟩
    obtain ⟨A, B, r1, r2, r3⟩ := tRow_low hY hY1 hk0 hM m f i k t1 t2 a1 a2 h (by omega) (by
      have : 2 ^ (w + 9 + 9 * min i 1024) ≤ 2 ^ (3 * m) := Nat.pow_le_pow_right (by omega) (by omega)
      omega) (by omega)
    exact ⟨A, B, r1, r2, fin _ _ (by omega) r3⟩
  | succ d ih =>
    intro f i k t1 t2 a1 a2 h hk hi hf
    obtain ⟨f, rfl⟩ : ∃ j, f = j + 1 := ⟨f - 1, by omega⟩
    have hh := h
    obtain ⟨h1, h2, h3, h4, h5⟩ := hh
    rw [tRow]
    by_cases g : M ≤ k ∧ t2 < 4
    · rw [if_pos g]
      refine ⟨a1, a2 + 8, rfl, by omega, fin (i + 3) _ (by omega) ?_⟩
      have P : 2 ^ 4 ≤ 2 ^ (w + 10000) := Nat.pow_le_pow_right (by omega) (by omega)
      rw [show i + 3 = (i + 2) + 1 by omega, Nat.add_mul (i + 2) 1]
      omega
    · rw [if_neg g]
      exact ih f (i + 1) (k + 2) _ _ _ _ (tInv_step hY hY1 hk0 h) (by omega) (by omega) (by omega)
end Go.Proofs.YtemnjalaincijaaGreat
