/- Part 6 of the proof: the evaluator, contracts of functions and their plain laws (joined by program). No condition. -/
import Derived.Test.YtkkmnjhecjkhgaaGreatDoorPart5
set_option linter.unusedVariables false
set_option linter.unusedSimpArgs false
set_option maxRecDepth 100000
namespace Go.Proofs.YtkkmnjhecjkhgaaGreatDoor
open Go.Ev
theorem ref1_Mul (xs ys : List Nat) (hx : okL xs) (hy : okL ys) (hl : xs.length ≤ 1073741824) (hm : ys.length ≤ 1073741824) :
    Go.Ev.Fn CX 61 [natV xs, natV ys] (natV (lim (wth xs * wth ys))) := by
  refine Go.Ev.Fn.intro (fn := Tryz.f61) (body := (Tryz.f61).body.get!) (by kernel_rfl) (by kernel_rfl) (by kernel_rfl) (fun _ => rfl) (Nat.le_of_ble_eq_true (by kernel_rfl)) ?_; unfold Tryz.f61; simp only [Option.get!_some]
  repeat (first | (simp only [go_sem, Nat.reduceEqDiff, Nat.reduceAdd, Nat.reduceSub, Nat.reduceMul, Nat.reduceLeDiff, Nat.reduceLT, reduceIte, reduceCtorEq, Nat.succ_ne_zero, elemsC, Int.reduceToNat, Nat.reducePow]) | (simp (disch := (first | omega | (simp only [AL, List.length_map]; omega))) only [AR, AL, ifT, ifF, take_all, List.length_cons, List.length_nil, Int.reduceToNat, Int.reducePow, Nat.reducePow]) | (refine wk_intro (by kernel_rfl) ?_))
  refine vp_loop_inv (fun s' => s'.tmp 0 = .sv (natV xs) ∧ s'.tmp 1 = .sv (natV ys) ∧ s'.tmp 5 = .ref 14 0 1 0 (xs.length + ys.length) ∧
      ∃ c : List Nat, ∃ i : Nat, s'.obj 14 0 = some (c.map limb) ∧ s'.tmp 6 = .sv (.int .i64 i) ∧ c.length = xs.length + ys.length ∧ okL c ∧ i ≤ xs.length ∧ (∀ j, i + ys.length ≤ j → c.getD j 0 = 0) ∧
        wth (c.take (i + ys.length)) = wth (xs.take i) * wth ys)
    (fun s => match s.tmp 6 with | .sv (.int _ i) => xs.length - i.toNat | _ => 0) ?_ ?_
  · refine ⟨rfl, rfl, rfl, List.replicate (xs.length + ys.length) 0, 0, rfl, rfl, List.length_replicate .., okL_replicate _, by omega, fun j _ => ?_, ?_⟩
    · simp only [List.getD_eq_getElem?_getD, List.getElem?_replicate]
      split <;> rfl
    · rw [List.take_replicate, wth_replicate, List.take_zero, wth_nil, Nat.zero_mul]
  rintro s' ⟨i0, i1, i5, c0, i, iO, i6, hc0, hok0, hi, hz, hv⟩
  by_cases hend : i = xs.length
  · subst hend
    repeat (first | (simp only [go_sem, Nat.reduceEqDiff, Nat.reduceAdd, Nat.reduceSub, Nat.reduceMul, Nat.reduceLeDiff, Nat.reduceLT, reduceIte, reduceCtorEq, Nat.succ_ne_zero, elemsC, Int.reduceToNat, Nat.reducePow, i0, i1, i5, iO, i6]) | (simp (disch := (first | omega | (simp only [AL, List.length_map]; omega))) only [AR, AL, ifT, ifF, take_all, List.length_cons, List.length_nil, Int.reduceToNat, Int.reducePow, Nat.reducePow, i0, i1, i5, iO, i6]) | (refine wk_intro (by kernel_rfl) ?_) | (refine vp_draw (l := []) (by kernel_rfl) ?_))
    refine vf_of (fn_natV (ref1_Trim c0 hok0 (by omega)) hc0) ?_; repeat (first | (simp only [go_sem, Nat.reduceEqDiff, Nat.reduceAdd, Nat.reduceSub, Nat.reduceMul, Nat.reduceLeDiff, Nat.reduceLT, reduceIte, reduceCtorEq, Nat.succ_ne_zero, elemsC, Int.reduceToNat, Nat.reducePow, i0, i1, i5, iO, i6]) | (simp (disch := (first | omega | (simp only [AL, List.length_map]; omega))) only [AR, AL, ifT, ifF, take_all, List.length_cons, List.length_nil, Int.reduceToNat, Int.reducePow, Nat.reducePow, i0, i1, i5, iO, i6]) | (refine wk_intro (by kernel_rfl) ?_) | (refine vp_draw (l := []) (by kernel_rfl) ?_))
    have e : wth c0 = wth xs * wth ys := by
      rw [List.take_of_length_le (by omega), List.take_of_length_le (Nat.le_refl _)] at hv
      exact hv
    rw [e]
  · have h1 := getD_lt hx i
    have hvs := wth_take_succ xs i
    have hz0 := hz (i + ys.length) (Nat.le_refl _)
    repeat (first | (simp only [go_sem, Nat.reduceEqDiff, Nat.reduceAdd, Nat.reduceSub, Nat.reduceMul, Nat.reduceLeDiff, Nat.reduceLT, reduceIte, reduceCtorEq, Nat.succ_ne_zero, elemsC, Int.reduceToNat, Nat.reducePow, i0, i1, i5, iO, i6]) | (simp (disch := (first | omega | (simp only [AL, List.length_map]; omega))) only [AR, AL, ifT, ifF, take_all, List.length_cons, List.length_nil, Int.reduceToNat, Int.reducePow, Nat.reducePow, i0, i1, i5, iO, i6]) | (refine wk_intro (by kernel_rfl) ?_) | (refine vp_draw (l := []) (by kernel_rfl) ?_))
    generalize hvv : xs.getD i 0 = v at *
    refine vp_loop_inv (fun s' => s'.tmp 0 = .sv (natV xs) ∧ s'.tmp 1 = .sv (natV ys) ∧ s'.tmp 5 = .ref 14 0 1 0 (xs.length + ys.length) ∧ s'.tmp 6 = .sv (.int .i64 i) ∧
        ∃ c : List Nat, ∃ k carry : Nat, s'.obj 14 0 = some (c.map limb) ∧ s'.tmp 8 = .sv (.int .i64 k) ∧ s'.tmp 7 = .sv (.int .u64 carry) ∧ c.length = xs.length + ys.length ∧ okL c ∧ k ≤ ys.length + 1 ∧ carry < 4294967296 ∧ (k = ys.length + 1 → carry = 0) ∧
          (∀ j, i + k ≤ j → c.getD j 0 = c0.getD j 0) ∧ wth (c.take (i + k)) + 4294967296 ^ (i + k) * carry = wth (c0.take (i + k)) + 4294967296 ^ i * (v * wth (ys.take k)))
      (fun s => match s.tmp 8 with | .sv (.int _ i) => ys.length + 1 - i.toNat | _ => 0) ?_ ?_
    · refine ⟨i0, i1, i5, i6, c0, 0, 0, iO, rfl, rfl, hc0, hok0, by omega, by omega, fun _ => rfl, fun _ _ => rfl, ?_⟩
      rw [List.take_zero, wth_nil, Nat.mul_zero, Nat.mul_zero, Nat.mul_zero]
    rintro s2 ⟨j0, j1, j5, j6, c, k, carry, jO, j8, j7, hc, hok, hk, hcar, hcz, hsame, hw⟩
    by_cases hend2 : ys.length ≤ k ∧ carry = 0
    · obtain ⟨hk2, rfl⟩ := hend2
      have hfin : wth (c.take (i + 1 + ys.length)) = wth (xs.take (i + 1)) * wth ys := by
        rw [Nat.mul_zero, Nat.add_zero, List.take_of_length_le (l := ys) hk2] at hw
        have hc0t : wth (c0.take (i + ys.length + 1)) = wth (c0.take (i + ys.length)) := by rw [wth_take_succ, hz0, Nat.mul_zero, Nat.add_zero]
        have hgoal : wth (c.take (i + ys.length + 1)) = wth (c0.take (i + ys.length)) + 4294967296 ^ i * (v * wth ys) := by
          rcases Nat.lt_or_ge ys.length k with h3 | h3
          · obtain rfl : k = ys.length + 1 := by omega
            rw [← Nat.add_assoc, hc0t] at hw
            exact hw
          · obtain rfl : k = ys.length := by omega
            rw [wth_take_succ, hsame _ (Nat.le_refl _), hz0, Nat.mul_zero, Nat.add_zero, hw]
        rw [show i + 1 + ys.length = i + ys.length + 1 by omega, hgoal, hv, hvs, Nat.add_mul, Nat.mul_assoc]
      have hc' : ∀ j, i + 1 + ys.length ≤ j → c.getD j 0 = 0 := fun j hj => (hsame j (by omega)).trans (hz j (by omega))
      clear hw hcz hsame hvs hv hz
      by_cases hk3 : k < ys.length
      · omega
      · repeat (first | (simp only [go_sem, Nat.reduceEqDiff, Nat.reduceAdd, Nat.reduceSub, Nat.reduceMul, Nat.reduceLeDiff, Nat.reduceLT, reduceIte, reduceCtorEq, Nat.succ_ne_zero, elemsC, Int.reduceToNat, Nat.reducePow, j0, j1, j5, j6, jO, j8, j7]) | (simp (disch := (first | omega | (simp only [AL, List.length_map]; omega))) only [AR, AL, ifT, ifF, take_all, List.length_cons, List.length_nil, Int.reduceToNat, Int.reducePow, Nat.reducePow, j0, j1, j5, j6, jO, j8, j7]) | (refine wk_intro (by kernel_rfl) ?_) | (refine vp_draw (l := []) (by kernel_rfl) ?_))
        exact ⟨⟨c, i + 1, rfl, rfl, hc, hok, by omega, hc', hfin⟩, by omega⟩
    · have hk4 : k ≤ ys.length := by
        rcases Nat.lt_or_ge ys.length k with h3 | h3
        · exact absurd ⟨by omega, hcz (by omega)⟩ hend2
        · exact h3
      have h2 := getD_lt hy k
      have h3 := getD_lt hok (i + k)
      have h4 := limb_mul h1 h2
      have hs := hsame (i + k) (Nat.le_refl _)
      have hys := wth_take_succ ys k
      have hzk : k = ys.length → ys.getD k 0 = 0 ∧ c.getD (i + k) 0 = 0 := fun h => ⟨getD_ge (by omega), by rw [hs, h, hz0]⟩
      generalize hww : ys.getD k 0 = w at *
      generalize hu : c.getD (i + k) 0 = u at *
      have hnew : ∀ x, carry + v * w + u = x → wth ((c.set (i + k) (x % 4294967296)).take (i + (k + 1))) + 4294967296 ^ (i + (k + 1)) * (x / 4294967296) = wth (c0.take (i + (k + 1))) + 4294967296 ^ i * (v * wth (ys.take (k + 1))) := by
        intro x hx
        rw [show i + (k + 1) = i + k + 1 by omega, wth_set_take (by omega), wth_take_succ c0, ← hs, hys]
        have e1 : 4294967296 ^ (i + k) * (x % 4294967296) + 4294967296 ^ (i + k + 1) * (x / 4294967296) = 4294967296 ^ (i + k) * x := by
          rw [Nat.pow_succ, Nat.mul_assoc, ← Nat.mul_add, Nat.mod_add_div]
        have e2 : 4294967296 ^ (i + k) * x = 4294967296 ^ (i + k) * carry + 4294967296 ^ (i + k) * (v * w) + 4294967296 ^ (i + k) * u := by
          rw [← hx, Nat.mul_add, Nat.mul_add]
        have e3 : 4294967296 ^ i * (v * (wth (ys.take k) + 4294967296 ^ k * w)) = 4294967296 ^ i * (v * wth (ys.take k)) + 4294967296 ^ (i + k) * (v * w) := by
          rw [Nat.mul_add, Nat.mul_add, Nat.pow_add, Nat.mul_left_comm v, ← Nat.mul_assoc (4294967296 ^ i) (4294967296 ^ k)]
        rw [e3]
        omega
      have hcz' : ∀ x, carry + v * w + u = x → k + 1 = ys.length + 1 → x / 4294967296 = 0 := by
        intro x hx h
        obtain ⟨rfl, rfl⟩ := hzk (by omega)
        rw [Nat.mul_zero, Nat.add_zero] at hx
        omega
      generalize hp : v * w = p at *
      have hnew := hnew _ rfl
      have hcz' := hcz' _ rfl
      clear hw hcz hvs hv hys hzk
      by_cases hk5 : k < ys.length
      · repeat (first | (simp only [go_sem, Nat.reduceEqDiff, Nat.reduceAdd, Nat.reduceSub, Nat.reduceMul, Nat.reduceLeDiff, Nat.reduceLT, reduceIte, reduceCtorEq, Nat.succ_ne_zero, elemsC, Int.reduceToNat, Nat.reducePow, j0, j1, j5, j6, jO, j8, j7]) | (simp (disch := (first | omega | (simp only [AL, List.length_map]; omega))) only [AR, AL, ifT, ifF, take_all, List.length_cons, List.length_nil, Int.reduceToNat, Int.reducePow, Nat.reducePow, j0, j1, j5, j6, jO, j8, j7]) | (refine wk_intro (by kernel_rfl) ?_))
        refine vp_draw (l := [1]) (by kernel_rfl) ?_; repeat (first | (simp only [go_sem, Nat.reduceEqDiff, Nat.reduceAdd, Nat.reduceSub, Nat.reduceMul, Nat.reduceLeDiff, Nat.reduceLT, reduceIte, reduceCtorEq, Nat.succ_ne_zero, elemsC, Int.reduceToNat, Nat.reducePow, j0, j1, j5, j6, jO, j8, j7]) | (simp (disch := (first | omega | (simp only [AL, List.length_map]; omega))) only [AR, AL, ifT, ifF, take_all, List.length_cons, List.length_nil, Int.reduceToNat, Int.reducePow, Nat.reducePow, j0, j1, j5, j6, jO, j8, j7]) | (refine wk_intro (by kernel_rfl) ?_) | (refine vp_draw (l := []) (by kernel_rfl) ?_))
        refine vf_of (ref1_at ys k hy (by omega) (by omega)) ?_; repeat (first | (simp only [go_sem, Nat.reduceEqDiff, Nat.reduceAdd, Nat.reduceSub, Nat.reduceMul, Nat.reduceLeDiff, Nat.reduceLT, reduceIte, reduceCtorEq, Nat.succ_ne_zero, elemsC, Int.reduceToNat, Nat.reducePow, j0, j1, j5, j6, jO, j8, j7, hvv, hww, hp, hu]) | (simp (disch := (first | omega | (simp only [AL, List.length_map]; omega))) only [AR, AL, ifT, ifF, take_all, List.length_cons, List.length_nil, Int.reduceToNat, Int.reducePow, Nat.reducePow, j0, j1, j5, j6, jO, j8, j7, hvv, hww, hp, hu]) | (refine wk_intro (by kernel_rfl) ?_) | (refine vp_draw (l := []) (by kernel_rfl) ?_))
        exact ⟨⟨c.set (i + k) ((carry + p + u) % 4294967296), k + 1, (carry + p + u) / 4294967296, rfl, rfl, rfl, by rw [List.length_set]; exact hc, okL_set hok _ _ (Nat.mod_lt _ (by omega)), by omega, by omega, hcz', fun j hj => (getD_set_ne (by omega)).trans (hsame j (by omega)), hnew⟩, by omega⟩
      · have hcp : 0 < carry := by
          rcases Nat.eq_zero_or_pos carry with h | h
          · exact absurd ⟨by omega, h⟩ hend2
          · exact h
        repeat (first | (simp only [go_sem, Nat.reduceEqDiff, Nat.reduceAdd, Nat.reduceSub, Nat.reduceMul, Nat.reduceLeDiff, Nat.reduceLT, reduceIte, reduceCtorEq, Nat.succ_ne_zero, elemsC, Int.reduceToNat, Nat.reducePow, j0, j1, j5, j6, jO, j8, j7]) | (simp (disch := (first | omega | (simp only [AL, List.length_map]; omega))) only [AR, AL, ifT, ifF, take_all, List.length_cons, List.length_nil, Int.reduceToNat, Int.reducePow, Nat.reducePow, j0, j1, j5, j6, jO, j8, j7]) | (refine wk_intro (by kernel_rfl) ?_))
        refine vp_draw (l := [1]) (by kernel_rfl) ?_; repeat (first | (simp only [go_sem, Nat.reduceEqDiff, Nat.reduceAdd, Nat.reduceSub, Nat.reduceMul, Nat.reduceLeDiff, Nat.reduceLT, reduceIte, reduceCtorEq, Nat.succ_ne_zero, elemsC, Int.reduceToNat, Nat.reducePow, j0, j1, j5, j6, jO, j8, j7]) | (simp (disch := (first | omega | (simp only [AL, List.length_map]; omega))) only [AR, AL, ifT, ifF, take_all, List.length_cons, List.length_nil, Int.reduceToNat, Int.reducePow, Nat.reducePow, j0, j1, j5, j6, jO, j8, j7]) | (refine wk_intro (by kernel_rfl) ?_) | (refine vp_draw (l := []) (by kernel_rfl) ?_))
        refine vf_of (ref1_at ys k hy (by omega) (by omega)) ?_; repeat (first | (simp only [go_sem, Nat.reduceEqDiff, Nat.reduceAdd, Nat.reduceSub, Nat.reduceMul, Nat.reduceLeDiff, Nat.reduceLT, reduceIte, reduceCtorEq, Nat.succ_ne_zero, elemsC, Int.reduceToNat, Nat.reducePow, j0, j1, j5, j6, jO, j8, j7, hvv, hww, hp, hu]) | (simp (disch := (first | omega | (simp only [AL, List.length_map]; omega))) only [AR, AL, ifT, ifF, take_all, List.length_cons, List.length_nil, Int.reduceToNat, Int.reducePow, Nat.reducePow, j0, j1, j5, j6, jO, j8, j7, hvv, hww, hp, hu]) | (refine wk_intro (by kernel_rfl) ?_) | (refine vp_draw (l := []) (by kernel_rfl) ?_))
        have e1 : (carry + p + u) % 4294967296 = carry + p + u := by omega
        rw [e1] at hnew
        exact ⟨⟨c.set (i + k) (carry + p + u), k + 1, (carry + p + u) / 4294967296, rfl, rfl, rfl, by rw [List.length_set]; exact hc, okL_set hok _ _ (by omega), by omega, by omega, hcz', fun j hj => (getD_set_ne (by omega)).trans (hsame j (by omega)), hnew⟩, by omega⟩
end Go.Proofs.YtkkmnjhecjkhgaaGreatDoor
namespace Go.Proofs.YtkkmnjhecjkhgaaGreatDoor
open Go.Ev
theorem or_low2 {k : Nat} (v low : Nat) (h : low < 2 ^ k) : v * 2 ^ k ||| low = v * 2 ^ k + low := by
  rw [Nat.mul_comm]
  exact (Nat.two_pow_add_eq_or_of_lt h v).symm
theorem pow_split {k : Nat} (h : k < 32) : 2 ^ k * 2 ^ (32 - k) = 4294967296 := by rw [← Nat.pow_add, show k + (32 - k) = 32 by omega]
theorem shl_limb {k v low : Nat} (hk : k < 32) (hv : v < 4294967296) (hl : low < 2 ^ k) :
    v * 2 ^ k + low < 18446744073709551616 ∧ (v * 2 ^ k + low) % 4294967296 + 4294967296 * (v * 2 ^ k / 4294967296) = v * 2 ^ k + low ∧ v * 2 ^ k / 4294967296 < 2 ^ k := by
  have hDE := pow_split hk
  have hk2 : (2 : Nat) ^ k ≤ 2147483648 := Nat.pow_le_pow_right (n := 2) (by omega) (show k ≤ 31 by omega)
  have h1 : v * 2 ^ k ≤ 4294967295 * 2 ^ k := Nat.mul_le_mul_right _ (by omega)
  have hmod : v * 2 ^ k % 4294967296 = 2 ^ k * (v % 2 ^ (32 - k)) := by
    conv => lhs; rw [← hDE]
    rw [Nat.mul_comm v, Nat.mul_mod_mul_left]
  have h3 : v % 2 ^ (32 - k) + 1 ≤ 2 ^ (32 - k) := Nat.mod_lt _ (Nat.pow_pos (by omega))
  have h4 : 2 ^ k * (v % 2 ^ (32 - k) + 1) ≤ 2 ^ k * 2 ^ (32 - k) := Nat.mul_le_mul_left _ h3
  rw [hDE, Nat.mul_add, Nat.mul_one, ← hmod] at h4
  generalize v * 2 ^ k = x at *
  generalize 2 ^ k = D at *
  omega
theorem ref1_shift_up (xs : List Nat) (m : Nat) (hx : okL xs) (hl : xs.length ≤ 1073741824) (s : Int) (hs : s = (m : Int)) (hm : m ≤ 4096) :
    Go.Ev.Fn CX 111 [natV xs, .int .i64 s] (natV (lim (wth xs * 2 ^ m))) := by
  refine Go.Ev.Fn.intro (fn := Tryz.f111) (body := (Tryz.f111).body.get!) (by kernel_rfl) (by kernel_rfl) (by kernel_rfl) (fun _ => rfl) (Nat.le_of_ble_eq_true (by kernel_rfl)) ?_; unfold Tryz.f111; simp only [Option.get!_some]
  have lx := lim_length_le hx
  subst hs
  have e1 : (if (-4096 : Int) > (m : Int) then (-4096 : Int) else (m : Int)) = (m : Int) := if_neg (by omega)
  have e2 : (if (4096 : Int) < (m : Int) then (4096 : Int) else (m : Int)) = (m : Int) := if_neg (by omega)
  repeat (first | (simp only [go_sem, Nat.reduceEqDiff, Nat.reduceAdd, Nat.reduceSub, Nat.reduceMul, Nat.reduceLeDiff, Nat.reduceLT, reduceIte, reduceCtorEq, Nat.succ_ne_zero, elemsC, Int.reduceToNat, Nat.reducePow, e1, e2]) | (simp (disch := (first | omega | (simp only [AL, List.length_map]; omega))) only [AR, AL, ifT, ifF, take_all, List.length_cons, List.length_nil, Int.reduceToNat, Int.reducePow, Nat.reducePow, e1, e2]) | (refine wk_intro (by kernel_rfl) ?_) | (refine vp_draw (l := []) (by kernel_rfl) ?_))
  refine vf_of (ref1_Trim xs hx (by omega)) ?_; repeat (first | (simp only [go_sem, Nat.reduceEqDiff, Nat.reduceAdd, Nat.reduceSub, Nat.reduceMul, Nat.reduceLeDiff, Nat.reduceLT, reduceIte, reduceCtorEq, Nat.succ_ne_zero, elemsC, Int.reduceToNat, Nat.reducePow, e1, e2, tdiv32, tmod32]) | (simp (disch := (first | omega | (simp only [AL, List.length_map]; omega))) only [AR, AL, ifT, ifF, take_all, List.length_cons, List.length_nil, Int.reduceToNat, Int.reducePow, Nat.reducePow, e1, e2, tdiv32, tmod32]) | (refine wk_intro (by kernel_rfl) ?_) | (refine vp_draw (l := []) (by kernel_rfl) ?_))
  have ha := okL_lim (wth xs)
  have va := wth_lim (wth xs)
  generalize lim (wth xs) = a at *
  rw [← va]
  clear va
  have hk : m % 32 < 32 := Nat.mod_lt _ (by omega)
  have hpow : 2 ^ m = 4294967296 ^ (m / 32) * 2 ^ (m % 32) := by
    rw [show (4294967296 : Nat) = 2 ^ 32 by rfl, ← Nat.pow_mul, ← Nat.pow_add, Nat.div_add_mod]
  rw [hpow]
  generalize m % 32 = k at *
  have hw128 : m / 32 ≤ 128 := by omega
  generalize m / 32 = w at *
  refine vp_loop_inv (fun s' => s'.tmp 5 = .sv (natV a) ∧ s'.tmp 11 = .sv (.int .u64 k) ∧ ∃ c : List Nat, ∃ low : Nat, s'.tmp 10 = .ref 61 0 1 0 (w + c.length) ∧ s'.obj 61 0 = some ((List.replicate w 0 ++ c).map limb) ∧ s'.tmp 12 = .sv (.int .u64 low) ∧ s'.tmp 13 = .sv (.int .i64 c.length) ∧
      okL c ∧ c.length ≤ a.length + 1 ∧ low < 2 ^ k ∧ wth c + 4294967296 ^ c.length * low = wth (a.take c.length) * 2 ^ k)
    (fun s => match s.tmp 13 with | .sv (.int _ i) => a.length + 1 - i.toNat | _ => 0) ?_ ?_
  · exact ⟨rfl, rfl, [], 0, rfl, by rw [List.append_nil]; rfl, rfl, rfl, okL_nil, by simp, Nat.pow_pos (by omega), by rw [List.length_nil, List.take_zero, wth_nil, Nat.zero_mul, Nat.mul_zero]⟩
  clear e1 e2
  rintro s' ⟨i5, i11, c, low, i10, iO, i12, i13, hc, hcl, hlow, hv⟩
  have hDl : 2 ^ k ≤ 2147483648 := Nat.pow_le_pow_right (n := 2) (by omega) (show k ≤ 31 by omega)
  by_cases hend : c.length = a.length + 1
  · have hfin : wth (List.replicate w 0 ++ c) = wth a * (4294967296 ^ w * 2 ^ k) := by
      rw [wth_append, wth_replicate, Nat.zero_add, List.length_replicate, Nat.mul_left_comm]
      congr 1
      rw [hend, List.take_of_length_le (by omega)] at hv
      rcases Nat.eq_zero_or_pos low with rfl | h0
      · rw [Nat.mul_zero, Nat.add_zero] at hv; exact hv
      · exfalso
        have h1 := wth_lt ha
        have h2 : wth a * 2 ^ k < 4294967296 ^ a.length * 4294967296 := Nat.lt_of_lt_of_le (Nat.mul_lt_mul_of_pos_right h1 (Nat.pow_pos (by omega))) (Nat.mul_le_mul_left _ (by omega))
        have h3 : 4294967296 ^ (a.length + 1) * 1 ≤ 4294967296 ^ (a.length + 1) * low := Nat.mul_le_mul_left _ h0
        rw [Nat.pow_succ] at h3 hv
        generalize 4294967296 ^ a.length * 4294967296 = P at *
        omega
    have hrl : (List.replicate w 0 ++ c).length = w + c.length := by rw [List.length_append, List.length_replicate]
    have hro : okL (List.replicate w 0 ++ c) := okL_append.2 ⟨okL_replicate _, hc⟩
    clear hv hc
    generalize List.replicate w 0 ++ c = r at *
    repeat (first | (simp only [go_sem, Nat.reduceEqDiff, Nat.reduceAdd, Nat.reduceSub, Nat.reduceMul, Nat.reduceLeDiff, Nat.reduceLT, reduceIte, reduceCtorEq, Nat.succ_ne_zero, elemsC, Int.reduceToNat, Nat.reducePow, i5, i11, i10, iO, i12, i13]) | (simp (disch := (first | omega | (simp only [AL, List.length_map]; omega))) only [AR, AL, ifT, ifF, take_all, List.length_cons, List.length_nil, Int.reduceToNat, Int.reducePow, Nat.reducePow, i5, i11, i10, iO, i12, i13]) | (refine wk_intro (by kernel_rfl) ?_) | (refine vp_draw (l := []) (by kernel_rfl) ?_))
    refine vf_of (fn_natV (ref1_Trim r hro (by omega)) hrl) ?_; repeat (first | (simp only [go_sem, Nat.reduceEqDiff, Nat.reduceAdd, Nat.reduceSub, Nat.reduceMul, Nat.reduceLeDiff, Nat.reduceLT, reduceIte, reduceCtorEq, Nat.succ_ne_zero, elemsC, Int.reduceToNat, Nat.reducePow, i5, i11, i10, iO, i12, i13]) | (simp (disch := (first | omega | (simp only [AL, List.length_map]; omega))) only [AR, AL, ifT, ifF, take_all, List.length_cons, List.length_nil, Int.reduceToNat, Int.reducePow, Nat.reducePow, i5, i11, i10, iO, i12, i13]) | (refine wk_intro (by kernel_rfl) ?_) | (refine vp_draw (l := []) (by kernel_rfl) ?_))
    rw [hfin]
  · have h1 := getD_lt ha c.length
    have ht := wth_take_succ a c.length
    have hor := or_low2 (a.getD c.length 0) low hlow
    obtain ⟨g1, g2, g3⟩ := shl_limb hk h1 hlow
    generalize hvv : a.getD c.length 0 = v at *
    have hv' : ∀ z, z = (v * 2 ^ k + low) % 4294967296 → wth (c ++ [z]) + 4294967296 ^ (c ++ [z]).length * (v * 2 ^ k / 4294967296) = wth (a.take (c ++ [z]).length) * 2 ^ k := by
      intro z hz
      rw [List.length_append, List.length_singleton, wth_snoc, ht, Nat.add_mul, ← hv, hz, Nat.pow_succ, Nat.mul_assoc (4294967296 ^ c.length) 4294967296, Nat.add_assoc, ← Nat.mul_add, g2, Nat.mul_add, Nat.mul_assoc]
      omega
    have hj : bitsSV .or .u64 ((v * 2 ^ k : Nat) : Int) (low : Int) = some (.int .u64 ((v * 2 ^ k + low : Nat) : Int)) := by
      rw [b_or64 (by omega) (by omega), hor]
    have hw64 : v * 2 ^ k % 18446744073709551616 = v * 2 ^ k := Nat.mod_eq_of_lt (by omega)
    clear hv ht hpow
    have hk64 : min k 64 = k := by omega
    repeat (first | (simp only [go_sem, Nat.reduceEqDiff, Nat.reduceAdd, Nat.reduceSub, Nat.reduceMul, Nat.reduceLeDiff, Nat.reduceLT, reduceIte, reduceCtorEq, Nat.succ_ne_zero, elemsC, Int.reduceToNat, Nat.reducePow, i5, i11, i10, iO, i12, i13, N0]) | (simp (disch := (first | omega | (simp only [AL, List.length_map]; omega))) only [AR, AL, ifT, ifF, take_all, List.length_cons, List.length_nil, Int.reduceToNat, Int.reducePow, Nat.reducePow, i5, i11, i10, iO, i12, i13, N0]) | (refine wk_intro (by kernel_rfl) ?_) | (refine vp_draw (l := []) (by kernel_rfl) ?_))
    refine vf_of (ref1_at a c.length ha (by omega) (by omega)) ?_; repeat (first | (simp only [go_sem, Nat.reduceEqDiff, Nat.reduceAdd, Nat.reduceSub, Nat.reduceMul, Nat.reduceLeDiff, Nat.reduceLT, reduceIte, reduceCtorEq, Nat.succ_ne_zero, elemsC, Int.reduceToNat, Nat.reducePow, i5, i11, i10, iO, i12, i13, N0, hvv, hj, hw64, hk64]) | (simp (disch := (first | omega | (simp only [AL, List.length_map]; omega))) only [AR, AL, ifT, ifF, take_all, List.length_cons, List.length_nil, Int.reduceToNat, Int.reducePow, Nat.reducePow, i5, i11, i10, iO, i12, i13, N0, hvv, hj, hw64, hk64]) | (refine wk_intro (by kernel_rfl) ?_) | (refine vp_draw (l := []) (by kernel_rfl) ?_))
    have hz : (v * 2 ^ k + low) % 4294967296 < 4294967296 := Nat.mod_lt _ (by omega)
    refine ⟨⟨c ++ [(v * 2 ^ k + low) % 4294967296], v * 2 ^ k / 4294967296, by rw [List.length_append]; rfl, by rw [← List.append_assoc, List.map_append (l₂ := [_])]; rfl, rfl, by rw [List.length_append]; rfl, okL_append.2 ⟨hc, okL_cons.2 ⟨hz, okL_nil⟩⟩, by rw [List.length_append, List.length_singleton]; omega, g3, hv' _ rfl⟩, by omega⟩
end Go.Proofs.YtkkmnjhecjkhgaaGreatDoor
namespace Go.Proofs.YtkkmnjhecjkhgaaGreatDoor
open Go.Ev
theorem wth_at (xs : List Nat) {w : Nat} (h : w < xs.length) : wth xs = wth (xs.take w) + 4294967296 ^ w * (xs.getD w 0 + 4294967296 * wth (xs.drop (w + 1))) := by
  conv => lhs; rw [← List.take_append_drop w xs, wth_append]
  rw [List.length_take, Nat.min_eq_left (by omega), wth_drop h]
theorem wth_set_add (q : List Nat) {w : Nat} (h : w < q.length) (e : Nat) : wth (q.set w (q.getD w 0 + e)) = wth q + 4294967296 ^ w * e := by
  have h1 := wth_at (q.set w (q.getD w 0 + e)) (w := w) (by rw [List.length_set]; exact h)
  rw [getD_set_self h, List.drop_set_of_lt (by omega), List.take_set_of_le (Nat.le_refl _)] at h1
  rw [h1, wth_at q h]
  generalize 4294967296 * wth (q.drop (w + 1)) = D
  rw [Nat.mul_add, Nat.mul_add, Nat.mul_add]
  omega
theorem pow_32 (J : Nat) : 2 ^ J = 4294967296 ^ (J / 32) * 2 ^ (J % 32) := by
  rw [show (4294967296 : Nat) = 2 ^ 32 by rfl, ← Nat.pow_mul, ← Nat.pow_add, Nat.div_add_mod]
theorem wth_shr (xs : List Nat) (hx : okL xs) {w : Nat} (h : w < xs.length) : wth xs / 4294967296 ^ w = xs.getD w 0 + 4294967296 * wth (xs.drop (w + 1)) := by
  rw [wth_at xs h, Nat.add_comm, Nat.mul_add_div (Nat.pow_pos (by omega)), Nat.div_eq_of_lt (wth_low hx w), Nat.add_zero]
theorem bit_get (xs : List Nat) (hx : okL xs) (J : Nat) (h : J / 32 < xs.length) : xs.getD (J / 32) 0 / 2 ^ (J % 32) % 2 = wth xs / 2 ^ J % 2 := by
  rw [pow_32 J, ← Nat.div_div_eq_div_mul, wth_shr xs hx h]
  have hk : J % 32 < 32 := Nat.mod_lt _ (by omega)
  generalize wth (xs.drop (J / 32 + 1)) = Z
  generalize xs.getD (J / 32) 0 = x
  generalize J % 32 = j at *
  have e : x + 4294967296 * Z = x + 2 ^ j * (2 * (2 ^ (31 - j) * Z)) := by
    rw [← Nat.mul_assoc 2, ← Nat.pow_succ', ← Nat.mul_assoc, show (31 - j).succ = 32 - j by omega, pow_split hk]
  rw [e, Nat.add_mul_div_left _ _ (Nat.pow_pos (by omega)), Nat.add_mul_mod_self_left]
theorem bit_set (q : List Nat) (hq : okL q) (J Q : Nat) (h : J / 32 < q.length) (hv : wth q = Q * 2 ^ (J + 1)) :
    q.getD (J / 32) 0 ||| 2 ^ (J % 32) = q.getD (J / 32) 0 + 2 ^ (J % 32) ∧ q.getD (J / 32) 0 + 2 ^ (J % 32) < 4294967296 ∧ wth (q.set (J / 32) (q.getD (J / 32) 0 + 2 ^ (J % 32))) = (2 * Q + 1) * 2 ^ J := by
  have hk : J % 32 < 32 := Nat.mod_lt _ (by omega)
  have h1 : q.getD (J / 32) 0 = (Q * 2 ^ (J % 32 + 1)) % 4294967296 := by
    have h2 := wth_shr q hq h
    rw [hv, Nat.pow_succ, pow_32 J, Nat.mul_assoc, Nat.mul_left_comm, Nat.mul_div_cancel_left _ (Nat.pow_pos (by omega)), ← Nat.pow_succ] at h2
    rw [h2, Nat.add_mul_mod_self_left, Nat.mod_eq_of_lt (getD_lt hq _)]
  have h3 : q.getD (J / 32) 0 = 2 ^ (J % 32 + 1) * (Q % 2 ^ (31 - J % 32)) := by
    rw [h1, show (4294967296 : Nat) = 2 ^ (J % 32 + 1) * 2 ^ (31 - J % 32) by rw [← Nat.pow_add, show J % 32 + 1 + (31 - J % 32) = 32 by omega], Nat.mul_comm Q, Nat.mul_mod_mul_left]
  refine ⟨?_, ?_, ?_⟩
  · rw [h3]
    exact (Nat.two_pow_add_eq_or_of_lt (Nat.pow_lt_pow_right (by omega) (by omega)) _).symm
  · have h4 : Q % 2 ^ (31 - J % 32) + 1 ≤ 2 ^ (31 - J % 32) := Nat.mod_lt _ (Nat.pow_pos (by omega))
    have h5 : 2 ^ (J % 32 + 1) * (Q % 2 ^ (31 - J % 32) + 1) ≤ 2 ^ (J % 32 + 1) * 2 ^ (31 - J % 32) := Nat.mul_le_mul_left _ h4
    rw [← Nat.pow_add, show J % 32 + 1 + (31 - J % 32) = 32 by omega, Nat.mul_add, Nat.mul_one, ← h3] at h5
    have h6 : 0 < 2 ^ (J % 32) := Nat.pow_pos (by omega)
    have h7 : 2 ^ (J % 32 + 1) = 2 ^ (J % 32) + 2 ^ (J % 32) := by rw [Nat.pow_succ]; omega
    have h8 : (2 : Nat) ^ 32 = 4294967296 := rfl
    omega
  · rw [wth_set_add q h, hv, ← pow_32 J, Nat.pow_succ, Nat.add_mul, Nat.one_mul, Nat.mul_comm (2 ^ J) 2, ← Nat.mul_assoc, Nat.mul_comm Q 2]
theorem bit_step {X y J r b : Nat} (hy : 0 < y) (hr : r = X / 2 ^ (J + 1) % y) (hb : b = X / 2 ^ J % 2) :
    X / 2 ^ J % y = (if y ≤ r * 2 + b then r * 2 + b - y else r * 2 + b) ∧ X / 2 ^ J / y = 2 * (X / 2 ^ (J + 1) / y) + (if y ≤ r * 2 + b then 1 else 0) := by
  have e1 : X / 2 ^ J = 2 * (X / 2 ^ (J + 1)) + b := by
    rw [Nat.pow_succ, ← Nat.div_div_eq_div_mul, hb, Nat.add_comm, Nat.mod_add_div]
  have e2 := Nat.div_add_mod (X / 2 ^ (J + 1)) y
  rw [← hr] at e2
  generalize X / 2 ^ (J + 1) / y = Q at *
  have hr' : r < y := by rw [hr]; exact Nat.mod_lt _ hy
  have hb' : b < 2 := by rw [hb]; exact Nat.mod_lt _ (by omega)
  clear hr hb
  have e3 : X / 2 ^ J = y * (2 * Q) + (r * 2 + b) := by
    rw [e1, ← e2, Nat.mul_add, Nat.mul_left_comm]
    omega
  generalize X / 2 ^ J = A at *
  subst e3
  split
  · rename_i h
    have e4 : y * (2 * Q) + (r * 2 + b) = y * (2 * Q + 1) + (r * 2 + b - y) := by rw [Nat.mul_add, Nat.mul_one]; omega
    rw [e4, Nat.mul_add_mod, Nat.mul_add_div hy, Nat.mod_eq_of_lt (by omega), Nat.div_eq_of_lt (by omega), Nat.add_zero]
    exact ⟨rfl, rfl⟩
  · rename_i h
    rw [Nat.mul_add_mod, Nat.mul_add_div hy, Nat.mod_eq_of_lt (by omega), Nat.div_eq_of_lt (by omega)]
    exact ⟨rfl, rfl⟩
theorem and_one (x : Nat) : x &&& 1 = x % 2 := Nat.and_two_pow_sub_one_eq_mod x 1
set_option maxHeartbeats 4000000 in
theorem ref1_DivMod (xs ys : List Nat) (hx : okL xs) (hy : okL ys) (hl : xs.length ≤ 16777216) (hm : ys.length ≤ 16777216) :
    Go.Ev.Fn CX 73 [natV xs, natV ys] (.tup [natV (lim (wth xs / wth ys)), natV (lim (remN (wth xs) (wth ys))), .bool (decide (wth ys ≠ 0))]) := by
  refine Go.Ev.Fn.intro (fn := Tryz.f73) (body := (Tryz.f73).body.get!) (by kernel_rfl) (by kernel_rfl) (by kernel_rfl) (fun _ => rfl) (Nat.le_of_ble_eq_true (by kernel_rfl)) ?_; unfold Tryz.f73; simp only [Option.get!_some]
  have hTo := ref1_To xs hx (by omega)
  have hTo2 := ref1_To ys hy (by omega)
  have hsm := ref1_small xs (wth ys) hx (by omega)
  generalize hX : wth xs = X at *
  generalize hY : wth ys = Y at *
  repeat (first | (simp only [go_sem, Nat.reduceEqDiff, Nat.reduceAdd, Nat.reduceSub, Nat.reduceMul, Nat.reduceLeDiff, Nat.reduceLT, reduceIte, reduceCtorEq, Nat.succ_ne_zero, elemsC, Int.reduceToNat, Nat.reducePow]) | (simp (disch := (first | omega | (simp only [AL, List.length_map]; omega))) only [AR, AL, ifT, ifF, take_all, List.length_cons, List.length_nil, Int.reduceToNat, Int.reducePow, Nat.reducePow]) | (refine wk_intro (by kernel_rfl) ?_) | (refine vp_draw (l := []) (by kernel_rfl) ?_))
  refine vf_of (ref1_Trim ys hy (by omega)) ?_; repeat (first | (simp only [go_sem, Nat.reduceEqDiff, Nat.reduceAdd, Nat.reduceSub, Nat.reduceMul, Nat.reduceLeDiff, Nat.reduceLT, reduceIte, reduceCtorEq, Nat.succ_ne_zero, elemsC, Int.reduceToNat, Nat.reducePow]) | (simp (disch := (first | omega | (simp only [AL, List.length_map]; omega))) only [AR, AL, ifT, ifF, take_all, List.length_cons, List.length_nil, Int.reduceToNat, Int.reducePow, Nat.reducePow]) | (refine wk_intro (by kernel_rfl) ?_) | (refine vp_draw (l := []) (by kernel_rfl) ?_))
  rw [hY]
  rcases Nat.eq_zero_or_pos Y with h0 | h0
  · subst h0
    rw [lim_zero, Nat.div_zero, lim_zero, show remN X 0 = 0 by rfl, lim_zero]
    repeat (first | (simp only [go_sem, Nat.reduceEqDiff, Nat.reduceAdd, Nat.reduceSub, Nat.reduceMul, Nat.reduceLeDiff, Nat.reduceLT, reduceIte, reduceCtorEq, Nat.succ_ne_zero, elemsC, Int.reduceToNat, Nat.reducePow]) | (simp (disch := (first | omega | (simp only [AL, List.length_map]; omega))) only [AR, AL, ifT, ifF, take_all, List.length_cons, List.length_nil, Int.reduceToNat, Int.reducePow, Nat.reducePow]) | (refine wk_intro (by kernel_rfl) ?_) | (refine vp_draw (l := []) (by kernel_rfl) ?_))
    rfl
  have e0 : remN X Y = X % Y := if_neg (by omega)
  have e1 : decide (Y ≠ 0) = true := decide_eq_true (by omega)
  have hn0 : 0 < (lim Y).length := List.length_pos_iff.2 (fun h => by have := lim_eq_nil.1 h; omega)
  rw [e0, e1]
  repeat (first | (simp only [go_sem, Nat.reduceEqDiff, Nat.reduceAdd, Nat.reduceSub, Nat.reduceMul, Nat.reduceLeDiff, Nat.reduceLT, reduceIte, reduceCtorEq, Nat.succ_ne_zero, elemsC, Int.reduceToNat, Nat.reducePow]) | (simp (disch := (first | omega | (simp only [AL, List.length_map]; omega))) only [AR, AL, ifT, ifF, take_all, List.length_cons, List.length_nil, Int.reduceToNat, Int.reducePow, Nat.reducePow]) | (refine wk_intro (by kernel_rfl) ?_) | (refine vp_draw (l := []) (by kernel_rfl) ?_) | (refine vf_of (by first | exact hTo | exact hTo2) ?_))
  by_cases hX2 : X < 18446744073709551616 ∧ Y < 18446744073709551616
  · obtain ⟨hX3, hY3⟩ := hX2
    have hq : X / Y < 18446744073709551616 := Nat.lt_of_le_of_lt (Nat.div_le_self _ _) hX3
    have hr : X % Y < 18446744073709551616 := Nat.lt_trans (Nat.mod_lt _ h0) hY3
    have hY4 : Y ≠ 0 := by omega
    rw [if_pos hX3, if_pos hY3, decide_eq_true hX3, decide_eq_true hY3]
    have oQ := ref1_Of (X / Y) hq
    have oR := ref1_Of (X % Y) hr
    have hqm : X / Y % 18446744073709551616 = X / Y := Nat.mod_eq_of_lt hq
    repeat (first | (simp only [go_sem, Nat.reduceEqDiff, Nat.reduceAdd, Nat.reduceSub, Nat.reduceMul, Nat.reduceLeDiff, Nat.reduceLT, reduceIte, reduceCtorEq, Nat.succ_ne_zero, elemsC, Int.reduceToNat, Nat.reducePow, hqm]) | (simp (disch := (first | omega | (simp only [AL, List.length_map]; omega))) only [AR, AL, ifT, ifF, take_all, List.length_cons, List.length_nil, Int.reduceToNat, Int.reducePow, Nat.reducePow, hqm]) | (refine wk_intro (by kernel_rfl) ?_) | (refine vp_draw (l := []) (by kernel_rfl) ?_) | (refine vf_of (by first | exact oQ | exact oR) ?_))
  · have hdec : (decide (X < 18446744073709551616) && decide (Y < 18446744073709551616)) = false := by
      rw [← Bool.decide_and]; exact decide_eq_false hX2
    by_cases hY1 : Y < 4294967296
    · have hY3 : Y < 18446744073709551616 := by omega
      have hX3 : ¬ X < 18446744073709551616 := fun h => hX2 ⟨h, hY3⟩
      have hr : X % Y < 18446744073709551616 := Nat.lt_trans (Nat.mod_lt _ h0) hY3
      have hsm := hsm h0 hY1
      have oR := ref1_Of (X % Y) hr
      rw [if_pos hY3, if_neg hX3, decide_eq_true hY3, decide_eq_false hX3]
      repeat (first | (simp only [go_sem, Nat.reduceEqDiff, Nat.reduceAdd, Nat.reduceSub, Nat.reduceMul, Nat.reduceLeDiff, Nat.reduceLT, reduceIte, reduceCtorEq, Nat.succ_ne_zero, elemsC, Int.reduceToNat, Nat.reducePow]) | (simp (disch := (first | omega | (simp only [AL, List.length_map]; omega))) only [AR, AL, ifT, ifF, take_all, List.length_cons, List.length_nil, Int.reduceToNat, Int.reducePow, Nat.reducePow]) | (refine wk_intro (by kernel_rfl) ?_) | (refine vp_draw (l := []) (by kernel_rfl) ?_) | (refine vf_of (by first | exact hsm | exact oR) ?_))
    · clear hsm hTo hTo2
      have hcases : (¬ X < 18446744073709551616 ∧ Y < 18446744073709551616) ∨ (X < 18446744073709551616 ∧ ¬ Y < 18446744073709551616) ∨ (¬ X < 18446744073709551616 ∧ ¬ Y < 18446744073709551616) := by omega
      rcases hcases with ⟨hX3, hY3⟩ | ⟨hX3, hY3⟩ | ⟨hX3, hY3⟩
      all_goals
        simp only [hX3, hY3, if_true, if_false, decide_true, decide_false]
        repeat (first | (simp only [go_sem, Nat.reduceEqDiff, Nat.reduceAdd, Nat.reduceSub, Nat.reduceMul, Nat.reduceLeDiff, Nat.reduceLT, reduceIte, reduceCtorEq, Nat.succ_ne_zero, elemsC, Int.reduceToNat, Nat.reducePow]) | (simp (disch := (first | omega | (simp only [AL, List.length_map]; omega))) only [AR, AL, ifT, ifF, take_all, List.length_cons, List.length_nil, Int.reduceToNat, Int.reducePow, Nat.reducePow]) | (refine wk_intro (by kernel_rfl) ?_))
        refine vp_loop_inv (fun s => s.tmp 0 = .sv (natV xs) ∧ s.tmp 1 = .sv (natV ys) ∧ s.tmp 13 = .ref 58 0 1 0 xs.length ∧ ∃ q : List Nat, ∃ I R : Nat, s.obj 58 0 = some (q.map limb) ∧ s.tmp 15 = .sv (.int .i64 ((I : Int) - 1)) ∧ ((s.tmp 14 = .nil ∧ R = 0) ∨ s.tmp 14 = .sv (natV (lim R))) ∧
            q.length = xs.length ∧ okL q ∧ I ≤ 32 * xs.length ∧ R = X / 2 ^ I % Y ∧ wth q = X / 2 ^ I / Y * 2 ^ I)
          (fun s => match s.tmp 15 with | .sv (.int _ i) => (i + 1).toNat | _ => 0) ?_ ?_
        · have hXlt := wth_lt hx
          rw [hX] at hXlt
          have h32 : (4294967296 : Nat) ^ xs.length = 2 ^ (32 * xs.length) := by rw [Nat.pow_mul]
          rw [h32] at hXlt
          refine ⟨rfl, rfl, rfl, List.replicate xs.length 0, 32 * xs.length, 0, rfl, rfl, .inl ⟨rfl, rfl⟩, List.length_replicate .., okL_replicate _, Nat.le_refl _, ?_, ?_⟩
          · rw [Nat.div_eq_of_lt hXlt, Nat.zero_mod]
          · rw [Nat.div_eq_of_lt hXlt, Nat.zero_div, Nat.zero_mul, wth_replicate]
        rintro s ⟨i0, i1, i13, q, I, R, iO, i15, hR, hql, hqk, hI, hRv, hqv⟩
        rcases Nat.eq_zero_or_pos I with rfl | hI0
        · rw [Nat.pow_zero, Nat.div_one] at hRv hqv
          rw [Nat.mul_one] at hqv
          subst hRv
          rcases hR with ⟨i14, hR0⟩ | i14
          · repeat (first | (simp only [go_sem, Nat.reduceEqDiff, Nat.reduceAdd, Nat.reduceSub, Nat.reduceMul, Nat.reduceLeDiff, Nat.reduceLT, reduceIte, reduceCtorEq, Nat.succ_ne_zero, elemsC, Int.reduceToNat, Nat.reducePow, i0, i1, i13, iO, i15, i14]) | (simp (disch := (first | omega | (simp only [AL, List.length_map]; omega))) only [AR, AL, ifT, ifF, take_all, List.length_cons, List.length_nil, Int.reduceToNat, Int.reducePow, Nat.reducePow, i0, i1, i13, iO, i15, i14]) | (refine wk_intro (by kernel_rfl) ?_) | (refine vp_draw (l := []) (by kernel_rfl) ?_))
            refine vf_of (fn_natV (ref1_Trim q hqk (by omega)) hql) ?_; repeat (first | (simp only [go_sem, Nat.reduceEqDiff, Nat.reduceAdd, Nat.reduceSub, Nat.reduceMul, Nat.reduceLeDiff, Nat.reduceLT, reduceIte, reduceCtorEq, Nat.succ_ne_zero, elemsC, Int.reduceToNat, Nat.reducePow, i0, i1, i13, iO, i15, i14]) | (simp (disch := (first | omega | (simp only [AL, List.length_map]; omega))) only [AR, AL, ifT, ifF, take_all, List.length_cons, List.length_nil, Int.reduceToNat, Int.reducePow, Nat.reducePow, i0, i1, i13, iO, i15, i14]) | (refine wk_intro (by kernel_rfl) ?_) | (refine vp_draw (l := []) (by kernel_rfl) ?_))
            refine vf_of (ref1_Trim [] okL_nil (by simp)) ?_; repeat (first | (simp only [go_sem, Nat.reduceEqDiff, Nat.reduceAdd, Nat.reduceSub, Nat.reduceMul, Nat.reduceLeDiff, Nat.reduceLT, reduceIte, reduceCtorEq, Nat.succ_ne_zero, elemsC, Int.reduceToNat, Nat.reducePow, i0, i1, i13, iO, i15, i14]) | (simp (disch := (first | omega | (simp only [AL, List.length_map]; omega))) only [AR, AL, ifT, ifF, take_all, List.length_cons, List.length_nil, Int.reduceToNat, Int.reducePow, Nat.reducePow, i0, i1, i13, iO, i15, i14]) | (refine wk_intro (by kernel_rfl) ?_) | (refine vp_draw (l := []) (by kernel_rfl) ?_))
            rw [hqv, hR0, lim_zero, wth_nil, lim_zero]
            exact ⟨rfl, rfl⟩
          · have hRl : (lim (X % Y)).length ≤ ys.length := by
              have h1 : (lim Y).length ≤ ys.length := by rw [← hY]; exact lim_length_le hy
              have h2 := Nat.mod_lt X h0
              have h3 := trimL_length (okL_lim (X % Y)) (okL_lim Y) (trimL_lim _) (by rw [wth_lim, wth_lim]; omega)
              omega
            repeat (first | (simp only [go_sem, Nat.reduceEqDiff, Nat.reduceAdd, Nat.reduceSub, Nat.reduceMul, Nat.reduceLeDiff, Nat.reduceLT, reduceIte, reduceCtorEq, Nat.succ_ne_zero, elemsC, Int.reduceToNat, Nat.reducePow, i0, i1, i13, iO, i15, i14]) | (simp (disch := (first | omega | (simp only [AL, List.length_map]; omega))) only [AR, AL, ifT, ifF, take_all, List.length_cons, List.length_nil, Int.reduceToNat, Int.reducePow, Nat.reducePow, i0, i1, i13, iO, i15, i14]) | (refine wk_intro (by kernel_rfl) ?_) | (refine vp_draw (l := []) (by kernel_rfl) ?_))
            refine vf_of (fn_natV (ref1_Trim q hqk (by omega)) hql) ?_; repeat (first | (simp only [go_sem, Nat.reduceEqDiff, Nat.reduceAdd, Nat.reduceSub, Nat.reduceMul, Nat.reduceLeDiff, Nat.reduceLT, reduceIte, reduceCtorEq, Nat.succ_ne_zero, elemsC, Int.reduceToNat, Nat.reducePow, i0, i1, i13, iO, i15, i14]) | (simp (disch := (first | omega | (simp only [AL, List.length_map]; omega))) only [AR, AL, ifT, ifF, take_all, List.length_cons, List.length_nil, Int.reduceToNat, Int.reducePow, Nat.reducePow, i0, i1, i13, iO, i15, i14]) | (refine wk_intro (by kernel_rfl) ?_) | (refine vp_draw (l := []) (by kernel_rfl) ?_))
            refine vf_of (ref1_Trim (lim (X % Y)) (okL_lim _) (by omega)) ?_; repeat (first | (simp only [go_sem, Nat.reduceEqDiff, Nat.reduceAdd, Nat.reduceSub, Nat.reduceMul, Nat.reduceLeDiff, Nat.reduceLT, reduceIte, reduceCtorEq, Nat.succ_ne_zero, elemsC, Int.reduceToNat, Nat.reducePow, i0, i1, i13, iO, i15, i14]) | (simp (disch := (first | omega | (simp only [AL, List.length_map]; omega))) only [AR, AL, ifT, ifF, take_all, List.length_cons, List.length_nil, Int.reduceToNat, Int.reducePow, Nat.reducePow, i0, i1, i13, iO, i15, i14]) | (refine wk_intro (by kernel_rfl) ?_) | (refine vp_draw (l := []) (by kernel_rfl) ?_))
            rw [hqv, wth_lim]
            exact ⟨rfl, rfl⟩
        · obtain ⟨J, rfl⟩ : ∃ J, I = J + 1 := ⟨I - 1, by omega⟩
          have h5 : ((J + 1 : Nat) : Int) - 1 = (J : Int) := by omega
          rw [h5] at i15
          have hRY : R < Y := by rw [hRv]; exact Nat.mod_lt _ h0
          have hlY : (lim Y).length ≤ ys.length := by rw [← hY]; exact lim_length_le hy
          have hRl : (lim R).length ≤ (lim Y).length := trimL_length (okL_lim _) (okL_lim _) (trimL_lim _) (by rw [wth_lim, wth_lim]; omega)
          have hS := ref1_shift_up (lim R) 1 (okL_lim R) (by omega) 1 rfl (by omega)
          rw [wth_lim, Nat.pow_one] at hS
          have hlen : ∀ z, z ≤ R * 2 + 1 → (lim z).length ≤ ys.length + 1 := by
            intro z hz
            have h1 := trimL_length (xs := lim z) (ys := 0 :: lim Y) (okL_lim _) (okL_cons.2 ⟨by omega, okL_lim _⟩) (trimL_lim _) (by rw [wth_cons, wth_lim, wth_lim]; omega)
            rw [List.length_cons] at h1
            omega
          have hw : J / 32 < xs.length := by omega
          have hbg := bit_get xs hx J hw
          have hbs := bit_set q hqk J (X / 2 ^ (J + 1) / Y) (by omega) hqv
          rw [hX] at hbg
          obtain ⟨hst1, hst2⟩ := bit_step h0 hRv rfl
          have hb2 : X / 2 ^ J % 2 < 2 := Nat.mod_lt _ (by omega)
          have hx1 := getD_lt hx (J / 32)
          have hq1 := getD_lt hqk (J / 32)
          have hj : J % 32 < 32 := Nat.mod_lt _ (by omega)
          generalize hB : X / 2 ^ J % 2 = B at *
          generalize hxw : xs.getD (J / 32) 0 = x at *
          have hxj : x / 2 ^ (J % 32) < 4294967296 := Nat.lt_of_le_of_lt (Nat.div_le_self _ _) hx1
          have hand : bitsSV .and .u32 ((x / 2 ^ (J % 32) : Nat) : Int) 1 = some (.int .u32 (B : Int)) := by
            have := b_and32 (a := x / 2 ^ (J % 32)) (b := 1) hxj (by omega)
            rw [and_one, hbg] at this
            exact this
          have hmin : min (J % 32) 32 = J % 32 := Nat.min_eq_left (by omega)
          clear hbg hRv hI0
          rcases hR with ⟨i14, hR0⟩ | i14
          all_goals (first | (have hR1 : lim R = [] := by rw [hR0, lim_zero]); rw [hR1] at hS | skip)
          all_goals
            repeat (first | (simp only [go_sem, Nat.reduceEqDiff, Nat.reduceAdd, Nat.reduceSub, Nat.reduceMul, Nat.reduceLeDiff, Nat.reduceLT, reduceIte, reduceCtorEq, Nat.succ_ne_zero, elemsC, Int.reduceToNat, Nat.reducePow, i0, i1, i13, iO, i15, i14, tdiv32, tmod32, hxw, hmin, hand]) | (simp (disch := (first | omega | (simp only [AL, List.length_map]; omega))) only [AR, AL, ifT, ifF, take_all, List.length_cons, List.length_nil, Int.reduceToNat, Int.reducePow, Nat.reducePow, i0, i1, i13, iO, i15, i14, tdiv32, tmod32, hxw, hmin, hand]) | (refine wk_intro (by kernel_rfl) ?_) | (refine vp_draw (l := []) (by kernel_rfl) ?_) | (refine vf_of (by first | exact hS) ?_))
            refine vc_cut (Mid := fun s' => s'.tmp 0 = .sv (natV xs) ∧ s'.tmp 1 = .sv (natV ys) ∧ s'.tmp 13 = .ref 58 0 1 0 xs.length ∧ s'.obj 58 0 = some (q.map limb) ∧ s'.tmp 15 = .sv (.int .i64 (J : Int)) ∧ s'.tmp 14 = .sv (natV (lim (R * 2 + B)))) ?_ ?_
            · have hB01 : B = 0 ∨ B = 1 := by omega
              rcases hB01 with hB0 | hB1
              · have hbq : ((B : Int) == 1) = false := beqF (by omega)
                repeat (first | (simp only [go_sem, Nat.reduceEqDiff, Nat.reduceAdd, Nat.reduceSub, Nat.reduceMul, Nat.reduceLeDiff, Nat.reduceLT, reduceIte, reduceCtorEq, Nat.succ_ne_zero, elemsC, Int.reduceToNat, Nat.reducePow, i0, i1, i13, iO, i15, i14, hbq]) | (simp (disch := (first | omega | (simp only [AL, List.length_map]; omega))) only [AR, AL, ifT, ifF, take_all, List.length_cons, List.length_nil, Int.reduceToNat, Int.reducePow, Nat.reducePow, i0, i1, i13, iO, i15, i14, hbq]) | (refine wk_intro (by kernel_rfl) ?_) | (refine vp_draw (l := []) (by kernel_rfl) ?_))
                rw [hB0, Nat.add_zero]
              · have hbq : ((B : Int) == 1) = true := beqT (by omega)
                have hA := ref1_Add (lim (R * 2)) [1] (okL_lim _) (by simp [okL]) (by have := hlen (R * 2) (by omega); omega) (by simp)
                rw [wth_lim, show wth [1] = B by rw [hB1]; rfl] at hA
                repeat (first | (simp only [go_sem, Nat.reduceEqDiff, Nat.reduceAdd, Nat.reduceSub, Nat.reduceMul, Nat.reduceLeDiff, Nat.reduceLT, reduceIte, reduceCtorEq, Nat.succ_ne_zero, elemsC, Int.reduceToNat, Nat.reducePow, i0, i1, i13, iO, i15, i14, hbq]) | (simp (disch := (first | omega | (simp only [AL, List.length_map]; omega))) only [AR, AL, ifT, ifF, take_all, List.length_cons, List.length_nil, Int.reduceToNat, Int.reducePow, Nat.reducePow, i0, i1, i13, iO, i15, i14, hbq]) | (refine wk_intro (by kernel_rfl) ?_) | (refine vp_draw (l := []) (by kernel_rfl) ?_) | (refine vf_of (by first | exact hA) ?_))
            rintro s' ⟨j0, j1, j13, jO, j15, j14⟩
            have hrl := hlen (R * 2 + B) (by omega)
            have hC := ref1_Cmp (lim (R * 2 + B)) ys (okL_lim _) hy (by omega) (by omega)
            have hSb := ref1_Sub (lim (R * 2 + B)) ys (okL_lim _) hy (by omega) (by omega)
            rw [wth_lim, hY] at hC hSb
            clear hlen hrl hS hand
            by_cases hYR : Y ≤ R * 2 + B
            · have hc : decide (cmpN (R * 2 + B) Y ≥ 0) = true := by
                have := cmpN_ge hYR
                rw [decide_eq_false_iff_not] at this
                exact decide_eq_true (by omega)
              rw [if_pos hYR] at hst1 hst2
              obtain ⟨hb1, hb3, hb4⟩ := hbs
              have hp2 : 2 ^ (J % 32) < 4294967296 := show 2 ^ (J % 32) < 2 ^ 32 from Nat.pow_lt_pow_right (by omega) hj
              have hsh : IntKind.u32.wrap (1 * ((2 ^ (J % 32) : Nat) : Int)) = ((2 ^ (J % 32) : Nat) : Int) := by rw [Int.one_mul, u32_nat, Nat.mod_eq_of_lt hp2]
              first | (exfalso; omega) | skip
              all_goals
                repeat (first | (simp only [go_sem, Nat.reduceEqDiff, Nat.reduceAdd, Nat.reduceSub, Nat.reduceMul, Nat.reduceLeDiff, Nat.reduceLT, reduceIte, reduceCtorEq, Nat.succ_ne_zero, elemsC, Int.reduceToNat, Nat.reducePow, j0, j1, j13, jO, j15, j14, hc, tdiv32, tmod32, hmin, hsh, hb1]) | (simp (disch := (first | omega | (simp only [AL, List.length_map]; omega))) only [AR, AL, ifT, ifF, take_all, List.length_cons, List.length_nil, Int.reduceToNat, Int.reducePow, Nat.reducePow, j0, j1, j13, jO, j15, j14, hc, tdiv32, tmod32, hmin, hsh, hb1]) | (refine wk_intro (by kernel_rfl) ?_) | (refine vp_draw (l := []) (by kernel_rfl) ?_) | (refine vf_of (by first | exact hC | exact hSb) ?_))
                refine ⟨⟨q.set (J / 32) (q.getD (J / 32) 0 + 2 ^ (J % 32)), J, R * 2 + B - Y, rfl, rfl, .inr rfl, by rw [List.length_set]; exact hql, okL_set hqk _ _ hb3, by omega, hst1.symm, ?_⟩, by omega⟩
                rw [hb4, hst2]
            · have hc : decide (cmpN (R * 2 + B) Y ≥ 0) = false := by
                rw [cmpN_lt (by omega)]; rfl
              rw [if_neg hYR] at hst1 hst2
              repeat (first | (simp only [go_sem, Nat.reduceEqDiff, Nat.reduceAdd, Nat.reduceSub, Nat.reduceMul, Nat.reduceLeDiff, Nat.reduceLT, reduceIte, reduceCtorEq, Nat.succ_ne_zero, elemsC, Int.reduceToNat, Nat.reducePow, j0, j1, j13, jO, j15, j14, hc]) | (simp (disch := (first | omega | (simp only [AL, List.length_map]; omega))) only [AR, AL, ifT, ifF, take_all, List.length_cons, List.length_nil, Int.reduceToNat, Int.reducePow, Nat.reducePow, j0, j1, j13, jO, j15, j14, hc]) | (refine wk_intro (by kernel_rfl) ?_) | (refine vp_draw (l := []) (by kernel_rfl) ?_) | (refine vf_of (by first | exact hC) ?_))
              refine ⟨⟨q, J, R * 2 + B, rfl, rfl, .inr rfl, hql, hqk, by omega, hst1.symm, ?_⟩, by omega⟩
              rw [hqv, hst2]
              show X / 2 ^ (J + 1) / Y * 2 ^ (J + 1) = 2 * (X / 2 ^ (J + 1) / Y) * 2 ^ J
              generalize X / 2 ^ (J + 1) / Y = Qv
              rw [Nat.pow_succ', ← Nat.mul_assoc, Nat.mul_comm Qv]
theorem ref1_Gcd (xs ys : List Nat) (hx : okL xs) (hy : okL ys) (hl : xs.length ≤ 16777216) (hm : ys.length ≤ 16777216) :
    Go.Ev.Fn CX 72 [natV xs, natV ys] (natV (lim (Nat.gcd (wth xs) (wth ys)))) := by
  refine Go.Ev.Fn.intro (fn := Tryz.f72) (body := (Tryz.f72).body.get!) (by kernel_rfl) (by kernel_rfl) (by kernel_rfl) (fun _ => rfl) (Nat.le_of_ble_eq_true (by kernel_rfl)) ?_; unfold Tryz.f72; simp only [Option.get!_some]
  have lx := lim_length_le hx
  have ly := lim_length_le hy
  repeat (first | (simp only [go_sem, Nat.reduceEqDiff, Nat.reduceAdd, Nat.reduceSub, Nat.reduceMul, Nat.reduceLeDiff, Nat.reduceLT, reduceIte, reduceCtorEq, Nat.succ_ne_zero, elemsC, Int.reduceToNat, Nat.reducePow]) | (simp (disch := (first | omega | (simp only [AL, List.length_map]; omega))) only [AR, AL, ifT, ifF, take_all, List.length_cons, List.length_nil, Int.reduceToNat, Int.reducePow, Nat.reducePow]) | (refine wk_intro (by kernel_rfl) ?_) | (refine vp_draw (l := []) (by kernel_rfl) ?_))
  refine vf_of (ref1_Trim xs hx (by omega)) ?_; repeat (first | (simp only [go_sem, Nat.reduceEqDiff, Nat.reduceAdd, Nat.reduceSub, Nat.reduceMul, Nat.reduceLeDiff, Nat.reduceLT, reduceIte, reduceCtorEq, Nat.succ_ne_zero, elemsC, Int.reduceToNat, Nat.reducePow]) | (simp (disch := (first | omega | (simp only [AL, List.length_map]; omega))) only [AR, AL, ifT, ifF, take_all, List.length_cons, List.length_nil, Int.reduceToNat, Int.reducePow, Nat.reducePow]) | (refine wk_intro (by kernel_rfl) ?_) | (refine vp_draw (l := []) (by kernel_rfl) ?_))
  refine vf_of (ref1_Trim ys hy (by omega)) ?_; repeat (first | (simp only [go_sem, Nat.reduceEqDiff, Nat.reduceAdd, Nat.reduceSub, Nat.reduceMul, Nat.reduceLeDiff, Nat.reduceLT, reduceIte, reduceCtorEq, Nat.succ_ne_zero, elemsC, Int.reduceToNat, Nat.reducePow]) | (simp (disch := (first | omega | (simp only [AL, List.length_map]; omega))) only [AR, AL, ifT, ifF, take_all, List.length_cons, List.length_nil, Int.reduceToNat, Int.reducePow, Nat.reducePow]) | (refine wk_intro (by kernel_rfl) ?_) | (refine vp_draw (l := []) (by kernel_rfl) ?_))
  refine vp_loop_inv (fun s => ∃ a b : Nat, s.tmp 5 = .sv (natV (lim a)) ∧ s.tmp 6 = .sv (natV (lim b)) ∧ (lim a).length ≤ 16777216 ∧ (lim b).length ≤ 16777216 ∧ Nat.gcd a b = Nat.gcd (wth xs) (wth ys))
    (fun s => match s.tmp 6 with | .sv (.sl _ cs) => (match decL cs with | some l => wth l | none => 0) | _ => 0) ⟨_, _, rfl, rfl, by omega, by omega, rfl⟩ ?_
  rintro s ⟨a, b, i0, i1, la, lb, hg⟩
  by_cases hb : b = 0
  · subst hb
    rw [lim_zero] at i1
    rw [← hg, Nat.gcd_zero_right]
    repeat (first | (simp only [go_sem, Nat.reduceEqDiff, Nat.reduceAdd, Nat.reduceSub, Nat.reduceMul, Nat.reduceLeDiff, Nat.reduceLT, reduceIte, reduceCtorEq, Nat.succ_ne_zero, elemsC, Int.reduceToNat, Nat.reducePow, i0, i1]) | (simp (disch := (first | omega | (simp only [AL, List.length_map]; omega))) only [AR, AL, ifT, ifF, take_all, List.length_cons, List.length_nil, Int.reduceToNat, Int.reducePow, Nat.reducePow, i0, i1]) | (refine wk_intro (by kernel_rfl) ?_) | (refine vp_draw (l := []) (by kernel_rfl) ?_))
  · have h1 : 0 < (lim b).length := List.length_pos_iff.2 (fun h => hb (lim_eq_nil.1 h))
    repeat (first | (simp only [go_sem, Nat.reduceEqDiff, Nat.reduceAdd, Nat.reduceSub, Nat.reduceMul, Nat.reduceLeDiff, Nat.reduceLT, reduceIte, reduceCtorEq, Nat.succ_ne_zero, elemsC, Int.reduceToNat, Nat.reducePow, i0, i1]) | (simp (disch := (first | omega | (simp only [AL, List.length_map]; omega))) only [AR, AL, ifT, ifF, take_all, List.length_cons, List.length_nil, Int.reduceToNat, Int.reducePow, Nat.reducePow, i0, i1]) | (refine wk_intro (by kernel_rfl) ?_) | (refine vp_draw (l := []) (by kernel_rfl) ?_))
    refine vf_of (ref1_DivMod (lim a) (lim b) (okL_lim a) (okL_lim b) la lb) ?_; repeat (first | (simp only [go_sem, Nat.reduceEqDiff, Nat.reduceAdd, Nat.reduceSub, Nat.reduceMul, Nat.reduceLeDiff, Nat.reduceLT, reduceIte, reduceCtorEq, Nat.succ_ne_zero, elemsC, Int.reduceToNat, Nat.reducePow, i0, i1]) | (simp (disch := (first | omega | (simp only [AL, List.length_map]; omega))) only [AR, AL, ifT, ifF, take_all, List.length_cons, List.length_nil, Int.reduceToNat, Int.reducePow, Nat.reducePow, i0, i1]) | (refine wk_intro (by kernel_rfl) ?_) | (refine vp_draw (l := []) (by kernel_rfl) ?_))
    have e1 : remN (wth (lim a)) (wth (lim b)) = a % b := by rw [wth_lim, wth_lim]; exact if_neg hb
    rw [e1, decL_map (okL_lim _), decL_map (okL_lim _)]
    dsimp only
    rw [wth_lim, wth_lim]
    have h2 : a % b < b := Nat.mod_lt _ (by omega)
    have h3 := trimL_length (okL_lim (a % b)) (okL_lim b) (trimL_lim _) (by rw [wth_lim, wth_lim]; omega)
    refine ⟨⟨b, a % b, rfl, rfl, lb, by omega, ?_⟩, h2⟩
    rw [← hg, Nat.gcd_comm b, ← Nat.gcd_rec, Nat.gcd_comm]
end Go.Proofs.YtkkmnjhecjkhgaaGreatDoor
namespace Go.Proofs.YtkkmnjhecjkhgaaGreatDoor
open Go.Ev
attribute [go_sem] List.head?_cons List.head?_nil
theorem nat_GcdL {N D : Nat} (hl : (lim N).length ≤ 536870912) (hm : (lim D).length ≤ 536870912) : Go.Ev.Fn CX 126 [natV (lim N), natV (lim D)] (natV (lim (N.gcd D))) := by
  have h := nat_Gcd (lim N) (lim D) (okL_lim _) (okL_lim _) hl hm
  rwa [wth_lim, wth_lim] at h
theorem nat_DivL {N D : Nat} (hD : D ≠ 0) (hl : (lim N).length ≤ 536870912) (hm : (lim D).length ≤ 536870912) : Go.Ev.Fn CX 127 [natV (lim N), natV (lim D)] (.tup [natV (lim (N / D)), natV (lim (N % D)), .bool true]) := by
  have h := nat_DivMod (lim N) (lim D) (okL_lim _) (okL_lim _) hl hm
  rwa [wth_lim, wth_lim, show remN N D = N % D from if_neg hD, decide_eq_true hD] at h
theorem nat_MulL {N D : Nat} (hl : (lim N).length ≤ 536870912) (hm : (lim D).length ≤ 536870912) : Go.Ev.Fn CX 93 [natV (lim N), natV (lim D)] (natV (lim (N * D))) := by
  have h := nat_Mul (lim N) (lim D) (okL_lim _) (okL_lim _) (by omega) (by omega)
  rwa [wth_lim, wth_lim] at h
theorem nat_AddL {N D : Nat} (hl : (lim N).length ≤ 536870912) (hm : (lim D).length ≤ 536870912) : Go.Ev.Fn CX 125 [natV (lim N), natV (lim D)] (natV (lim (N + D))) := by
  have h := nat_Add (lim N) (lim D) (okL_lim _) (okL_lim _) (by omega) (by omega)
  rwa [wth_lim, wth_lim] at h
theorem ref1_GcdL {N D : Nat} (hl : (lim N).length ≤ 16777216) (hm : (lim D).length ≤ 16777216) : Go.Ev.Fn CX 72 [natV (lim N), natV (lim D)] (natV (lim (N.gcd D))) := by
  have h := ref1_Gcd (lim N) (lim D) (okL_lim _) (okL_lim _) hl hm
  rwa [wth_lim, wth_lim] at h
theorem ref1_DivL {N D : Nat} (hD : D ≠ 0) (hl : (lim N).length ≤ 16777216) (hm : (lim D).length ≤ 16777216) : Go.Ev.Fn CX 73 [natV (lim N), natV (lim D)] (.tup [natV (lim (N / D)), natV (lim (N % D)), .bool true]) := by
  have h := ref1_DivMod (lim N) (lim D) (okL_lim _) (okL_lim _) hl hm
  rwa [wth_lim, wth_lim, show remN N D = N % D from if_neg hD, decide_eq_true hD] at h
theorem ref1_MulL {N D : Nat} (hl : (lim N).length ≤ 16777216) (hm : (lim D).length ≤ 16777216) : Go.Ev.Fn CX 61 [natV (lim N), natV (lim D)] (natV (lim (N * D))) := by
  have h := ref1_Mul (lim N) (lim D) (okL_lim _) (okL_lim _) (by omega) (by omega)
  rwa [wth_lim, wth_lim] at h
theorem nat_CmpL {N D : Nat} (hl : (lim N).length ≤ 536870912) (hm : (lim D).length ≤ 536870912) : Go.Ev.Fn CX 80 [natV (lim N), natV (lim D)] (.int .i64 (cmpN N D)) := by
  have h := nat_Cmp (lim N) (lim D) (okL_lim _) (okL_lim _) (by omega) (by omega)
  rwa [wth_lim, wth_lim] at h
theorem lim_pos {N : Nat} (h : N ≠ 0) : 0 < (lim N).length := List.length_pos_iff.2 (fun e => h (lim_eq_nil.1 e))
theorem rat_Of (s : Bool) (n d : List Nat) (hn : okL n) (hd : okL d) (hl : n.length ≤ 536870912) (hm : d.length ≤ 536870912) :
    Go.Ev.Fn CX 88 [.bool s, natV n, natV d] (rv (mkRat (sgn s (wth n)) (wth d))) := by
  refine Go.Ev.Fn.intro (fn := Tryz.f88) (body := (Tryz.f88).body.get!) (by kernel_rfl) (by kernel_rfl) (by kernel_rfl) (fun _ => rfl) (Nat.le_of_ble_eq_true (by kernel_rfl)) ?_; unfold Tryz.f88; simp only [Option.get!_some]
  have lx := lim_length_le hn
  have ly := lim_length_le hd
  repeat (first | (simp only [go_sem, Nat.reduceEqDiff, Nat.reduceAdd, Nat.reduceSub, Nat.reduceMul, Nat.reduceLeDiff, Nat.reduceLT, reduceIte, reduceCtorEq, Nat.succ_ne_zero, elemsC, Int.reduceToNat, Nat.reducePow]) | (simp (disch := (first | omega | (simp only [AL, List.length_map]; omega))) only [AR, AL, ifT, ifF, take_all, List.length_cons, List.length_nil, Int.reduceToNat, Int.reducePow, Nat.reducePow]) | (refine wk_intro (by kernel_rfl) ?_) | (refine vp_draw (l := []) (by kernel_rfl) ?_))
  refine vf_of (nat_Trim n hn (by omega)) ?_; repeat (first | (simp only [go_sem, Nat.reduceEqDiff, Nat.reduceAdd, Nat.reduceSub, Nat.reduceMul, Nat.reduceLeDiff, Nat.reduceLT, reduceIte, reduceCtorEq, Nat.succ_ne_zero, elemsC, Int.reduceToNat, Nat.reducePow]) | (simp (disch := (first | omega | (simp only [AL, List.length_map]; omega))) only [AR, AL, ifT, ifF, take_all, List.length_cons, List.length_nil, Int.reduceToNat, Int.reducePow, Nat.reducePow]) | (refine wk_intro (by kernel_rfl) ?_) | (refine vp_draw (l := []) (by kernel_rfl) ?_))
  refine vf_of (nat_Trim d hd (by omega)) ?_; repeat (first | (simp only [go_sem, Nat.reduceEqDiff, Nat.reduceAdd, Nat.reduceSub, Nat.reduceMul, Nat.reduceLeDiff, Nat.reduceLT, reduceIte, reduceCtorEq, Nat.succ_ne_zero, elemsC, Int.reduceToNat, Nat.reducePow]) | (simp (disch := (first | omega | (simp only [AL, List.length_map]; omega))) only [AR, AL, ifT, ifF, take_all, List.length_cons, List.length_nil, Int.reduceToNat, Int.reducePow, Nat.reducePow]) | (refine wk_intro (by kernel_rfl) ?_) | (refine vp_draw (l := []) (by kernel_rfl) ?_))
  generalize wth n = N at *
  generalize wth d = D at *
  have oN := okL_lim N
  have oD := okL_lim D
  by_cases h : N = 0 ∨ D = 0
  · rw [mk_zero s h, rv_zero]
    have o1 := nat_Of 1 (by omega)
    rw [lim_one] at o1
    by_cases hN : N = 0
    · have h0 : (lim N).length = 0 := by rw [hN, lim_zero]; rfl
      repeat (first | (simp only [go_sem, Nat.reduceEqDiff, Nat.reduceAdd, Nat.reduceSub, Nat.reduceMul, Nat.reduceLeDiff, Nat.reduceLT, reduceIte, reduceCtorEq, Nat.succ_ne_zero, elemsC, Int.reduceToNat, Nat.reducePow]) | (simp (disch := (first | omega | (simp only [AL, List.length_map]; omega))) only [AR, AL, ifT, ifF, take_all, List.length_cons, List.length_nil, Int.reduceToNat, Int.reducePow, Nat.reducePow]) | (refine wk_intro (by kernel_rfl) ?_) | (refine vp_draw (l := []) (by kernel_rfl) ?_) | (refine vf_of (by first | exact o1) ?_))
      rfl
    · have h0 : (lim D).length = 0 := by rw [h.resolve_left hN, lim_zero]; rfl
      have h1 := lim_pos hN
      repeat (first | (simp only [go_sem, Nat.reduceEqDiff, Nat.reduceAdd, Nat.reduceSub, Nat.reduceMul, Nat.reduceLeDiff, Nat.reduceLT, reduceIte, reduceCtorEq, Nat.succ_ne_zero, elemsC, Int.reduceToNat, Nat.reducePow]) | (simp (disch := (first | omega | (simp only [AL, List.length_map]; omega))) only [AR, AL, ifT, ifF, take_all, List.length_cons, List.length_nil, Int.reduceToNat, Int.reducePow, Nat.reducePow]) | (refine wk_intro (by kernel_rfl) ?_) | (refine vp_draw (l := []) (by kernel_rfl) ?_) | (refine vf_of (by first | exact o1) ?_))
      rfl
  · have hN : N ≠ 0 := fun e => h (.inl e)
    have hD : D ≠ 0 := fun e => h (.inr e)
    rw [mk_parts s hN hD]
    have h1 := lim_pos hN
    have h2 := lim_pos hD
    have hg : N.gcd D ≠ 0 := Nat.ne_of_gt (Nat.gcd_pos_of_pos_left _ (by omega))
    have h3 := lim_len_mono (Nat.gcd_le_left D (by omega : 0 < N))
    repeat (first | (simp only [go_sem, Nat.reduceEqDiff, Nat.reduceAdd, Nat.reduceSub, Nat.reduceMul, Nat.reduceLeDiff, Nat.reduceLT, reduceIte, reduceCtorEq, Nat.succ_ne_zero, elemsC, Int.reduceToNat, Nat.reducePow]) | (simp (disch := (first | omega | (simp only [AL, List.length_map]; omega))) only [AR, AL, ifT, ifF, take_all, List.length_cons, List.length_nil, Int.reduceToNat, Int.reducePow, Nat.reducePow]) | (refine wk_intro (by kernel_rfl) ?_) | (refine vp_draw (l := []) (by kernel_rfl) ?_))
    refine vf_of (nat_GcdL (by omega) (by omega)) ?_; repeat (first | (simp only [go_sem, Nat.reduceEqDiff, Nat.reduceAdd, Nat.reduceSub, Nat.reduceMul, Nat.reduceLeDiff, Nat.reduceLT, reduceIte, reduceCtorEq, Nat.succ_ne_zero, elemsC, Int.reduceToNat, Nat.reducePow]) | (simp (disch := (first | omega | (simp only [AL, List.length_map]; omega))) only [AR, AL, ifT, ifF, take_all, List.length_cons, List.length_nil, Int.reduceToNat, Int.reducePow, Nat.reducePow]) | (refine wk_intro (by kernel_rfl) ?_) | (refine vp_draw (l := []) (by kernel_rfl) ?_))
    refine vf_of (nat_DivL hg (by omega) (by omega)) ?_; repeat (first | (simp only [go_sem, Nat.reduceEqDiff, Nat.reduceAdd, Nat.reduceSub, Nat.reduceMul, Nat.reduceLeDiff, Nat.reduceLT, reduceIte, reduceCtorEq, Nat.succ_ne_zero, elemsC, Int.reduceToNat, Nat.reducePow]) | (simp (disch := (first | omega | (simp only [AL, List.length_map]; omega))) only [AR, AL, ifT, ifF, take_all, List.length_cons, List.length_nil, Int.reduceToNat, Int.reducePow, Nat.reducePow]) | (refine wk_intro (by kernel_rfl) ?_) | (refine vp_draw (l := []) (by kernel_rfl) ?_))
    refine vf_of (nat_DivL hg (by omega) (by omega)) ?_; repeat (first | (simp only [go_sem, Nat.reduceEqDiff, Nat.reduceAdd, Nat.reduceSub, Nat.reduceMul, Nat.reduceLeDiff, Nat.reduceLT, reduceIte, reduceCtorEq, Nat.succ_ne_zero, elemsC, Int.reduceToNat, Nat.reducePow]) | (simp (disch := (first | omega | (simp only [AL, List.length_map]; omega))) only [AR, AL, ifT, ifF, take_all, List.length_cons, List.length_nil, Int.reduceToNat, Int.reducePow, Nat.reducePow]) | (refine wk_intro (by kernel_rfl) ?_) | (refine vp_draw (l := []) (by kernel_rfl) ?_))
theorem rat_Norm {v : SV} {q : Rat} {L : Nat} (h : RatA v q L) (hL : L ≤ 536870912) : Go.Ev.Fn CX 77 [v] (rv q) := by
  obtain ⟨s, n, d, rfl, hn, hd, hl, hm, rfl⟩ := h
  refine Go.Ev.Fn.intro (fn := Tryz.f77) (body := (Tryz.f77).body.get!) (by kernel_rfl) (by kernel_rfl) (by kernel_rfl) (fun _ => rfl) (Nat.le_of_ble_eq_true (by kernel_rfl)) ?_; unfold Tryz.f77; simp only [Option.get!_some]
  repeat (first | (simp only [go_sem, Nat.reduceEqDiff, Nat.reduceAdd, Nat.reduceSub, Nat.reduceMul, Nat.reduceLeDiff, Nat.reduceLT, reduceIte, reduceCtorEq, Nat.succ_ne_zero, elemsC, Int.reduceToNat, Nat.reducePow]) | (simp (disch := (first | omega | (simp only [AL, List.length_map]; omega))) only [AR, AL, ifT, ifF, take_all, List.length_cons, List.length_nil, Int.reduceToNat, Int.reducePow, Nat.reducePow]) | (refine wk_intro (by kernel_rfl) ?_) | (refine vp_draw (l := []) (by kernel_rfl) ?_))
  refine vf_of (rat_Of s n d hn hd (by omega) (by omega)) ?_; repeat (first | (simp only [go_sem, Nat.reduceEqDiff, Nat.reduceAdd, Nat.reduceSub, Nat.reduceMul, Nat.reduceLeDiff, Nat.reduceLT, reduceIte, reduceCtorEq, Nat.succ_ne_zero, elemsC, Int.reduceToNat, Nat.reducePow]) | (simp (disch := (first | omega | (simp only [AL, List.length_map]; omega))) only [AR, AL, ifT, ifF, take_all, List.length_cons, List.length_nil, Int.reduceToNat, Int.reducePow, Nat.reducePow]) | (refine wk_intro (by kernel_rfl) ?_) | (refine vp_draw (l := []) (by kernel_rfl) ?_))
theorem int_u64 {n : Int} (h : -9223372036854775808 ≤ n ∧ n < 9223372036854775808) : IntKind.u64.wrap n = ((if n < 0 then 18446744073709551616 - n.natAbs else n.natAbs : Nat) : Int) := by
  rw [IntKind.wrap_u64]
  split <;> omega
theorem rat_Int (n : Int) (h : -9223372036854775808 ≤ n ∧ n < 9223372036854775808) : Go.Ev.Fn CX 53 [.int .i64 n] (rv (n : Rat)) := by
  refine Go.Ev.Fn.intro (fn := Tryz.f53) (body := (Tryz.f53).body.get!) (by kernel_rfl) (by kernel_rfl) (by kernel_rfl) (fun _ => rfl) (Nat.le_of_ble_eq_true (by kernel_rfl)) ?_; unfold Tryz.f53; simp only [Option.get!_some]
  have o1 := nat_Of 1 (by omega)
  have oN := nat_Of n.natAbs (by omega)
  have e1 := int_u64 h
  show WP CX _ _ (RQ _ _ (ratV (decide (n < 0)) (lim n.natAbs) (lim 1)))
  by_cases h0 : n < 0
  · rw [if_pos h0] at e1
    have e2 : IntKind.u64.wrap (0 - ((18446744073709551616 - n.natAbs : Nat) : Int)) = (n.natAbs : Int) := by rw [IntKind.wrap_u64]; omega
    repeat (first | (simp only [go_sem, Nat.reduceEqDiff, Nat.reduceAdd, Nat.reduceSub, Nat.reduceMul, Nat.reduceLeDiff, Nat.reduceLT, reduceIte, reduceCtorEq, Nat.succ_ne_zero, elemsC, Int.reduceToNat, Nat.reducePow, e1, e2]) | (simp (disch := (first | omega | (simp only [AL, List.length_map]; omega))) only [AR, AL, ifT, ifF, take_all, List.length_cons, List.length_nil, Int.reduceToNat, Int.reducePow, Nat.reducePow, e1, e2]) | (refine wk_intro (by kernel_rfl) ?_) | (refine vp_draw (l := []) (by kernel_rfl) ?_) | (refine vf_of (by first | exact oN | exact o1) ?_))
  · rw [if_neg h0] at e1
    repeat (first | (simp only [go_sem, Nat.reduceEqDiff, Nat.reduceAdd, Nat.reduceSub, Nat.reduceMul, Nat.reduceLeDiff, Nat.reduceLT, reduceIte, reduceCtorEq, Nat.succ_ne_zero, elemsC, Int.reduceToNat, Nat.reducePow, e1]) | (simp (disch := (first | omega | (simp only [AL, List.length_map]; omega))) only [AR, AL, ifT, ifF, take_all, List.length_cons, List.length_nil, Int.reduceToNat, Int.reducePow, Nat.reducePow, e1]) | (refine wk_intro (by kernel_rfl) ?_) | (refine vp_draw (l := []) (by kernel_rfl) ?_) | (refine vf_of (by first | exact oN | exact o1) ?_))
end Go.Proofs.YtkkmnjhecjkhgaaGreatDoor
namespace Go.Proofs.YtkkmnjhecjkhgaaGreatDoor
open Go.Ev
theorem rat_OfL {s : Bool} {n d : Nat} (hl : (lim n).length ≤ 536870912) (hm : (lim d).length ≤ 536870912) :
    Go.Ev.Fn CX 88 [.bool s, natV (lim n), natV (lim d)] (rv (mkRat (sgn s n) d)) := by
  have h := rat_Of s (lim n) (lim d) (okL_lim _) (okL_lim _) hl hm
  rwa [wth_lim, wth_lim] at h
theorem mul_parts (q r : Rat) : mkRat (sgn (!(decide (q.num < 0) == decide (r.num < 0))) (q.num.natAbs * r.num.natAbs)) (q.den * r.den) = q * r := by
  have h := sgn_mul q.num r.num
  rw [show (!(decide (q.num < 0) == decide (r.num < 0))) = (decide (q.num < 0) != decide (r.num < 0)) from rfl, h, ← Rat.mkRat_mul_mkRat, Rat.mkRat_self, Rat.mkRat_self]
theorem rat_Mul {v w : SV} {q r : Rat} {L M : Nat} (hv : RatA v q L) (hw : RatA w r M) (hL : 1 ≤ L) (hM : 1 ≤ M) (h : L + M ≤ 268435456) : Go.Ev.Fn CX 60 [v, w] (rv (q * r)) := by
  have hnv := rat_Norm hv (by omega)
  have hnw := rat_Norm hw (by omega)
  obtain ⟨z1, z2⟩ := szR_of hv hL
  obtain ⟨y1, y2⟩ := szR_of hw hM
  have g1 := lim_len_mul (a := q.num.natAbs) (b := r.num.natAbs)
  have g2 := lim_len_mul (a := q.den) (b := r.den)
  have hOf := rat_OfL (s := !(decide (q.num < 0) == decide (r.num < 0))) (n := q.num.natAbs * r.num.natAbs) (d := q.den * r.den) (by omega) (by omega)
  rw [mul_parts] at hOf
  obtain ⟨s, n, d, rfl, -⟩ := hv
  obtain ⟨s', n', d', rfl, -⟩ := hw
  refine Go.Ev.Fn.intro (fn := Tryz.f60) (body := (Tryz.f60).body.get!) (by kernel_rfl) (by kernel_rfl) (by kernel_rfl) (fun _ => rfl) (Nat.le_of_ble_eq_true (by kernel_rfl)) ?_; unfold Tryz.f60; simp only [Option.get!_some]
  repeat (first | (simp only [go_sem, Nat.reduceEqDiff, Nat.reduceAdd, Nat.reduceSub, Nat.reduceMul, Nat.reduceLeDiff, Nat.reduceLT, reduceIte, reduceCtorEq, Nat.succ_ne_zero, elemsC, Int.reduceToNat, Nat.reducePow]) | (simp (disch := (first | omega | (simp only [AL, List.length_map]; omega))) only [AR, AL, ifT, ifF, take_all, List.length_cons, List.length_nil, Int.reduceToNat, Int.reducePow, Nat.reducePow]) | (refine wk_intro (by kernel_rfl) ?_) | (refine vp_draw (id := 1) (l := []) (by kernel_rfl) ?_) | (refine vp_draw (id := 2) (l := [15, 17, 20, 22, 18, 23]) (by kernel_rfl) ?_) | (refine vf_of (by first | exact hnv | exact hnw) ?_))
  refine vf_of (nat_MulL (by omega) (by omega)) ?_; repeat (first | (simp only [go_sem, Nat.reduceEqDiff, Nat.reduceAdd, Nat.reduceSub, Nat.reduceMul, Nat.reduceLeDiff, Nat.reduceLT, reduceIte, reduceCtorEq, Nat.succ_ne_zero, elemsC, Int.reduceToNat, Nat.reducePow]) | (simp (disch := (first | omega | (simp only [AL, List.length_map]; omega))) only [AR, AL, ifT, ifF, take_all, List.length_cons, List.length_nil, Int.reduceToNat, Int.reducePow, Nat.reducePow]) | (refine wk_intro (by kernel_rfl) ?_) | (refine vp_draw (id := 1) (l := []) (by kernel_rfl) ?_) | (refine vp_draw (id := 2) (l := [15, 17, 20, 22, 18, 23]) (by kernel_rfl) ?_))
  refine vf_of (nat_MulL (by omega) (by omega)) ?_; repeat (first | (simp only [go_sem, Nat.reduceEqDiff, Nat.reduceAdd, Nat.reduceSub, Nat.reduceMul, Nat.reduceLeDiff, Nat.reduceLT, reduceIte, reduceCtorEq, Nat.succ_ne_zero, elemsC, Int.reduceToNat, Nat.reducePow]) | (simp (disch := (first | omega | (simp only [AL, List.length_map]; omega))) only [AR, AL, ifT, ifF, take_all, List.length_cons, List.length_nil, Int.reduceToNat, Int.reducePow, Nat.reducePow]) | (refine wk_intro (by kernel_rfl) ?_) | (refine vp_draw (id := 1) (l := []) (by kernel_rfl) ?_) | (refine vp_draw (id := 2) (l := [15, 17, 20, 22, 18, 23]) (by kernel_rfl) ?_))
  refine vf_of (hOf) ?_; repeat (first | (simp only [go_sem, Nat.reduceEqDiff, Nat.reduceAdd, Nat.reduceSub, Nat.reduceMul, Nat.reduceLeDiff, Nat.reduceLT, reduceIte, reduceCtorEq, Nat.succ_ne_zero, elemsC, Int.reduceToNat, Nat.reducePow]) | (simp (disch := (first | omega | (simp only [AL, List.length_map]; omega))) only [AR, AL, ifT, ifF, take_all, List.length_cons, List.length_nil, Int.reduceToNat, Int.reducePow, Nat.reducePow]) | (refine wk_intro (by kernel_rfl) ?_) | (refine vp_draw (id := 1) (l := []) (by kernel_rfl) ?_) | (refine vp_draw (id := 2) (l := [15, 17, 20, 22, 18, 23]) (by kernel_rfl) ?_))
theorem beq_bool (a b : Bool) : (a == b) = decide (a = b) := by cases a <;> cases b <;> rfl
theorem num_zero {q : Rat} : q.num = 0 ↔ q = 0 := Rat.num_eq_zero
theorem div_parts {q r : Rat} (hr : r ≠ 0) : q / r = q * mkRat (sgn (decide (r.num < 0)) r.den) r.num.natAbs := by
  rw [Rat.div_def]
  congr 1
  rw [Rat.inv_def]
  have h0 : r.num ≠ 0 := fun e => hr (num_zero.1 e)
  by_cases h : r.num < 0
  · rw [decide_eq_true h]
    obtain ⟨k, hk⟩ : ∃ k : Nat, r.num = Int.negSucc k := ⟨r.num.natAbs - 1, by omega⟩
    rw [hk, show (Int.negSucc k).natAbs = k + 1 from rfl]
    show Rat.normalize (-(r.den : Int)) (k + 1) (Nat.succ_ne_zero k) = mkRat (-(r.den : Int)) (k + 1)
    rw [Rat.normalize_eq_mkRat]
  · rw [decide_eq_false h]
    obtain ⟨m, hm⟩ : ∃ m : Nat, r.num = (m : Int) := ⟨r.num.natAbs, by omega⟩
    rw [hm, Int.natAbs_natCast, Rat.divInt_ofNat]
    rfl
theorem rat_Div {v w : SV} {q r : Rat} {L M : Nat} (hv : RatA v q L) (hw : RatA w r M) (hL : 1 ≤ L) (hM : 1 ≤ M) (h : L + M ≤ 268435456) : Go.Ev.Fn CX 58 [v, w] (.tup [rv (q / r), .bool (decide (r ≠ 0))]) := by
  have hnw := rat_Norm hw (by omega)
  obtain ⟨y1, y2⟩ := szR_of hw hM
  have h0 := rat_Int 0 (by omega)
  have hMul : r ≠ 0 → _ := fun hr => rat_Mul (w := ratV (decide (r.num < 0)) (lim r.den) (lim r.num.natAbs)) hv ⟨_, _, _, rfl, okL_lim _, okL_lim _, y2, y1, by rw [wth_lim, wth_lim]⟩ hL hM h
  obtain ⟨s, n, d, rfl, -⟩ := hv
  obtain ⟨s', n', d', rfl, -⟩ := hw
  refine Go.Ev.Fn.intro (fn := Tryz.f58) (body := (Tryz.f58).body.get!) (by kernel_rfl) (by kernel_rfl) (by kernel_rfl) (fun _ => rfl) (Nat.le_of_ble_eq_true (by kernel_rfl)) ?_; unfold Tryz.f58; simp only [Option.get!_some]
  by_cases hr : r = 0
  · have hl : (lim r.num.natAbs).length = 0 := by rw [num_zero.2 hr]; simp [lim_zero]
    rw [decide_eq_false (fun e => e hr), hr, Rat.div_def, Rat.inv_zero, Rat.mul_zero]
    subst hr
    repeat (first | (simp only [go_sem, Nat.reduceEqDiff, Nat.reduceAdd, Nat.reduceSub, Nat.reduceMul, Nat.reduceLeDiff, Nat.reduceLT, reduceIte, reduceCtorEq, Nat.succ_ne_zero, elemsC, Int.reduceToNat, Nat.reducePow]) | (simp (disch := (first | omega | (simp only [AL, List.length_map]; omega))) only [AR, AL, ifT, ifF, take_all, List.length_cons, List.length_nil, Int.reduceToNat, Int.reducePow, Nat.reducePow]) | (refine wk_intro (by kernel_rfl) ?_) | (refine vf_of (by first | exact hnw | exact h0) ?_))
    rfl
  · have hl := lim_pos (N := r.num.natAbs) (fun e => hr (num_zero.1 (by omega)))
    have hMul := hMul hr
    rw [← div_parts hr] at hMul
    rw [decide_eq_true hr]
    repeat (first | (simp only [go_sem, Nat.reduceEqDiff, Nat.reduceAdd, Nat.reduceSub, Nat.reduceMul, Nat.reduceLeDiff, Nat.reduceLT, reduceIte, reduceCtorEq, Nat.succ_ne_zero, elemsC, Int.reduceToNat, Nat.reducePow]) | (simp (disch := (first | omega | (simp only [AL, List.length_map]; omega))) only [AR, AL, ifT, ifF, take_all, List.length_cons, List.length_nil, Int.reduceToNat, Int.reducePow, Nat.reducePow]) | (refine wk_intro (by kernel_rfl) ?_) | (refine vf_of (by first | exact hnw | exact hMul) ?_))
end Go.Proofs.YtkkmnjhecjkhgaaGreatDoor
namespace Go.Proofs.YtkkmnjhecjkhgaaGreatDoor
open Go.Ev
theorem ref2_Norm {v : SV} {q : Rat} {L : Nat} (h : RatA v q L) (hL : L ≤ 16777216) : Go.Ev.Fn CX 45 [v] (rv q) := by
  obtain ⟨s, n, d, rfl, hn, hd, hl, hm, rfl⟩ := h
  have lx := lim_length_le hn
  have ly := lim_length_le hd
  have tn := ref1_Trim n hn (by omega)
  have td := ref1_Trim d hd (by omega)
  refine Go.Ev.Fn.intro (fn := Tryz.f45) (body := (Tryz.f45).body.get!) (by kernel_rfl) (by kernel_rfl) (by kernel_rfl) (fun _ => rfl) (Nat.le_of_ble_eq_true (by kernel_rfl)) ?_; unfold Tryz.f45; simp only [Option.get!_some]
  generalize wth n = N at *
  generalize wth d = D at *
  repeat (first | (simp only [go_sem, Nat.reduceEqDiff, Nat.reduceAdd, Nat.reduceSub, Nat.reduceMul, Nat.reduceLeDiff, Nat.reduceLT, reduceIte, reduceCtorEq, Nat.succ_ne_zero, elemsC, Int.reduceToNat, Nat.reducePow]) | (simp (disch := (first | omega | (simp only [AL, List.length_map]; omega))) only [AR, AL, ifT, ifF, take_all, List.length_cons, List.length_nil, Int.reduceToNat, Int.reducePow, Nat.reducePow]) | (refine wk_intro (by kernel_rfl) ?_) | (refine vp_draw (id := 1) (l := [7, 10]) (by kernel_rfl) ?_) | (refine vf_of (by first | exact tn | exact td) ?_))
  by_cases h : N = 0 ∨ D = 0
  · rw [mk_zero s h, rv_zero]
    by_cases hD : D = 0
    · have h0 : (lim D).length = 0 := by rw [hD, lim_zero]; rfl
      repeat (first | (simp only [go_sem, Nat.reduceEqDiff, Nat.reduceAdd, Nat.reduceSub, Nat.reduceMul, Nat.reduceLeDiff, Nat.reduceLT, reduceIte, reduceCtorEq, Nat.succ_ne_zero, elemsC, Int.reduceToNat, Nat.reducePow]) | (simp (disch := (first | omega | (simp only [AL, List.length_map]; omega))) only [AR, AL, ifT, ifF, take_all, List.length_cons, List.length_nil, Int.reduceToNat, Int.reducePow, Nat.reducePow]) | (refine wk_intro (by kernel_rfl) ?_) | (refine vp_draw (id := 1) (l := [7, 10]) (by kernel_rfl) ?_))
      rfl
    · have h0 : (lim N).length = 0 := by rw [h.resolve_right hD, lim_zero]; rfl
      have h1 := lim_pos hD
      repeat (first | (simp only [go_sem, Nat.reduceEqDiff, Nat.reduceAdd, Nat.reduceSub, Nat.reduceMul, Nat.reduceLeDiff, Nat.reduceLT, reduceIte, reduceCtorEq, Nat.succ_ne_zero, elemsC, Int.reduceToNat, Nat.reducePow]) | (simp (disch := (first | omega | (simp only [AL, List.length_map]; omega))) only [AR, AL, ifT, ifF, take_all, List.length_cons, List.length_nil, Int.reduceToNat, Int.reducePow, Nat.reducePow]) | (refine wk_intro (by kernel_rfl) ?_) | (refine vp_draw (id := 1) (l := [7, 10]) (by kernel_rfl) ?_))
      rfl
  · have hN : N ≠ 0 := fun e => h (.inl e)
    have hD : D ≠ 0 := fun e => h (.inr e)
    rw [mk_parts s hN hD]
    have h1 := lim_pos hN
    have h2 := lim_pos hD
    have hg : N.gcd D ≠ 0 := Nat.ne_of_gt (Nat.gcd_pos_of_pos_left _ (by omega))
    have h3 := lim_len_mono (Nat.gcd_le_left D (by omega : 0 < N))
    repeat (first | (simp only [go_sem, Nat.reduceEqDiff, Nat.reduceAdd, Nat.reduceSub, Nat.reduceMul, Nat.reduceLeDiff, Nat.reduceLT, reduceIte, reduceCtorEq, Nat.succ_ne_zero, elemsC, Int.reduceToNat, Nat.reducePow]) | (simp (disch := (first | omega | (simp only [AL, List.length_map]; omega))) only [AR, AL, ifT, ifF, take_all, List.length_cons, List.length_nil, Int.reduceToNat, Int.reducePow, Nat.reducePow]) | (refine wk_intro (by kernel_rfl) ?_) | (refine vp_draw (id := 1) (l := [7, 10]) (by kernel_rfl) ?_))
    refine vf_of (ref1_GcdL (by omega) (by omega)) ?_; repeat (first | (simp only [go_sem, Nat.reduceEqDiff, Nat.reduceAdd, Nat.reduceSub, Nat.reduceMul, Nat.reduceLeDiff, Nat.reduceLT, reduceIte, reduceCtorEq, Nat.succ_ne_zero, elemsC, Int.reduceToNat, Nat.reducePow]) | (simp (disch := (first | omega | (simp only [AL, List.length_map]; omega))) only [AR, AL, ifT, ifF, take_all, List.length_cons, List.length_nil, Int.reduceToNat, Int.reducePow, Nat.reducePow]) | (refine wk_intro (by kernel_rfl) ?_) | (refine vp_draw (id := 1) (l := [7, 10]) (by kernel_rfl) ?_))
    refine vf_of (ref1_DivL hg (by omega) (by omega)) ?_; repeat (first | (simp only [go_sem, Nat.reduceEqDiff, Nat.reduceAdd, Nat.reduceSub, Nat.reduceMul, Nat.reduceLeDiff, Nat.reduceLT, reduceIte, reduceCtorEq, Nat.succ_ne_zero, elemsC, Int.reduceToNat, Nat.reducePow]) | (simp (disch := (first | omega | (simp only [AL, List.length_map]; omega))) only [AR, AL, ifT, ifF, take_all, List.length_cons, List.length_nil, Int.reduceToNat, Int.reducePow, Nat.reducePow]) | (refine wk_intro (by kernel_rfl) ?_) | (refine vp_draw (id := 1) (l := [7, 10]) (by kernel_rfl) ?_))
    refine vf_of (ref1_DivL hg (by omega) (by omega)) ?_; repeat (first | (simp only [go_sem, Nat.reduceEqDiff, Nat.reduceAdd, Nat.reduceSub, Nat.reduceMul, Nat.reduceLeDiff, Nat.reduceLT, reduceIte, reduceCtorEq, Nat.succ_ne_zero, elemsC, Int.reduceToNat, Nat.reducePow]) | (simp (disch := (first | omega | (simp only [AL, List.length_map]; omega))) only [AR, AL, ifT, ifF, take_all, List.length_cons, List.length_nil, Int.reduceToNat, Int.reducePow, Nat.reducePow]) | (refine wk_intro (by kernel_rfl) ?_) | (refine vp_draw (id := 1) (l := [7, 10]) (by kernel_rfl) ?_))
theorem ref2_Of (s : Bool) (n d : List Nat) (hn : okL n) (hd : okL d) (hl : n.length ≤ 16777216) (hm : d.length ≤ 16777216) :
    Go.Ev.Fn CX 19 [.bool s, natV n, natV d] (rv (mkRat (sgn s (wth n)) (wth d))) := by
  have hN := ref2_Norm (v := ratV s n d) (L := 16777216) ⟨s, n, d, rfl, hn, hd, hl, hm, rfl⟩ (by omega)
  refine Go.Ev.Fn.intro (fn := Tryz.f19) (body := (Tryz.f19).body.get!) (by kernel_rfl) (by kernel_rfl) (by kernel_rfl) (fun _ => rfl) (Nat.le_of_ble_eq_true (by kernel_rfl)) ?_; unfold Tryz.f19; simp only [Option.get!_some]
  repeat (first | (simp only [go_sem, Nat.reduceEqDiff, Nat.reduceAdd, Nat.reduceSub, Nat.reduceMul, Nat.reduceLeDiff, Nat.reduceLT, reduceIte, reduceCtorEq, Nat.succ_ne_zero, elemsC, Int.reduceToNat, Nat.reducePow]) | (simp (disch := (first | omega | (simp only [AL, List.length_map]; omega))) only [AR, AL, ifT, ifF, take_all, List.length_cons, List.length_nil, Int.reduceToNat, Int.reducePow, Nat.reducePow]) | (refine wk_intro (by kernel_rfl) ?_) | (refine vf_of (by first | exact hN) ?_))
theorem ref2_OfL {s : Bool} {n d : Nat} (hl : (lim n).length ≤ 16777216) (hm : (lim d).length ≤ 16777216) :
    Go.Ev.Fn CX 19 [.bool s, natV (lim n), natV (lim d)] (rv (mkRat (sgn s n) d)) := by
  have h := ref2_Of s (lim n) (lim d) (okL_lim _) (okL_lim _) hl hm
  rwa [wth_lim, wth_lim] at h
theorem ref2_Mul {v w : SV} {q r : Rat} {L M : Nat} (hv : RatA v q L) (hw : RatA w r M) (hL : 1 ≤ L) (hM : 1 ≤ M) (h : L + M ≤ 8388608) : Go.Ev.Fn CX 22 [v, w] (rv (q * r)) := by
  have hnv := ref2_Norm hv (by omega)
  have hnw := ref2_Norm hw (by omega)
  obtain ⟨z1, z2⟩ := szR_of hv hL
  obtain ⟨y1, y2⟩ := szR_of hw hM
  have g1 := lim_len_mul (a := q.num.natAbs) (b := r.num.natAbs)
  have g2 := lim_len_mul (a := q.den) (b := r.den)
  have hOf := ref2_OfL (s := !(decide (q.num < 0) == decide (r.num < 0))) (n := q.num.natAbs * r.num.natAbs) (d := q.den * r.den) (by omega) (by omega)
  rw [mul_parts] at hOf
  obtain ⟨s, n, d, rfl, -⟩ := hv
  obtain ⟨s', n', d', rfl, -⟩ := hw
  refine Go.Ev.Fn.intro (fn := Tryz.f22) (body := (Tryz.f22).body.get!) (by kernel_rfl) (by kernel_rfl) (by kernel_rfl) (fun _ => rfl) (Nat.le_of_ble_eq_true (by kernel_rfl)) ?_; unfold Tryz.f22; simp only [Option.get!_some]
  repeat (first | (simp only [go_sem, Nat.reduceEqDiff, Nat.reduceAdd, Nat.reduceSub, Nat.reduceMul, Nat.reduceLeDiff, Nat.reduceLT, reduceIte, reduceCtorEq, Nat.succ_ne_zero, elemsC, Int.reduceToNat, Nat.reducePow]) | (simp (disch := (first | omega | (simp only [AL, List.length_map]; omega))) only [AR, AL, ifT, ifF, take_all, List.length_cons, List.length_nil, Int.reduceToNat, Int.reducePow, Nat.reducePow]) | (refine wk_intro (by kernel_rfl) ?_) | (refine vp_draw (id := 1) (l := []) (by kernel_rfl) ?_) | (refine vp_draw (id := 2) (l := [17, 19, 22, 24, 20, 25]) (by kernel_rfl) ?_) | (refine vf_of (by first | exact hnv | exact hnw) ?_))
  refine vf_of (ref1_MulL (by omega) (by omega)) ?_; repeat (first | (simp only [go_sem, Nat.reduceEqDiff, Nat.reduceAdd, Nat.reduceSub, Nat.reduceMul, Nat.reduceLeDiff, Nat.reduceLT, reduceIte, reduceCtorEq, Nat.succ_ne_zero, elemsC, Int.reduceToNat, Nat.reducePow]) | (simp (disch := (first | omega | (simp only [AL, List.length_map]; omega))) only [AR, AL, ifT, ifF, take_all, List.length_cons, List.length_nil, Int.reduceToNat, Int.reducePow, Nat.reducePow]) | (refine wk_intro (by kernel_rfl) ?_) | (refine vp_draw (id := 1) (l := []) (by kernel_rfl) ?_) | (refine vp_draw (id := 2) (l := [17, 19, 22, 24, 20, 25]) (by kernel_rfl) ?_))
  refine vf_of (ref1_MulL (by omega) (by omega)) ?_; repeat (first | (simp only [go_sem, Nat.reduceEqDiff, Nat.reduceAdd, Nat.reduceSub, Nat.reduceMul, Nat.reduceLeDiff, Nat.reduceLT, reduceIte, reduceCtorEq, Nat.succ_ne_zero, elemsC, Int.reduceToNat, Nat.reducePow]) | (simp (disch := (first | omega | (simp only [AL, List.length_map]; omega))) only [AR, AL, ifT, ifF, take_all, List.length_cons, List.length_nil, Int.reduceToNat, Int.reducePow, Nat.reducePow]) | (refine wk_intro (by kernel_rfl) ?_) | (refine vp_draw (id := 1) (l := []) (by kernel_rfl) ?_) | (refine vp_draw (id := 2) (l := [17, 19, 22, 24, 20, 25]) (by kernel_rfl) ?_))
  refine vf_of (hOf) ?_; repeat (first | (simp only [go_sem, Nat.reduceEqDiff, Nat.reduceAdd, Nat.reduceSub, Nat.reduceMul, Nat.reduceLeDiff, Nat.reduceLT, reduceIte, reduceCtorEq, Nat.succ_ne_zero, elemsC, Int.reduceToNat, Nat.reducePow]) | (simp (disch := (first | omega | (simp only [AL, List.length_map]; omega))) only [AR, AL, ifT, ifF, take_all, List.length_cons, List.length_nil, Int.reduceToNat, Int.reducePow, Nat.reducePow]) | (refine wk_intro (by kernel_rfl) ?_) | (refine vp_draw (id := 1) (l := []) (by kernel_rfl) ?_) | (refine vp_draw (id := 2) (l := [17, 19, 22, 24, 20, 25]) (by kernel_rfl) ?_))
theorem ref2_limbs (a b : List Nat) (ha : a.length ≤ 274877906944) (hb : b.length ≤ 274877906944) : Go.Ev.Fn CX 62 [natV a, natV b] (.bool (decide (a = b))) := by
  refine Go.Ev.Fn.intro (fn := Tryz.f62) (body := (Tryz.f62).body.get!) (by kernel_rfl) (by kernel_rfl) (by kernel_rfl) (fun _ => rfl) (Nat.le_of_ble_eq_true (by kernel_rfl)) ?_; unfold Tryz.f62; simp only [Option.get!_some]
  by_cases hl : a.length = b.length
  · repeat (first | (simp only [go_sem, Nat.reduceEqDiff, Nat.reduceAdd, Nat.reduceSub, Nat.reduceMul, Nat.reduceLeDiff, Nat.reduceLT, reduceIte, reduceCtorEq, Nat.succ_ne_zero, elemsC, Int.reduceToNat, Nat.reducePow]) | (simp (disch := (first | omega | (simp only [AL, List.length_map]; omega))) only [AR, AL, ifT, ifF, take_all, List.length_cons, List.length_nil, Int.reduceToNat, Int.reducePow, Nat.reducePow]) | (refine wk_intro (by kernel_rfl) ?_) | (refine vp_draw (id := 6) (l := []) (by kernel_rfl) ?_))
    refine vp_loop_inv (fun s => s.tmp 0 = .sv (natV a) ∧ s.tmp 1 = .sv (natV b) ∧ ∃ i : Nat, s.tmp 5 = .sv (.int .i64 i) ∧ i ≤ a.length ∧ a.take i = b.take i) (fun s => match s.tmp 5 with | .sv (.int _ i) => a.length - i.toNat | _ => 0) ⟨rfl, rfl, 0, rfl, by omega, rfl⟩ ?_
    rintro s ⟨i0, i1, i, i5, hi, ht⟩
    by_cases hend : i = a.length
    · subst hend
      rw [List.take_length, hl, List.take_length] at ht
      rw [decide_eq_true ht]
      repeat (first | (simp only [go_sem, Nat.reduceEqDiff, Nat.reduceAdd, Nat.reduceSub, Nat.reduceMul, Nat.reduceLeDiff, Nat.reduceLT, reduceIte, reduceCtorEq, Nat.succ_ne_zero, elemsC, Int.reduceToNat, Nat.reducePow, i0, i1, i5]) | (simp (disch := (first | omega | (simp only [AL, List.length_map]; omega))) only [AR, AL, ifT, ifF, take_all, List.length_cons, List.length_nil, Int.reduceToNat, Int.reducePow, Nat.reducePow, i0, i1, i5]) | (refine wk_intro (by kernel_rfl) ?_) | (refine vp_draw (id := 6) (l := []) (by kernel_rfl) ?_))
    · have e : ∀ c : List Nat, i < c.length → c.take (i + 1) = c.take i ++ [c.getD i 0] := by
        intro c hc
        rw [List.take_add_one, List.getD_eq_getElem?_getD, List.getElem?_eq_getElem hc]
        rfl
      by_cases hx : a.getD i 0 = b.getD i 0
      · repeat (first | (simp only [go_sem, Nat.reduceEqDiff, Nat.reduceAdd, Nat.reduceSub, Nat.reduceMul, Nat.reduceLeDiff, Nat.reduceLT, reduceIte, reduceCtorEq, Nat.succ_ne_zero, elemsC, Int.reduceToNat, Nat.reducePow, i0, i1, i5]) | (simp (disch := (first | omega | (simp only [AL, List.length_map]; omega))) only [AR, AL, ifT, ifF, take_all, List.length_cons, List.length_nil, Int.reduceToNat, Int.reducePow, Nat.reducePow, i0, i1, i5]) | (refine wk_intro (by kernel_rfl) ?_) | (refine vp_draw (id := 6) (l := []) (by kernel_rfl) ?_))
        exact ⟨⟨i + 1, rfl, by omega, by rw [e a (by omega), e b (by omega), ht, hx]⟩, by omega⟩
      · rw [decide_eq_false (fun h => hx (by rw [h]))]
        repeat (first | (simp only [go_sem, Nat.reduceEqDiff, Nat.reduceAdd, Nat.reduceSub, Nat.reduceMul, Nat.reduceLeDiff, Nat.reduceLT, reduceIte, reduceCtorEq, Nat.succ_ne_zero, elemsC, Int.reduceToNat, Nat.reducePow, i0, i1, i5]) | (simp (disch := (first | omega | (simp only [AL, List.length_map]; omega))) only [AR, AL, ifT, ifF, take_all, List.length_cons, List.length_nil, Int.reduceToNat, Int.reducePow, Nat.reducePow, i0, i1, i5]) | (refine wk_intro (by kernel_rfl) ?_) | (refine vp_draw (id := 6) (l := []) (by kernel_rfl) ?_))
  · rw [decide_eq_false (fun h => hl (by rw [h]))]
    repeat (first | (simp only [go_sem, Nat.reduceEqDiff, Nat.reduceAdd, Nat.reduceSub, Nat.reduceMul, Nat.reduceLeDiff, Nat.reduceLT, reduceIte, reduceCtorEq, Nat.succ_ne_zero, elemsC, Int.reduceToNat, Nat.reducePow]) | (simp (disch := (first | omega | (simp only [AL, List.length_map]; omega))) only [AR, AL, ifT, ifF, take_all, List.length_cons, List.length_nil, Int.reduceToNat, Int.reducePow, Nat.reducePow]) | (refine wk_intro (by kernel_rfl) ?_) | (refine vp_draw (id := 6) (l := []) (by kernel_rfl) ?_))
theorem rv_eq {q r : Rat} (h1 : decide (q.num < 0) = decide (r.num < 0)) (h2 : lim q.num.natAbs = lim r.num.natAbs) (h3 : lim q.den = lim r.den) : q = r := by
  have h4 := lim_inj h2
  have h5 := lim_inj h3
  refine Rat.ext ?_ h5
  by_cases h : q.num < 0
  · rw [decide_eq_true h] at h1
    have := of_decide_eq_true h1.symm
    omega
  · rw [decide_eq_false h] at h1
    have := of_decide_eq_false h1.symm
    omega
theorem ref2_Same {v w : SV} {q r : Rat} {L M : Nat} (hv : RatA v q L) (hw : RatA w r M) (hL : 1 ≤ L) (hM : 1 ≤ M) (h : L + M ≤ 8388608) : Go.Ev.Fn CX 24 [v, w] (.bool (decide (q = r))) := by
  have hnv := ref2_Norm hv (by omega)
  have hnw := ref2_Norm hw (by omega)
  obtain ⟨z1, z2⟩ := szR_of hv hL
  obtain ⟨y1, y2⟩ := szR_of hw hM
  have l1 := ref2_limbs (lim q.num.natAbs) (lim r.num.natAbs) (by omega) (by omega)
  have l2 := ref2_limbs (lim q.den) (lim r.den) (by omega) (by omega)
  have hbb := beq_bool (decide (q.num < 0)) (decide (r.num < 0))
  obtain ⟨s, n, d, rfl, -⟩ := hv
  obtain ⟨s', n', d', rfl, -⟩ := hw
  refine Go.Ev.Fn.intro (fn := Tryz.f24) (body := (Tryz.f24).body.get!) (by kernel_rfl) (by kernel_rfl) (by kernel_rfl) (fun _ => rfl) (Nat.le_of_ble_eq_true (by kernel_rfl)) ?_; unfold Tryz.f24; simp only [Option.get!_some]
  repeat (first | (simp only [go_sem, Nat.reduceEqDiff, Nat.reduceAdd, Nat.reduceSub, Nat.reduceMul, Nat.reduceLeDiff, Nat.reduceLT, reduceIte, reduceCtorEq, Nat.succ_ne_zero, elemsC, Int.reduceToNat, Nat.reducePow, hbb]) | (simp (disch := (first | omega | (simp only [AL, List.length_map]; omega))) only [AR, AL, ifT, ifF, take_all, List.length_cons, List.length_nil, Int.reduceToNat, Int.reducePow, Nat.reducePow, hbb]) | (refine wk_intro (by kernel_rfl) ?_) | (refine vp_draw (id := 1) (l := []) (by kernel_rfl) ?_) | (refine vf_of (by first | exact hnv | exact hnw) ?_))
  by_cases h1 : decide (q.num < 0) = decide (r.num < 0)
  · rw [decide_eq_true h1]
    by_cases h2 : lim q.num.natAbs = lim r.num.natAbs
    · rw [decide_eq_true h2] at l1
      repeat (first | (simp only [go_sem, Nat.reduceEqDiff, Nat.reduceAdd, Nat.reduceSub, Nat.reduceMul, Nat.reduceLeDiff, Nat.reduceLT, reduceIte, reduceCtorEq, Nat.succ_ne_zero, elemsC, Int.reduceToNat, Nat.reducePow]) | (simp (disch := (first | omega | (simp only [AL, List.length_map]; omega))) only [AR, AL, ifT, ifF, take_all, List.length_cons, List.length_nil, Int.reduceToNat, Int.reducePow, Nat.reducePow]) | (refine wk_intro (by kernel_rfl) ?_) | (refine vp_draw (id := 1) (l := []) (by kernel_rfl) ?_))
      have e : decide (lim q.den = lim r.den) = decide (q = r) := by
        by_cases h3 : lim q.den = lim r.den
        · rw [decide_eq_true h3, decide_eq_true (rv_eq h1 h2 h3)]
        · rw [decide_eq_false h3, decide_eq_false (fun e => h3 (by rw [e]))]
      rw [e] at l2
      repeat (first | (simp only [go_sem, Nat.reduceEqDiff, Nat.reduceAdd, Nat.reduceSub, Nat.reduceMul, Nat.reduceLeDiff, Nat.reduceLT, reduceIte, reduceCtorEq, Nat.succ_ne_zero, elemsC, Int.reduceToNat, Nat.reducePow]) | (simp (disch := (first | omega | (simp only [AL, List.length_map]; omega))) only [AR, AL, ifT, ifF, take_all, List.length_cons, List.length_nil, Int.reduceToNat, Int.reducePow, Nat.reducePow]) | (refine wk_intro (by kernel_rfl) ?_) | (refine vp_draw (id := 1) (l := []) (by kernel_rfl) ?_) | (refine vf_of (by first | exact l1 | exact l2) ?_))
    · rw [decide_eq_false h2] at l1
      have hne : q ≠ r := fun e => h2 (by rw [e])
      rw [decide_eq_false hne]
      repeat (first | (simp only [go_sem, Nat.reduceEqDiff, Nat.reduceAdd, Nat.reduceSub, Nat.reduceMul, Nat.reduceLeDiff, Nat.reduceLT, reduceIte, reduceCtorEq, Nat.succ_ne_zero, elemsC, Int.reduceToNat, Nat.reducePow]) | (simp (disch := (first | omega | (simp only [AL, List.length_map]; omega))) only [AR, AL, ifT, ifF, take_all, List.length_cons, List.length_nil, Int.reduceToNat, Int.reducePow, Nat.reducePow]) | (refine wk_intro (by kernel_rfl) ?_) | (refine vp_draw (id := 1) (l := []) (by kernel_rfl) ?_) | (refine vf_of (by first | exact l1) ?_))
  · have hne : q ≠ r := fun e => h1 (by rw [e])
    rw [decide_eq_false h1, decide_eq_false hne]
    repeat (first | (simp only [go_sem, Nat.reduceEqDiff, Nat.reduceAdd, Nat.reduceSub, Nat.reduceMul, Nat.reduceLeDiff, Nat.reduceLT, reduceIte, reduceCtorEq, Nat.succ_ne_zero, elemsC, Int.reduceToNat, Nat.reducePow]) | (simp (disch := (first | omega | (simp only [AL, List.length_map]; omega))) only [AR, AL, ifT, ifF, take_all, List.length_cons, List.length_nil, Int.reduceToNat, Int.reducePow, Nat.reducePow]) | (refine wk_intro (by kernel_rfl) ?_) | (refine vp_draw (id := 1) (l := []) (by kernel_rfl) ?_))
theorem ref2_Int (n : Int) (h : -9223372036854775808 ≤ n ∧ n < 9223372036854775808) : Go.Ev.Fn CX 20 [.int .i64 n] (rv (n : Rat)) := by
  have oN := ref1_Of n.natAbs (by omega)
  have e1 := int_u64 h
  have hl := lim_two (v := n.natAbs) |>.2 (by omega)
  have hOf := ref2_OfL (s := decide (n < 0)) (n := n.natAbs) (d := 1) (by omega) (by rw [lim_one]; simp)
  rw [lim_one, sgn_self, show mkRat n 1 = (n : Rat) from Rat.mkRat_one n] at hOf
  refine Go.Ev.Fn.intro (fn := Tryz.f20) (body := (Tryz.f20).body.get!) (by kernel_rfl) (by kernel_rfl) (by kernel_rfl) (fun _ => rfl) (Nat.le_of_ble_eq_true (by kernel_rfl)) ?_; unfold Tryz.f20; simp only [Option.get!_some]
  by_cases h0 : n < 0
  · rw [if_pos h0] at e1
    rw [decide_eq_true h0] at hOf
    have e2 : IntKind.u64.wrap (0 - ((18446744073709551616 - n.natAbs : Nat) : Int)) = (n.natAbs : Int) := by rw [IntKind.wrap_u64]; omega
    repeat (first | (simp only [go_sem, Nat.reduceEqDiff, Nat.reduceAdd, Nat.reduceSub, Nat.reduceMul, Nat.reduceLeDiff, Nat.reduceLT, reduceIte, reduceCtorEq, Nat.succ_ne_zero, elemsC, Int.reduceToNat, Nat.reducePow, e1, e2]) | (simp (disch := (first | omega | (simp only [AL, List.length_map]; omega))) only [AR, AL, ifT, ifF, take_all, List.length_cons, List.length_nil, Int.reduceToNat, Int.reducePow, Nat.reducePow, e1, e2]) | (refine wk_intro (by kernel_rfl) ?_) | (refine vf_of (by first | exact oN | exact hOf) ?_))
  · rw [if_neg h0] at e1
    rw [decide_eq_false h0] at hOf
    repeat (first | (simp only [go_sem, Nat.reduceEqDiff, Nat.reduceAdd, Nat.reduceSub, Nat.reduceMul, Nat.reduceLeDiff, Nat.reduceLT, reduceIte, reduceCtorEq, Nat.succ_ne_zero, elemsC, Int.reduceToNat, Nat.reducePow, e1]) | (simp (disch := (first | omega | (simp only [AL, List.length_map]; omega))) only [AR, AL, ifT, ifF, take_all, List.length_cons, List.length_nil, Int.reduceToNat, Int.reducePow, Nat.reducePow, e1]) | (refine wk_intro (by kernel_rfl) ?_) | (refine vf_of (by first | exact oN | exact hOf) ?_))
end Go.Proofs.YtkkmnjhecjkhgaaGreatDoor
namespace Go.Proofs.YtkkmnjhecjkhgaaGreatDoor
open Go.Ev
theorem szR_zero {L : Nat} (h : 1 ≤ L) : szR 0 L := ⟨by rw [show (0 : Rat).num.natAbs = 0 by rfl, lim_zero]; simp, by rw [show (0 : Rat).den = 1 by rfl, lim_one]; exact h⟩
theorem szR_mul {q r : Rat} {L M : Nat} (h1 : szR q L) (h2 : szR r M) (hL : 1 ≤ L) : szR (q * r) (L + M) := by
  rw [← mul_parts]
  have g1 := lim_len_mul (a := q.num.natAbs) (b := r.num.natAbs)
  have g2 := lim_len_mul (a := q.den) (b := r.den)
  obtain ⟨a1, a2⟩ := h1
  obtain ⟨b1, b2⟩ := h2
  exact szR_mk (by omega) (by omega) (by omega)
theorem szR_div {q r : Rat} {L M : Nat} (h1 : szR q L) (h2 : szR r M) (hL : 1 ≤ L) (hM : 1 ≤ M) : szR (q / r) (L + M) := by
  by_cases hr : r = 0
  · rw [hr, Rat.div_def, Rat.inv_zero, Rat.mul_zero]
    exact szR_zero (by omega)
  · rw [div_parts hr]
    exact szR_mul h1 (szR_mk h2.2 h2.1 hM) hL
theorem sgn_mul2 (s t : Bool) (a b : Nat) : sgn s a * sgn t b = sgn (!(s == t)) (a * b) := by
  cases s <;> cases t <;> simp [sgn, Int.neg_mul, Int.mul_neg]
theorem quo_parts {q r : Rat} (hr : r ≠ 0) : mkRat (sgn (!(decide (q.num < 0) == decide (r.num < 0))) (q.num.natAbs * r.den)) (q.den * r.num.natAbs) = q / r := by
  rw [div_parts hr, ← sgn_mul2, ← Rat.mkRat_mul_mkRat, sgn_self, Rat.mkRat_self]
theorem ref2_Div {v w : SV} {q r : Rat} {L M : Nat} (hv : RatA v q L) (hw : RatA w r M) (hL : 1 ≤ L) (hM : 1 ≤ M) (h : L + M ≤ 8388608) : Go.Ev.Fn CX 23 [v, w] (.tup [rv (q / r), .bool (decide (r ≠ 0))]) := by
  have hnv := ref2_Norm hv (by omega)
  have hnw := ref2_Norm hw (by omega)
  obtain ⟨z1, z2⟩ := szR_of hv hL
  obtain ⟨y1, y2⟩ := szR_of hw hM
  have g1 := lim_len_mul (a := q.num.natAbs) (b := r.den)
  have g2 := lim_len_mul (a := q.den) (b := r.num.natAbs)
  obtain ⟨s, n, d, rfl, -⟩ := hv
  obtain ⟨s', n', d', rfl, -⟩ := hw
  have h0 := ref2_Norm (v := ratV false [] []) (q := 0) (L := 1) ⟨_, _, _, rfl, okL_nil, okL_nil, by simp, by simp, by rw [wth_nil]; exact (mk_zero false (.inl rfl)).symm⟩ (by omega)
  refine Go.Ev.Fn.intro (fn := Tryz.f23) (body := (Tryz.f23).body.get!) (by kernel_rfl) (by kernel_rfl) (by kernel_rfl) (fun _ => rfl) (Nat.le_of_ble_eq_true (by kernel_rfl)) ?_; unfold Tryz.f23; simp only [Option.get!_some]
  repeat (first | (simp only [go_sem, Nat.reduceEqDiff, Nat.reduceAdd, Nat.reduceSub, Nat.reduceMul, Nat.reduceLeDiff, Nat.reduceLT, reduceIte, reduceCtorEq, Nat.succ_ne_zero, elemsC, Int.reduceToNat, Nat.reducePow]) | (simp (disch := (first | omega | (simp only [AL, List.length_map]; omega))) only [AR, AL, ifT, ifF, take_all, List.length_cons, List.length_nil, Int.reduceToNat, Int.reducePow, Nat.reducePow]) | (refine wk_intro (by kernel_rfl) ?_) | (refine vp_draw (id := 1) (l := []) (by kernel_rfl) ?_) | (refine vp_draw (id := 4) (l := [24, 26, 29, 31, 27, 32]) (by kernel_rfl) ?_) | (refine vf_of (by first | exact hnv | exact hnw) ?_))
  by_cases hr : r = 0
  · have hl : (lim r.num.natAbs).length = 0 := by rw [num_zero.2 hr]; simp [lim_zero]
    rw [show decide (r ≠ 0) = false from decide_eq_false (fun e => e hr), hr, Rat.div_def, Rat.inv_zero, Rat.mul_zero]
    subst hr
    repeat (first | (simp only [go_sem, Nat.reduceEqDiff, Nat.reduceAdd, Nat.reduceSub, Nat.reduceMul, Nat.reduceLeDiff, Nat.reduceLT, reduceIte, reduceCtorEq, Nat.succ_ne_zero, elemsC, Int.reduceToNat, Nat.reducePow]) | (simp (disch := (first | omega | (simp only [AL, List.length_map]; omega))) only [AR, AL, ifT, ifF, take_all, List.length_cons, List.length_nil, Int.reduceToNat, Int.reducePow, Nat.reducePow]) | (refine wk_intro (by kernel_rfl) ?_) | (refine vp_draw (id := 1) (l := []) (by kernel_rfl) ?_) | (refine vp_draw (id := 4) (l := [24, 26, 29, 31, 27, 32]) (by kernel_rfl) ?_) | (refine vf_of (by first | exact h0) ?_))
  · have hl := lim_pos (N := r.num.natAbs) (fun e => hr (num_zero.1 (by omega)))
    have hOf := ref2_OfL (s := !(decide (q.num < 0) == decide (r.num < 0))) (n := q.num.natAbs * r.den) (d := q.den * r.num.natAbs) (by omega) (by omega)
    rw [quo_parts hr] at hOf
    rw [decide_eq_true hr]
    repeat (first | (simp only [go_sem, Nat.reduceEqDiff, Nat.reduceAdd, Nat.reduceSub, Nat.reduceMul, Nat.reduceLeDiff, Nat.reduceLT, reduceIte, reduceCtorEq, Nat.succ_ne_zero, elemsC, Int.reduceToNat, Nat.reducePow]) | (simp (disch := (first | omega | (simp only [AL, List.length_map]; omega))) only [AR, AL, ifT, ifF, take_all, List.length_cons, List.length_nil, Int.reduceToNat, Int.reducePow, Nat.reducePow]) | (refine wk_intro (by kernel_rfl) ?_) | (refine vp_draw (id := 1) (l := []) (by kernel_rfl) ?_) | (refine vp_draw (id := 4) (l := [24, 26, 29, 31, 27, 32]) (by kernel_rfl) ?_))
    refine vf_of (ref1_MulL (by omega) (by omega)) ?_; repeat (first | (simp only [go_sem, Nat.reduceEqDiff, Nat.reduceAdd, Nat.reduceSub, Nat.reduceMul, Nat.reduceLeDiff, Nat.reduceLT, reduceIte, reduceCtorEq, Nat.succ_ne_zero, elemsC, Int.reduceToNat, Nat.reducePow]) | (simp (disch := (first | omega | (simp only [AL, List.length_map]; omega))) only [AR, AL, ifT, ifF, take_all, List.length_cons, List.length_nil, Int.reduceToNat, Int.reducePow, Nat.reducePow]) | (refine wk_intro (by kernel_rfl) ?_) | (refine vp_draw (id := 1) (l := []) (by kernel_rfl) ?_) | (refine vp_draw (id := 4) (l := [24, 26, 29, 31, 27, 32]) (by kernel_rfl) ?_))
    refine vf_of (ref1_MulL (by omega) (by omega)) ?_; repeat (first | (simp only [go_sem, Nat.reduceEqDiff, Nat.reduceAdd, Nat.reduceSub, Nat.reduceMul, Nat.reduceLeDiff, Nat.reduceLT, reduceIte, reduceCtorEq, Nat.succ_ne_zero, elemsC, Int.reduceToNat, Nat.reducePow]) | (simp (disch := (first | omega | (simp only [AL, List.length_map]; omega))) only [AR, AL, ifT, ifF, take_all, List.length_cons, List.length_nil, Int.reduceToNat, Int.reducePow, Nat.reducePow]) | (refine wk_intro (by kernel_rfl) ?_) | (refine vp_draw (id := 1) (l := []) (by kernel_rfl) ?_) | (refine vp_draw (id := 4) (l := [24, 26, 29, 31, 27, 32]) (by kernel_rfl) ?_))
    refine vf_of (hOf) ?_; repeat (first | (simp only [go_sem, Nat.reduceEqDiff, Nat.reduceAdd, Nat.reduceSub, Nat.reduceMul, Nat.reduceLeDiff, Nat.reduceLT, reduceIte, reduceCtorEq, Nat.succ_ne_zero, elemsC, Int.reduceToNat, Nat.reducePow]) | (simp (disch := (first | omega | (simp only [AL, List.length_map]; omega))) only [AR, AL, ifT, ifF, take_all, List.length_cons, List.length_nil, Int.reduceToNat, Int.reducePow, Nat.reducePow]) | (refine wk_intro (by kernel_rfl) ?_) | (refine vp_draw (id := 1) (l := []) (by kernel_rfl) ?_) | (refine vp_draw (id := 4) (l := [24, 26, 29, 31, 27, 32]) (by kernel_rfl) ?_))
end Go.Proofs.YtkkmnjhecjkhgaaGreatDoor
namespace Go.Proofs.YtkkmnjhecjkhgaaGreatDoor
open Go.Ev
theorem int_szR {n : Int} (h : -9223372036854775808 ≤ n ∧ n ≤ 9223372036854775808) : szR (n : Rat) 2 := by
  refine ⟨?_, ?_⟩
  · show (lim n.natAbs).length ≤ 2
    exact lim_two.2 (by omega)
  · show (lim 1).length ≤ 2
    rw [lim_one]; simp
end Go.Proofs.YtkkmnjhecjkhgaaGreatDoor
namespace Go.Proofs.YtkkmnjhecjkhgaaGreatDoor
open Go.Ev
def D10 : List UInt8 := [48, 49, 50, 51, 52, 53, 54, 55, 56, 57]
theorem D10_dig (b : UInt8) : D10.contains b = dig b := by
  have key : ∀ n : Nat, n < 256 → D10.contains (UInt8.ofNat n) = dig (UInt8.ofNat n) := by decide
  have := key b.toNat b.toNat_lt
  rwa [UInt8.ofNat_toNat] at this
theorem drop_nil {p : UInt8 → Bool} {l : List UInt8} : l.dropWhile p = [] ↔ l.all p = true := by
  induction l with
  | nil => simp
  | cons b l ih =>
    rw [List.dropWhile_cons, List.all_cons]
    cases p b <;> simp [ih]
theorem trim_digs (l : List UInt8) : (Lib.trimS l D10 == []) = digs l := by
  have e : (fun b => D10.contains b) = dig := funext D10_dig
  have h1 : Lib.trimS l D10 = (l.reverse.dropWhile dig).reverse.dropWhile dig := by
    unfold Lib.trimS Lib.trimLeftS Lib.trimRightS
    rw [e]
  rw [h1]
  unfold digs
  cases hl : l.all dig with
  | true =>
    have : l.reverse.dropWhile dig = [] := drop_nil.2 (by rw [List.all_reverse]; exact hl)
    rw [this]
    rfl
  | false =>
    have h2 : l.reverse.dropWhile dig ≠ [] := fun h => by
      have := drop_nil.1 h
      rw [List.all_reverse, hl] at this
      cases this
    have h3 : ((l.reverse.dropWhile dig).reverse.dropWhile dig) ≠ [] := fun h => by
      have h4 := drop_nil.1 h
      rw [List.all_reverse] at h4
      cases hd : l.reverse.dropWhile dig with
      | nil => exact h2 hd
      | cons b r =>
        have h5 := List.head_dropWhile_not dig (w := h2)
        rw [hd] at h4
        rw [List.all_cons, Bool.and_eq_true] at h4
        simp only [hd, List.head_cons] at h5
        rw [h4.1] at h5
        cases h5
    cases h : ((l.reverse.dropWhile dig).reverse.dropWhile dig) with
    | nil => exact absurd h h3
    | cons b r => rfl
theorem x_trim (l : List UInt8) (cs : List UInt8) (h : l.length ≤ 9223372036854775807) (h1 : cs.length < 4294967281) (h2 : cs.all (fun b => decide (b.toNat < 128)) = true) :
    Go.Ev.Fn CX 68 [.str (bs l), .str (bs cs)] (.str (bs (Lib.trimS l cs))) := by
  refine ⟨1, List.replicate 2 none, ?_⟩
  have h3 : xTrim [.sv (.str (bs l)), .sv (.str (bs cs))] = some (.sv (.str (bs (Lib.trimS l cs))), List.replicate 2 none) := by
    unfold xTrim
    simp only [bs_toList, bs_size]
    rw [if_pos ⟨h, h1, h2⟩]
  have h4 : CX.X 68 ([SV.str (bs l), .str (bs cs)].map Arg.sv) = some (.sv (.str (bs (Lib.trimS l cs))), List.replicate 2 none) := h3
  unfold callN
  rw [h4]
theorem x_trimLeft (l : List UInt8) (cs : List UInt8) (h1 : cs.length < 4294967281) (h2 : cs.all (fun b => decide (b.toNat < 128)) = true) :
    Go.Ev.Fn CX 90 [.str (bs l), .str (bs cs)] (.str (bs (Lib.trimLeftS l cs))) := by
  refine ⟨1, List.replicate 2 none, ?_⟩
  have h3 : xTrimLeft [.sv (.str (bs l)), .sv (.str (bs cs))] = some (.sv (.str (bs (Lib.trimLeftS l cs))), List.replicate 2 none) := by
    unfold xTrimLeft
    simp only [bs_toList, bs_size]
    rw [if_pos ⟨h1, h2⟩]
  have h4 : CX.X 90 ([SV.str (bs l), .str (bs cs)].map Arg.sv) = some (.sv (.str (bs (Lib.trimLeftS l cs))), List.replicate 2 none) := h3
  unfold callN
  rw [h4]
theorem natD_lt : ∀ {l : List UInt8}, digs l = true → natD l < 10 ^ l.length := by
  intro l h
  have := natLE_lt (l := l.reverse) (by unfold digs; rw [List.all_reverse]; exact h)
  rw [← natD_rev, List.reverse_reverse, List.length_reverse] at this
  exact this
theorem lim_small {n k : Nat} (h : n < 4294967296 ^ k) : (lim n).length ≤ k := by
  rcases Nat.eq_zero_or_pos (lim n).length with h0 | h0
  · omega
  · have hne : lim n ≠ [] := fun e => by rw [e] at h0; exact absurd h0 (by simp)
    have h1 := trimL_pos (trimL_lim n) hne
    rw [wth_lim] at h1
    have h2 : 4294967296 ^ ((lim n).length - 1) < 4294967296 ^ k := Nat.lt_of_le_of_lt h1 h
    have h3 := (Nat.pow_lt_pow_iff_right (a := 4294967296) (by omega)).1 h2
    omega
theorem lim_ten {n k : Nat} (h : n < 10 ^ k) : (lim n).length ≤ k := by
  refine lim_small (Nat.lt_of_lt_of_le h (Nat.pow_le_pow_left (by omega) k))
theorem lim_ten' {n k : Nat} (h : n < 10 ^ k) : (lim (n * 10)).length ≤ k + 1 := lim_ten (by rw [Nat.pow_succ]; omega)
theorem natV_ten : natV (lim 10) = SV.sl 1 [.int .u32 10] := rfl
theorem natV_zero : natV (lim 0) = SV.sl 0 [] := rfl
def parseV (l : List UInt8) : SV := match natP l with
  | some n => .tup [natV (lim n), .bool true]
  | none => .tup [.sl 0 [], .bool false]
theorem parseV_ok {l : List UInt8} (h0 : l ≠ []) (h1 : l.length ≤ 400) (h2 : digs l = true) : parseV l = .tup [natV (lim (natD l)), .bool true] := by
  unfold parseV natP
  rw [if_neg (by simp [h0, h2]; exact h1)]
theorem parseV_bad {l : List UInt8} (h : l = [] ∨ 400 < l.length ∨ digs l = false) : parseV l = .tup [.sl 0 [], .bool false] := by
  unfold parseV natP
  rw [if_pos h]
theorem nat_Parse (l : List UInt8) (hl : l.length ≤ 1048576) : Go.Ev.Fn CX 87 [.str (bs l)] (parseV l) := by
  have ht := x_trim l D10 (by omega) (by decide) (by decide)
  unfold D10 at ht
  have htd := trim_digs l
  unfold D10 at htd
  by_cases h0 : l = []
  · rw [parseV_bad (.inl h0)]
    subst h0
    refine Go.Ev.Fn.intro (fn := Tryz.f87) (body := (Tryz.f87).body.get!) (by kernel_rfl) (by kernel_rfl) (by kernel_rfl) (fun _ => rfl) (Nat.le_of_ble_eq_true (by kernel_rfl)) ?_; unfold Tryz.f87; simp only [Option.get!_some]
    repeat (first | (simp only [go_sem, Nat.reduceEqDiff, Nat.reduceAdd, Nat.reduceSub, Nat.reduceMul, Nat.reduceLeDiff, Nat.reduceLT, reduceIte, reduceCtorEq, Nat.succ_ne_zero, elemsC, Int.reduceToNat, Nat.reducePow, bs_list, mk_bs, nil_beq]) | (simp (disch := (first | omega | (simp only [AL, List.length_map]; omega))) only [AR, AL, ifT, ifF, take_all, List.length_cons, List.length_nil, Int.reduceToNat, Int.reducePow, Nat.reducePow, bs_list, mk_bs, nil_beq]) | (refine wk_intro (by kernel_rfl) ?_) | (refine vp_draw (id := 7) (l := [4, 24, 25, 31]) (by kernel_rfl) ?_))
  have hb : (l == []) = false := by simpa using h0
  by_cases h1 : 400 < l.length
  · rw [parseV_bad (.inr (.inl h1))]
    refine Go.Ev.Fn.intro (fn := Tryz.f87) (body := (Tryz.f87).body.get!) (by kernel_rfl) (by kernel_rfl) (by kernel_rfl) (fun _ => rfl) (Nat.le_of_ble_eq_true (by kernel_rfl)) ?_; unfold Tryz.f87; simp only [Option.get!_some]
    repeat (first | (simp only [go_sem, Nat.reduceEqDiff, Nat.reduceAdd, Nat.reduceSub, Nat.reduceMul, Nat.reduceLeDiff, Nat.reduceLT, reduceIte, reduceCtorEq, Nat.succ_ne_zero, elemsC, Int.reduceToNat, Nat.reducePow, bs_list, mk_bs, hb, bs_size]) | (simp (disch := (first | omega | (simp only [AL, List.length_map]; omega))) only [AR, AL, ifT, ifF, take_all, List.length_cons, List.length_nil, Int.reduceToNat, Int.reducePow, Nat.reducePow, bs_list, mk_bs, hb, bs_size]) | (refine wk_intro (by kernel_rfl) ?_) | (refine vp_draw (id := 7) (l := [4, 24, 25, 31]) (by kernel_rfl) ?_))
  cases h2 : digs l with
  | false =>
    rw [h2] at htd
    rw [parseV_bad (.inr (.inr h2))]
    refine Go.Ev.Fn.intro (fn := Tryz.f87) (body := (Tryz.f87).body.get!) (by kernel_rfl) (by kernel_rfl) (by kernel_rfl) (fun _ => rfl) (Nat.le_of_ble_eq_true (by kernel_rfl)) ?_; unfold Tryz.f87; simp only [Option.get!_some]
    repeat (first | (simp only [go_sem, Nat.reduceEqDiff, Nat.reduceAdd, Nat.reduceSub, Nat.reduceMul, Nat.reduceLeDiff, Nat.reduceLT, reduceIte, reduceCtorEq, Nat.succ_ne_zero, elemsC, Int.reduceToNat, Nat.reducePow, bs_list, mk_bs, hb, bs_size, htd, Bool.not_false]) | (simp (disch := (first | omega | (simp only [AL, List.length_map]; omega))) only [AR, AL, ifT, ifF, take_all, List.length_cons, List.length_nil, Int.reduceToNat, Int.reducePow, Nat.reducePow, bs_list, mk_bs, hb, bs_size, htd, Bool.not_false]) | (refine wk_intro (by kernel_rfl) ?_) | (refine vp_draw (id := 7) (l := [4, 24, 25, 31]) (by kernel_rfl) ?_) | (refine vf_of (by first | exact ht) ?_))
  | true =>
    rw [h2] at htd
    rw [parseV_ok h0 (by omega) h2]
    refine Go.Ev.Fn.intro (fn := Tryz.f87) (body := (Tryz.f87).body.get!) (by kernel_rfl) (by kernel_rfl) (by kernel_rfl) (fun _ => rfl) (Nat.le_of_ble_eq_true (by kernel_rfl)) ?_; unfold Tryz.f87; simp only [Option.get!_some]
    repeat (first | (simp only [go_sem, Nat.reduceEqDiff, Nat.reduceAdd, Nat.reduceSub, Nat.reduceMul, Nat.reduceLeDiff, Nat.reduceLT, reduceIte, reduceCtorEq, Nat.succ_ne_zero, elemsC, Int.reduceToNat, Nat.reducePow, bs_list, mk_bs, hb, bs_size, htd, Bool.not_true]) | (simp (disch := (first | omega | (simp only [AL, List.length_map]; omega))) only [AR, AL, ifT, ifF, take_all, List.length_cons, List.length_nil, Int.reduceToNat, Int.reducePow, Nat.reducePow, bs_list, mk_bs, hb, bs_size, htd, Bool.not_true]) | (refine wk_intro (by kernel_rfl) ?_) | (refine vp_draw (id := 7) (l := [4, 24, 25, 31]) (by kernel_rfl) ?_) | (refine vf_of (by first | exact ht) ?_))
    refine vp_loop_inv (fun s => s.tmp 0 = .sv (.str (bs l)) ∧ s.tmp 19 = .sv (.int .i64 (l.length : Int)) ∧
        ∃ i : Nat, s.tmp 20 = .sv (.int .i64 (i : Int)) ∧ i ≤ l.length ∧ ((i = 0 ∧ s.tmp 4 = .nil ∧ s.tmp 24 = .undef ∧ s.tmp 25 = .undef ∧ s.tmp 31 = .undef) ∨ (s.tmp 4 = .sv (natV (lim (natD (l.take i)))) ∧ ∃ x y z, s.tmp 24 = .sv x ∧ s.tmp 25 = .sv y ∧ s.tmp 31 = .sv z)))
      (fun s => match s.tmp 20 with | .sv (.int _ i) => l.length - i.toNat | _ => 0) ⟨rfl, rfl, 0, rfl, by omega, .inl ⟨rfl, rfl, rfl, rfl, rfl⟩⟩ ?_
    rintro s2 ⟨i0, i19, i, i20, hi, hc⟩
    by_cases hend : i = l.length
    · subst hend
      rcases hc with ⟨h00, _⟩ | ⟨i4, _⟩
      · exact absurd (List.eq_nil_of_length_eq_zero h00) h0
      · rw [List.take_of_length_le (by omega)] at i4
        repeat (first | (simp only [go_sem, Nat.reduceEqDiff, Nat.reduceAdd, Nat.reduceSub, Nat.reduceMul, Nat.reduceLeDiff, Nat.reduceLT, reduceIte, reduceCtorEq, Nat.succ_ne_zero, elemsC, Int.reduceToNat, Nat.reducePow, i0, i19, i20, i4]) | (simp (disch := (first | omega | (simp only [AL, List.length_map]; omega))) only [AR, AL, ifT, ifF, take_all, List.length_cons, List.length_nil, Int.reduceToNat, Int.reducePow, Nat.reducePow, i0, i19, i20, i4]) | (refine wk_intro (by kernel_rfl) ?_) | (refine vp_draw (id := 7) (l := [4, 24, 25, 31]) (by kernel_rfl) ?_))
    · have hlt : i < l.length := by omega
      have hd : dig l[i] = true := List.all_eq_true.1 h2 _ (List.getElem_mem hlt)
      unfold dig at hd
      simp only [Bool.and_eq_true, decide_eq_true_eq] at hd
      have hg : l[i]? = some l[i] := List.getElem?_eq_getElem hlt
      have hsnoc : natD (l.take (i + 1)) = natD (l.take i) * 10 + (l[i].toNat - 48) := by
        rw [List.take_add_one, hg]
        exact natD_snoc _ _
      have hs1 : (lim (natD (l.take i))).length ≤ 400 := by
        have := lim_ten (natD_lt (l := l.take i) (by unfold digs; exact List.all_eq_true.2 fun x hx => List.all_eq_true.1 h2 x (List.mem_of_mem_take hx)))
        rw [List.length_take] at this
        omega
      have hs2 : (lim (natD (l.take i) * 10)).length ≤ 401 := by
        have h3 := lim_ten' (natD_lt (l := l.take i) (by unfold digs; exact List.all_eq_true.2 fun x hx => List.all_eq_true.1 h2 x (List.mem_of_mem_take hx)))
        rw [List.length_take] at h3
        omega
      have hs3 : (lim (l[i].toNat - 48)).length ≤ 2 := lim_ten (by omega)
      have m := nat_MulL (N := natD (l.take i)) (D := 10) (by omega) (by decide)
      rw [natV_ten] at m
      have o := nat_Of (l[i].toNat - 48) (by omega)
      have a := nat_AddL (N := natD (l.take i) * 10) (D := l[i].toNat - 48) (by omega) (by omega)
      rw [← hsnoc] at a
      generalize l[i] = b at *
      have e1 : ((b.toNat : Int) - 48) = ((b.toNat - 48 : Nat) : Int) := by omega
      have e2 : IntKind.u8.wrap ((b.toNat - 48 : Nat) : Int) = ((b.toNat - 48 : Nat) : Int) := wU8 (by omega)
      have e3 : IntKind.u64.wrap ((b.toNat - 48 : Nat) : Int) = ((b.toNat - 48 : Nat) : Int) := wU64 (by omega)
      clear hs1 hs2 hs3 hsnoc
      rcases hc with ⟨h00, i4, i24, i25, i31⟩ | ⟨i4, x, y, z, i24, i25, i31⟩
      · subst h00
        rw [List.take_zero, natD_nil, natV_zero] at m
        rw [List.take_zero, natD_nil] at a
        repeat (first | (simp only [go_sem, Nat.reduceEqDiff, Nat.reduceAdd, Nat.reduceSub, Nat.reduceMul, Nat.reduceLeDiff, Nat.reduceLT, reduceIte, reduceCtorEq, Nat.succ_ne_zero, elemsC, Int.reduceToNat, Nat.reducePow, i0, i19, i20, i4, i24, i25, i31, vo_ix, idxB_bs, hg, e1, e2, e3]) | (simp (disch := (first | omega | (simp only [AL, List.length_map]; omega))) only [AR, AL, ifT, ifF, take_all, List.length_cons, List.length_nil, Int.reduceToNat, Int.reducePow, Nat.reducePow, i0, i19, i20, i4, i24, i25, i31, vo_ix, idxB_bs, hg, e1, e2, e3]) | (refine wk_intro (by kernel_rfl) ?_) | (refine vp_draw (id := 7) (l := [4, 24, 25, 31]) (by kernel_rfl) ?_) | (refine vf_of (by first | exact m | exact o | exact a) ?_))
        exact ⟨⟨1, rfl, by omega, .inr ⟨rfl, _, _, _, rfl, rfl, rfl⟩⟩, by omega⟩
      · repeat (first | (simp only [go_sem, Nat.reduceEqDiff, Nat.reduceAdd, Nat.reduceSub, Nat.reduceMul, Nat.reduceLeDiff, Nat.reduceLT, reduceIte, reduceCtorEq, Nat.succ_ne_zero, elemsC, Int.reduceToNat, Nat.reducePow, i0, i19, i20, i4, i24, i25, i31, vo_ix, idxB_bs, hg, e1, e2, e3]) | (simp (disch := (first | omega | (simp only [AL, List.length_map]; omega))) only [AR, AL, ifT, ifF, take_all, List.length_cons, List.length_nil, Int.reduceToNat, Int.reducePow, Nat.reducePow, i0, i19, i20, i4, i24, i25, i31, vo_ix, idxB_bs, hg, e1, e2, e3]) | (refine wk_intro (by kernel_rfl) ?_) | (refine vp_draw (id := 7) (l := [4, 24, 25, 31]) (by kernel_rfl) ?_))
        repeat (first | (simp only [go_sem, Nat.reduceEqDiff, Nat.reduceAdd, Nat.reduceSub, Nat.reduceMul, Nat.reduceLeDiff, Nat.reduceLT, reduceIte, reduceCtorEq, Nat.succ_ne_zero, elemsC, Int.reduceToNat, Nat.reducePow, i0, i19, i20, i4, i24, i25, i31, vo_ix, idxB_bs, hg, e1, e2, e3]) | (simp (disch := (first | omega | (simp only [AL, List.length_map]; omega))) only [AR, AL, ifT, ifF, take_all, List.length_cons, List.length_nil, Int.reduceToNat, Int.reducePow, Nat.reducePow, i0, i19, i20, i4, i24, i25, i31, vo_ix, idxB_bs, hg, e1, e2, e3]) | (refine wk_intro (by kernel_rfl) ?_) | (refine vp_draw (id := 7) (l := [4, 24, 25, 31]) (by kernel_rfl) ?_) | (refine vf_of (by first | exact m | exact o | exact a) ?_))
        exact ⟨⟨i + 1, rfl, by omega, .inr ⟨rfl, _, _, _, rfl, rfl, rfl⟩⟩, by omega⟩
end Go.Proofs.YtkkmnjhecjkhgaaGreatDoor
namespace Go.Proofs.YtkkmnjhecjkhgaaGreatDoor
open Go.Ev
theorem lite_HasPrefix (l : List UInt8) (c : UInt8) : Go.Ev.Fn CX 150 [.str (bs l), .str (bs [c])] (.bool (l.head? == some c)) := by
  refine Go.Ev.Fn.intro (fn := Tryz.f150) (body := (Tryz.f150).body.get!) (by kernel_rfl) (by kernel_rfl) (by kernel_rfl) (fun _ => rfl) (Nat.le_of_ble_eq_true (by kernel_rfl)) ?_; unfold Tryz.f150; simp only [Option.get!_some]
  cases l with
  | nil =>
    repeat (first | (simp only [go_sem, Nat.reduceEqDiff, Nat.reduceAdd, Nat.reduceSub, Nat.reduceMul, Nat.reduceLeDiff, Nat.reduceLT, reduceIte, reduceCtorEq, Nat.succ_ne_zero, elemsC, Int.reduceToNat, Nat.reducePow, bs_size]) | (simp (disch := (first | omega | (simp only [AL, List.length_map]; omega))) only [AR, AL, ifT, ifF, take_all, List.length_cons, List.length_nil, Int.reduceToNat, Int.reducePow, Nat.reducePow, bs_size]) | (refine wk_intro (by kernel_rfl) ?_))
    rfl
  | cons b l =>
    have e : ([b] == [c]) = (b == c) := by simp
    have e2 : ((b :: l).head? == some c) = (b == c) := by simp
    rw [e2]
    repeat (first | (simp only [go_sem, Nat.reduceEqDiff, Nat.reduceAdd, Nat.reduceSub, Nat.reduceMul, Nat.reduceLeDiff, Nat.reduceLT, reduceIte, reduceCtorEq, Nat.succ_ne_zero, elemsC, Int.reduceToNat, Nat.reducePow, bs_size, bs_extract, bs_list, Nat.sub_zero, e]) | (simp (disch := (first | omega | (simp only [AL, List.length_map]; omega))) only [AR, AL, ifT, ifF, take_all, List.length_cons, List.length_nil, Int.reduceToNat, Int.reducePow, Nat.reducePow, bs_size, bs_extract, bs_list, Nat.sub_zero, e]) | (refine wk_intro (by kernel_rfl) ?_))
theorem lite_CutPrefix (l : List UInt8) (c : UInt8) : Go.Ev.Fn CX 124 [.str (bs l), .str (bs [c])] (.tup [.str (bs (if l.head? == some c then l.tail else l)), .bool (l.head? == some c)]) := by
  have h := lite_HasPrefix l c
  refine Go.Ev.Fn.intro (fn := Tryz.f124) (body := (Tryz.f124).body.get!) (by kernel_rfl) (by kernel_rfl) (by kernel_rfl) (fun _ => rfl) (Nat.le_of_ble_eq_true (by kernel_rfl)) ?_; unfold Tryz.f124; simp only [Option.get!_some]
  cases hc : l.head? == some c with
  | false =>
    rw [hc] at h
    simp only [go_sem, Nat.reduceEqDiff, Nat.reduceAdd, Nat.reduceSub, Nat.reduceMul, Nat.reduceLeDiff, Nat.reduceLT, reduceIte, reduceCtorEq, Nat.succ_ne_zero, elemsC, Int.reduceToNat, Nat.reducePow]
    refine vf_of (h) ?_; simp only [go_sem, Nat.reduceEqDiff, Nat.reduceAdd, Nat.reduceSub, Nat.reduceMul, Nat.reduceLeDiff, Nat.reduceLT, reduceIte, reduceCtorEq, Nat.succ_ne_zero, elemsC, Int.reduceToNat, Nat.reducePow, Bool.not_false]
  | true =>
    rw [hc] at h
    cases l with
    | nil => cases hc
    | cons b l =>
      have e : List.take (l.length + 1 - 1) l = l := List.take_of_length_le (by omega)
      repeat (first | (simp only [go_sem, Nat.reduceEqDiff, Nat.reduceAdd, Nat.reduceSub, Nat.reduceMul, Nat.reduceLeDiff, Nat.reduceLT, reduceIte, reduceCtorEq, Nat.succ_ne_zero, elemsC, Int.reduceToNat, Nat.reducePow, bs_size, Bool.not_true, bs_extract, List.tail_cons, e]) | (simp (disch := (first | omega | (simp only [AL, List.length_map]; omega))) only [AR, AL, ifT, ifF, take_all, List.length_cons, List.length_nil, Int.reduceToNat, Int.reducePow, Nat.reducePow, bs_size, Bool.not_true, bs_extract, List.tail_cons, e]) | (refine wk_intro (by kernel_rfl) ?_) | (refine vf_of (by first | exact h) ?_))
theorem str_CutPrefix (l : List UInt8) (c : UInt8) : Go.Ev.Fn CX 86 [.str (bs l), .str (bs [c])] (.tup [.str (bs (if l.head? == some c then l.tail else l)), .bool (l.head? == some c)]) := by
  have h := lite_CutPrefix l c
  refine Go.Ev.Fn.intro (fn := Tryz.f86) (body := (Tryz.f86).body.get!) (by kernel_rfl) (by kernel_rfl) (by kernel_rfl) (fun _ => rfl) (Nat.le_of_ble_eq_true (by kernel_rfl)) ?_; unfold Tryz.f86; simp only [Option.get!_some]
  simp only [go_sem, Nat.reduceEqDiff, Nat.reduceAdd, Nat.reduceSub, Nat.reduceMul, Nat.reduceLeDiff, Nat.reduceLT, reduceIte, reduceCtorEq, Nat.succ_ne_zero, elemsC, Int.reduceToNat, Nat.reducePow]
  refine vf_of (h) ?_; simp only [go_sem, Nat.reduceEqDiff, Nat.reduceAdd, Nat.reduceSub, Nat.reduceMul, Nat.reduceLeDiff, Nat.reduceLT, reduceIte, reduceCtorEq, Nat.succ_ne_zero, elemsC, Int.reduceToNat, Nat.reducePow]
theorem pow_lim {k : Nat} : (lim (10 ^ k)).length ≤ k + 1 := lim_ten (Nat.pow_lt_pow_right (by omega) (by omega))
theorem dec_ten (n : Nat) (hn : n ≤ 400) : Go.Ev.Fn CX 89 [.int .i64 (n : Int)] (natV (lim (10 ^ n))) := by
  have o1 := nat_Of 1 (by omega)
  have o10 := nat_Of 10 (by omega)
  refine Go.Ev.Fn.intro (fn := Tryz.f89) (body := (Tryz.f89).body.get!) (by kernel_rfl) (by kernel_rfl) (by kernel_rfl) (fun _ => rfl) (Nat.le_of_ble_eq_true (by kernel_rfl)) ?_; unfold Tryz.f89; simp only [Option.get!_some]
  repeat (first | (simp only [go_sem, Nat.reduceEqDiff, Nat.reduceAdd, Nat.reduceSub, Nat.reduceMul, Nat.reduceLeDiff, Nat.reduceLT, reduceIte, reduceCtorEq, Nat.succ_ne_zero, elemsC, Int.reduceToNat, Nat.reducePow]) | (simp (disch := (first | omega | (simp only [AL, List.length_map]; omega))) only [AR, AL, ifT, ifF, take_all, List.length_cons, List.length_nil, Int.reduceToNat, Int.reducePow, Nat.reducePow]) | (refine wk_intro (by kernel_rfl) ?_) | (refine vf_of (by first | exact o1) ?_))
  refine vp_loop_inv (fun s => s.tmp 5 = .sv (.int .i64 (n : Int)) ∧ ∃ i : Nat, s.tmp 6 = .sv (.int .i64 (i : Int)) ∧ i ≤ n ∧ s.tmp 3 = .sv (natV (lim (10 ^ i))))
    (fun s => match s.tmp 6 with | .sv (.int _ i) => n - i.toNat | _ => 0) ⟨rfl, 0, rfl, by omega, rfl⟩ ?_
  rintro s2 ⟨i5, i, i6, hi, i3⟩
  by_cases hend : i = n
  · subst hend
    repeat (first | (simp only [go_sem, Nat.reduceEqDiff, Nat.reduceAdd, Nat.reduceSub, Nat.reduceMul, Nat.reduceLeDiff, Nat.reduceLT, reduceIte, reduceCtorEq, Nat.succ_ne_zero, elemsC, Int.reduceToNat, Nat.reducePow, i5, i6, i3]) | (simp (disch := (first | omega | (simp only [AL, List.length_map]; omega))) only [AR, AL, ifT, ifF, take_all, List.length_cons, List.length_nil, Int.reduceToNat, Int.reducePow, Nat.reducePow, i5, i6, i3]) | (refine wk_intro (by kernel_rfl) ?_))
  · have hp := pow_lim (k := i)
    have m := nat_MulL (N := 10 ^ i) (D := 10) (by omega) (by decide)
    rw [show 10 ^ i * 10 = 10 ^ (i + 1) by rw [Nat.pow_succ]] at m
    generalize 10 ^ i = X at *
    generalize hY : 10 ^ (i + 1) = Y at *
    repeat (first | (simp only [go_sem, Nat.reduceEqDiff, Nat.reduceAdd, Nat.reduceSub, Nat.reduceMul, Nat.reduceLeDiff, Nat.reduceLT, reduceIte, reduceCtorEq, Nat.succ_ne_zero, elemsC, Int.reduceToNat, Nat.reducePow, i5, i6, i3]) | (simp (disch := (first | omega | (simp only [AL, List.length_map]; omega))) only [AR, AL, ifT, ifF, take_all, List.length_cons, List.length_nil, Int.reduceToNat, Int.reducePow, Nat.reducePow, i5, i6, i3]) | (refine wk_intro (by kernel_rfl) ?_) | (refine vf_of (by first | exact o10 | exact m) ?_))
    exact ⟨⟨i + 1, rfl, by omega, by rw [hY]⟩, by omega⟩
def noR : SV := .agg [.bool false, .sl 0 [], .sl 0 []]
def decPV (l : List UInt8) : SV := match decP l with
  | some q => .tup [rv q, .int .i64 0]
  | none => .tup [noR, .int .i64 2]
theorem parse_len {l : List UInt8} {n : Nat} (h : natP l = some n) : (lim n).length ≤ 400 := by
  unfold natP at h
  split at h
  · cases h
  · rename_i hc
    cases h
    have h1 : ¬ 400 < l.length := fun e => hc (.inr (.inl e))
    have h2 : digs l = true := by
      cases e : digs l with
      | true => rfl
      | false => exact absurd (.inr (.inr e)) hc
    have h3 := lim_ten (natD_lt h2)
    omega
theorem front_len {c : UInt8} {l : List UInt8} : (frontL c l).length ≤ l.length := (List.takeWhile_sublist _).length_le
theorem abs_eq (l : List UInt8) : (if l.head? == some 45 then l.tail else l) = absP l := rfl
theorem parseV_some {l : List UInt8} {n : Nat} (h : natP l = some n) : parseV l = .tup [natV (lim n), .bool true] := by unfold parseV; rw [h]
theorem parseV_none {l : List UInt8} (h : natP l = none) : parseV l = .tup [natV (lim 0), .bool false] := by unfold parseV; rw [h]; rfl
theorem lim_ne {d : Nat} (h : d ≠ 0) : ((lim d).length : Int) ≠ 0 := by
  intro e
  have : lim d = [] := List.eq_nil_of_length_eq_zero (by omega)
  exact h (lim_eq_nil.1 this)
set_option maxHeartbeats 2000000 in
theorem dec_Parse (l : List UInt8) (hl : l.length ≤ 400) : Go.Ev.Fn CX 55 [.str (bs l)] (decPV l) := by
  have hp := str_CutPrefix l 45
  rw [abs_eq, show (l.head? == some 45) = negP l from rfl] at hp
  have ha : (absP l).length ≤ 400 := by
    unfold absP
    split
    · rw [List.length_tail]; omega
    · exact hl
  generalize hA : absP l = A at *
  have c46 := str_Cut CX_str A 46 (by omega)
  have c47 := str_Cut CX_str A 47 (by omega)
  have f46 := front_len (c := 46) (l := A)
  have b46 := back_len (c := 46) (l := A)
  have f47 := front_len (c := 47) (l := A)
  have b47 := back_len (c := 47) (l := A)
  generalize hN : negP l = ng at *
  cases h46 : A.contains 46 with
  | true =>
    rw [h46] at c46
    have p1 := nat_Parse (backL 46 A) (by omega)
    have p2 := nat_Parse (frontL 46 A ++ backL 46 A) (by rw [List.length_append]; omega)
    generalize hF : frontL 46 A = F at *
    generalize hB : backL 46 A = B at *
    by_cases hF0 : F = []
    · have hFb : (F == []) = true := by rw [hF0]; rfl
      have e : decPV l = .tup [noR, .int .i64 2] := by unfold decPV decP; rw [hA]; simp only [h46, hF, if_true, hF0]
      rw [e]
      clear e
      have q1 : ∃ v b, parseV B = .tup [v, .bool b] := by
        cases n1 : natP B with
        | none => exact ⟨_, _, parseV_none n1⟩
        | some m => exact ⟨_, _, parseV_some n1⟩
      have q2 : ∃ v b, parseV (F ++ B) = .tup [v, .bool b] := by
        cases n1 : natP (F ++ B) with
        | none => exact ⟨_, _, parseV_none n1⟩
        | some m => exact ⟨_, _, parseV_some n1⟩
      obtain ⟨v1, b1, q1⟩ := q1
      obtain ⟨v2, b2, q2⟩ := q2
      rw [q1] at p1
      rw [q2] at p2
      refine Go.Ev.Fn.intro (fn := Tryz.f55) (body := (Tryz.f55).body.get!) (by kernel_rfl) (by kernel_rfl) (by kernel_rfl) (fun _ => rfl) (Nat.le_of_ble_eq_true (by kernel_rfl)) ?_; unfold Tryz.f55; simp only [Option.get!_some]
      repeat (first | (simp only [go_sem, Nat.reduceEqDiff, Nat.reduceAdd, Nat.reduceSub, Nat.reduceMul, Nat.reduceLeDiff, Nat.reduceLT, reduceIte, reduceCtorEq, Nat.succ_ne_zero, elemsC, Int.reduceToNat, Nat.reducePow, mk_bs, bs_size, bs_append, bs_list, hFb, noR]) | (simp (disch := (first | omega | (simp only [AL, List.length_map]; omega))) only [AR, AL, ifT, ifF, take_all, List.length_cons, List.length_nil, Int.reduceToNat, Int.reducePow, Nat.reducePow, mk_bs, bs_size, bs_append, bs_list, hFb, noR]) | (refine wk_intro (by kernel_rfl) ?_) | (refine vf_of (by first | exact hp | exact c46 | exact p1 | exact p2) ?_))
    · have hFb : (F == []) = false := by simpa using hF0
      cases n1 : natP B with
      | none =>
        have q2 : ∃ v b, parseV (F ++ B) = .tup [v, .bool b] := by
          cases n1 : natP (F ++ B) with
          | none => exact ⟨_, _, parseV_none n1⟩
          | some m => exact ⟨_, _, parseV_some n1⟩
        obtain ⟨v2, b2, q2⟩ := q2
        rw [parseV_none n1] at p1
        rw [q2] at p2
        have e : decPV l = .tup [noR, .int .i64 2] := by unfold decPV decP; rw [hA]; simp only [h46, hF, hB, if_true, hF0, if_false, n1]
        rw [e]
        clear e
        refine Go.Ev.Fn.intro (fn := Tryz.f55) (body := (Tryz.f55).body.get!) (by kernel_rfl) (by kernel_rfl) (by kernel_rfl) (fun _ => rfl) (Nat.le_of_ble_eq_true (by kernel_rfl)) ?_; unfold Tryz.f55; simp only [Option.get!_some]
        repeat (first | (simp only [go_sem, Nat.reduceEqDiff, Nat.reduceAdd, Nat.reduceSub, Nat.reduceMul, Nat.reduceLeDiff, Nat.reduceLT, reduceIte, reduceCtorEq, Nat.succ_ne_zero, elemsC, Int.reduceToNat, Nat.reducePow, mk_bs, bs_size, bs_append, bs_list, hFb, Bool.not_false, noR]) | (simp (disch := (first | omega | (simp only [AL, List.length_map]; omega))) only [AR, AL, ifT, ifF, take_all, List.length_cons, List.length_nil, Int.reduceToNat, Int.reducePow, Nat.reducePow, mk_bs, bs_size, bs_append, bs_list, hFb, Bool.not_false, noR]) | (refine wk_intro (by kernel_rfl) ?_) | (refine vf_of (by first | exact hp | exact c46 | exact p1 | exact p2) ?_))
      | some m =>
        rw [parseV_some n1] at p1
        cases n2 : natP (F ++ B) with
        | none =>
          rw [parseV_none n2] at p2
          have e : decPV l = .tup [noR, .int .i64 2] := by unfold decPV decP; rw [hA]; simp only [h46, hF, hB, if_true, hF0, if_false, n1, n2]
          rw [e]
          clear e
          refine Go.Ev.Fn.intro (fn := Tryz.f55) (body := (Tryz.f55).body.get!) (by kernel_rfl) (by kernel_rfl) (by kernel_rfl) (fun _ => rfl) (Nat.le_of_ble_eq_true (by kernel_rfl)) ?_; unfold Tryz.f55; simp only [Option.get!_some]
          repeat (first | (simp only [go_sem, Nat.reduceEqDiff, Nat.reduceAdd, Nat.reduceSub, Nat.reduceMul, Nat.reduceLeDiff, Nat.reduceLT, reduceIte, reduceCtorEq, Nat.succ_ne_zero, elemsC, Int.reduceToNat, Nat.reducePow, mk_bs, bs_size, bs_append, bs_list, hFb, Bool.not_false, Bool.not_true, noR]) | (simp (disch := (first | omega | (simp only [AL, List.length_map]; omega))) only [AR, AL, ifT, ifF, take_all, List.length_cons, List.length_nil, Int.reduceToNat, Int.reducePow, Nat.reducePow, mk_bs, bs_size, bs_append, bs_list, hFb, Bool.not_false, Bool.not_true, noR]) | (refine wk_intro (by kernel_rfl) ?_) | (refine vf_of (by first | exact hp | exact c46 | exact p1 | exact p2) ?_))
        | some n =>
          rw [parseV_some n2] at p2
          have ht := dec_ten B.length (by omega)
          have o := rat_OfL (s := ng) (n := n) (d := 10 ^ B.length) (by have := parse_len n2; omega) (by have := pow_lim (k := B.length); omega)
          have e : decPV l = .tup [rv (mkRat (sgn ng n) (10 ^ B.length)), .int .i64 0] := by unfold decPV decP; rw [hA]; simp only [h46, hF, hB, if_true, hF0, if_false, n1, n2, hN]
          rw [e]
          clear e
          generalize mkRat (sgn ng n) (10 ^ B.length) = q at *
          refine Go.Ev.Fn.intro (fn := Tryz.f55) (body := (Tryz.f55).body.get!) (by kernel_rfl) (by kernel_rfl) (by kernel_rfl) (fun _ => rfl) (Nat.le_of_ble_eq_true (by kernel_rfl)) ?_; unfold Tryz.f55; simp only [Option.get!_some]
          repeat (first | (simp only [go_sem, Nat.reduceEqDiff, Nat.reduceAdd, Nat.reduceSub, Nat.reduceMul, Nat.reduceLeDiff, Nat.reduceLT, reduceIte, reduceCtorEq, Nat.succ_ne_zero, elemsC, Int.reduceToNat, Nat.reducePow, mk_bs, bs_size, bs_append, bs_list, hFb, Bool.not_true, rv, ratV]) | (simp (disch := (first | omega | (simp only [AL, List.length_map]; omega))) only [AR, AL, ifT, ifF, take_all, List.length_cons, List.length_nil, Int.reduceToNat, Int.reducePow, Nat.reducePow, mk_bs, bs_size, bs_append, bs_list, hFb, Bool.not_true, rv, ratV]) | (refine wk_intro (by kernel_rfl) ?_) | (refine vf_of (by first | exact hp | exact c46 | exact p1 | exact p2 | exact ht | exact o) ?_))
  | false =>
    rw [h46] at c46
    have p1 := nat_Parse (frontL 47 A) (by omega)
    have hden : ∃ D, D = (if A.contains 47 then backL 47 A else [49]) ∧ D.length ≤ 400 := by
      refine ⟨_, rfl, ?_⟩
      split
      · omega
      · decide
    obtain ⟨D, hD, hDl⟩ := hden
    have p2 := nat_Parse D (by omega)
    have hd : decPV l = match (match natP (frontL 47 A), natP D with | some n, some d => if d = 0 then none else some (mkRat (sgn ng n) d) | _, _ => none) with
        | some q => .tup [rv q, .int .i64 0]
        | none => .tup [noR, .int .i64 2] := by
      unfold decPV decP
      rw [hA, hN, h46, hD]
      rfl
    rw [hd]
    clear hd
    generalize frontL 47 A = F at *
    cases n1 : natP F with
    | none =>
      have q2 : ∃ v b, parseV D = .tup [v, .bool b] := by
        cases n1 : natP D with
        | none => exact ⟨_, _, parseV_none n1⟩
        | some m => exact ⟨_, _, parseV_some n1⟩
      obtain ⟨v2, b2, q2⟩ := q2
      rw [parseV_none n1] at p1
      rw [q2] at p2
      dsimp only
      cases h47 : A.contains 47 with
      | true =>
        rw [h47] at c47 hD
        simp only [if_true] at hD
        rw [hD] at p2
        refine Go.Ev.Fn.intro (fn := Tryz.f55) (body := (Tryz.f55).body.get!) (by kernel_rfl) (by kernel_rfl) (by kernel_rfl) (fun _ => rfl) (Nat.le_of_ble_eq_true (by kernel_rfl)) ?_; unfold Tryz.f55; simp only [Option.get!_some]
        repeat (first | (simp only [go_sem, Nat.reduceEqDiff, Nat.reduceAdd, Nat.reduceSub, Nat.reduceMul, Nat.reduceLeDiff, Nat.reduceLT, reduceIte, reduceCtorEq, Nat.succ_ne_zero, elemsC, Int.reduceToNat, Nat.reducePow, mk_bs, bs_size, Bool.not_true, bs_list, Bool.not_false, noR]) | (simp (disch := (first | omega | (simp only [AL, List.length_map]; omega))) only [AR, AL, ifT, ifF, take_all, List.length_cons, List.length_nil, Int.reduceToNat, Int.reducePow, Nat.reducePow, mk_bs, bs_size, Bool.not_true, bs_list, Bool.not_false, noR]) | (refine wk_intro (by kernel_rfl) ?_) | (refine vf_of (by first | exact hp | exact c46 | exact c47 | exact p1 | exact p2) ?_))
      | false =>
        rw [h47] at c47 hD
        simp only [Bool.false_eq_true, if_false] at hD
        rw [hD] at p2
        refine Go.Ev.Fn.intro (fn := Tryz.f55) (body := (Tryz.f55).body.get!) (by kernel_rfl) (by kernel_rfl) (by kernel_rfl) (fun _ => rfl) (Nat.le_of_ble_eq_true (by kernel_rfl)) ?_; unfold Tryz.f55; simp only [Option.get!_some]
        repeat (first | (simp only [go_sem, Nat.reduceEqDiff, Nat.reduceAdd, Nat.reduceSub, Nat.reduceMul, Nat.reduceLeDiff, Nat.reduceLT, reduceIte, reduceCtorEq, Nat.succ_ne_zero, elemsC, Int.reduceToNat, Nat.reducePow, mk_bs, bs_size, Bool.not_false, bs_list, noR]) | (simp (disch := (first | omega | (simp only [AL, List.length_map]; omega))) only [AR, AL, ifT, ifF, take_all, List.length_cons, List.length_nil, Int.reduceToNat, Int.reducePow, Nat.reducePow, mk_bs, bs_size, Bool.not_false, bs_list, noR]) | (refine wk_intro (by kernel_rfl) ?_) | (refine vf_of (by first | exact hp | exact c46 | exact c47 | exact p1 | exact p2) ?_))
    | some n =>
      rw [parseV_some n1] at p1
      have l1 := parse_len n1
      cases n2 : natP D with
      | none =>
        rw [parseV_none n2] at p2
        dsimp only
        cases h47 : A.contains 47 with
        | true =>
          rw [h47] at c47 hD
          simp only [if_true] at hD
          rw [hD] at p2
          refine Go.Ev.Fn.intro (fn := Tryz.f55) (body := (Tryz.f55).body.get!) (by kernel_rfl) (by kernel_rfl) (by kernel_rfl) (fun _ => rfl) (Nat.le_of_ble_eq_true (by kernel_rfl)) ?_; unfold Tryz.f55; simp only [Option.get!_some]
          repeat (first | (simp only [go_sem, Nat.reduceEqDiff, Nat.reduceAdd, Nat.reduceSub, Nat.reduceMul, Nat.reduceLeDiff, Nat.reduceLT, reduceIte, reduceCtorEq, Nat.succ_ne_zero, elemsC, Int.reduceToNat, Nat.reducePow, mk_bs, bs_size, Bool.not_true, bs_list, Bool.not_false, noR]) | (simp (disch := (first | omega | (simp only [AL, List.length_map]; omega))) only [AR, AL, ifT, ifF, take_all, List.length_cons, List.length_nil, Int.reduceToNat, Int.reducePow, Nat.reducePow, mk_bs, bs_size, Bool.not_true, bs_list, Bool.not_false, noR]) | (refine wk_intro (by kernel_rfl) ?_) | (refine vf_of (by first | exact hp | exact c46 | exact c47 | exact p1 | exact p2) ?_))
        | false =>
          rw [h47] at hD
          simp only [Bool.false_eq_true, if_false] at hD
          subst hD
          have : natP [49] = some 1 := rfl
          rw [this] at n2
          cases n2
      | some d =>
        rw [parseV_some n2] at p2
        dsimp only
        have l2 := parse_len n2
        by_cases hd0 : d = 0
        · subst hd0
          rw [if_pos rfl]
          dsimp only
          rw [natV_zero] at p2
          cases h47 : A.contains 47 with
          | true =>
            rw [h47] at c47 hD
            simp only [if_true] at hD
            rw [hD] at p2
            refine Go.Ev.Fn.intro (fn := Tryz.f55) (body := (Tryz.f55).body.get!) (by kernel_rfl) (by kernel_rfl) (by kernel_rfl) (fun _ => rfl) (Nat.le_of_ble_eq_true (by kernel_rfl)) ?_; unfold Tryz.f55; simp only [Option.get!_some]
            repeat (first | (simp only [go_sem, Nat.reduceEqDiff, Nat.reduceAdd, Nat.reduceSub, Nat.reduceMul, Nat.reduceLeDiff, Nat.reduceLT, reduceIte, reduceCtorEq, Nat.succ_ne_zero, elemsC, Int.reduceToNat, Nat.reducePow, mk_bs, bs_size, Bool.not_true, bs_list, Bool.not_false, noR]) | (simp (disch := (first | omega | (simp only [AL, List.length_map]; omega))) only [AR, AL, ifT, ifF, take_all, List.length_cons, List.length_nil, Int.reduceToNat, Int.reducePow, Nat.reducePow, mk_bs, bs_size, Bool.not_true, bs_list, Bool.not_false, noR]) | (refine wk_intro (by kernel_rfl) ?_) | (refine vf_of (by first | exact hp | exact c46 | exact c47 | exact p1 | exact p2) ?_))
          | false =>
            rw [h47] at hD
            simp only [Bool.false_eq_true, if_false] at hD
            subst hD
            have : natP [49] = some 1 := rfl
            rw [this] at n2
            cases n2
        · rw [if_neg hd0]
          dsimp only
          have hne := lim_ne hd0
          have o := rat_OfL (s := ng) (n := n) (d := d) (by omega) (by omega)
          generalize mkRat (sgn ng n) d = q at *
          cases h47 : A.contains 47 with
          | true =>
            rw [h47] at c47 hD
            simp only [if_true] at hD
            rw [hD] at p2
            refine Go.Ev.Fn.intro (fn := Tryz.f55) (body := (Tryz.f55).body.get!) (by kernel_rfl) (by kernel_rfl) (by kernel_rfl) (fun _ => rfl) (Nat.le_of_ble_eq_true (by kernel_rfl)) ?_; unfold Tryz.f55; simp only [Option.get!_some]
            repeat (first | (simp only [go_sem, Nat.reduceEqDiff, Nat.reduceAdd, Nat.reduceSub, Nat.reduceMul, Nat.reduceLeDiff, Nat.reduceLT, reduceIte, reduceCtorEq, Nat.succ_ne_zero, elemsC, Int.reduceToNat, Nat.reducePow, mk_bs, bs_size, Bool.not_true, bs_list, Bool.not_false, rv, ratV]) | (simp (disch := (first | omega | (simp only [AL, List.length_map]; omega))) only [AR, AL, ifT, ifF, take_all, List.length_cons, List.length_nil, Int.reduceToNat, Int.reducePow, Nat.reducePow, mk_bs, bs_size, Bool.not_true, bs_list, Bool.not_false, rv, ratV]) | (refine wk_intro (by kernel_rfl) ?_) | (refine vf_of (by first | exact hp | exact c46 | exact c47 | exact p1 | exact p2 | exact o) ?_))
          | false =>
            rw [h47] at c47 hD
            simp only [Bool.false_eq_true, if_false] at hD
            rw [hD] at p2
            refine Go.Ev.Fn.intro (fn := Tryz.f55) (body := (Tryz.f55).body.get!) (by kernel_rfl) (by kernel_rfl) (by kernel_rfl) (fun _ => rfl) (Nat.le_of_ble_eq_true (by kernel_rfl)) ?_; unfold Tryz.f55; simp only [Option.get!_some]
            repeat (first | (simp only [go_sem, Nat.reduceEqDiff, Nat.reduceAdd, Nat.reduceSub, Nat.reduceMul, Nat.reduceLeDiff, Nat.reduceLT, reduceIte, reduceCtorEq, Nat.succ_ne_zero, elemsC, Int.reduceToNat, Nat.reducePow, mk_bs, bs_size, Bool.not_false, bs_list, Bool.not_true, rv, ratV]) | (simp (disch := (first | omega | (simp only [AL, List.length_map]; omega))) only [AR, AL, ifT, ifF, take_all, List.length_cons, List.length_nil, Int.reduceToNat, Int.reducePow, Nat.reducePow, mk_bs, bs_size, Bool.not_false, bs_list, Bool.not_true, rv, ratV]) | (refine wk_intro (by kernel_rfl) ?_) | (refine vf_of (by first | exact hp | exact c46 | exact c47 | exact p1 | exact p2 | exact o) ?_))
end Go.Proofs.YtkkmnjhecjkhgaaGreatDoor
namespace Go.Ev
def dgN : Nat → Nat → List UInt8
  | 0, _ => []
  | k + 1, n => UInt8.ofNat (48 + n % 10) :: dgN k (n / 10)
theorem dgN_len : ∀ (k n : Nat), (dgN k n).length = k
  | 0, _ => rfl
  | k + 1, n => by rw [dgN, List.length_cons, dgN_len k]
theorem dgN_digs : ∀ (k n : Nat), digs (dgN k n) = true
  | 0, _ => rfl
  | k + 1, n => by
    rw [dgN]
    unfold digs
    rw [List.all_cons, dig_ofNat, Bool.true_and]
    exact dgN_digs k _
theorem natLE_dgN : ∀ (k n : Nat), natLE (dgN k n) = n % 10 ^ k
  | 0, n => by rw [dgN, natLE, Nat.pow_zero, Nat.mod_one]
  | k + 1, n => by
    rw [dgN, natLE, dig_of, natLE_dgN k, Nat.pow_succ', Nat.mod_mul]
    omega
theorem dgN_snoc : ∀ (k n : Nat), dgN (k + 1) n = dgN k n ++ [UInt8.ofNat (48 + n / 10 ^ k % 10)]
  | 0, n => by simp [dgN]
  | k + 1, n => by
    rw [dgN, dgN_snoc k, dgN, List.cons_append, Nat.div_div_eq_div_mul, ← Nat.pow_succ']
theorem digs_app {a b : List UInt8} : digs (a ++ b) = (digs a && digs b) := by unfold digs; rw [List.all_append]
theorem dgR_strip {l : List UInt8} {n : Nat} (hd : digs l = true) (hv : natLE l = n) (hn : n ≠ 0) :
    (∃ c : UInt8, l.getLast? = some c ∧ c ≠ 48 ∧ l = dgR n) ∨ (∃ l', l = l' ++ [48] ∧ l' ≠ [] ∧ digs l' = true ∧ natLE l' = n) := by
  have hne : l ≠ [] := fun h => by subst h; exact hn hv.symm
  obtain ⟨a, c, rfl⟩ : ∃ a c, l = a ++ [c] := ⟨l.dropLast, l.getLast hne, (List.dropLast_concat_getLast hne).symm⟩
  by_cases hc : c = 48
  · subst hc
    right
    rw [digs_app, Bool.and_eq_true] at hd
    have h2 : natLE a = n := by
      rw [natLE_append] at hv
      simpa [natLE] using hv
    refine ⟨a, rfl, fun h => ?_, hd.1, h2⟩
    subst h
    exact hn h2.symm
  · left
    refine ⟨c, by simp, hc, ?_⟩
    rw [← hv]
    exact (dgR_unique hd (.inr ⟨a, c, rfl, hc⟩)).symm
theorem dec_pos {n : Nat} (h : n ≠ 0) : dec n = (dgR n).reverse := by unfold dec; rw [if_neg h]
theorem dgR_len_le {n k : Nat} (h : n < 10 ^ k) : (dgR n).length ≤ k := by
  induction k generalizing n with
  | zero =>
    have : n = 0 := by simpa using h
    subst this
    rw [dgR_zero]
    simp
  | succ k ih =>
    by_cases hn : n = 0
    · subst hn; rw [dgR_zero]; simp
    · rw [dgR_pos hn, List.length_cons]
      have := ih (n := n / 10) (by rw [Nat.pow_succ] at h; omega)
      omega
theorem dec_len_le {n k : Nat} (h : n < 10 ^ k) (hk : 1 ≤ k) : (dec n).length ≤ k := by
  unfold dec
  split
  · simpa using hk
  · rw [List.length_reverse]
    exact dgR_len_le h
def u8c (l : List UInt8) : List SV := l.map fun b => .int .u8 (b.toNat : Int)
theorem u8c_len (l : List UInt8) : (u8c l).length = l.length := by simp [u8c]
theorem u8c_app (a b : List UInt8) : u8c (a ++ b) = u8c a ++ u8c b := by simp [u8c]
theorem u8c_bytes (l : List UInt8) : bytesOf (u8c l) = some l := by
  induction l with
  | nil => rfl
  | cons b l ih =>
    show (match bytesOf (u8c l) with | some l => some (UInt8.ofNat (b.toNat : Int).toNat :: l) | none => none) = _
    rw [ih]
    simp
end Go.Ev
