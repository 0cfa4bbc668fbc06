/- Part 7 of the proof: the evaluator, contracts of functions and their plain laws (joined by program). No condition. -/
import Derived.Test.YtemnjalaincijaaGreatPart6
/- The document's naturals (vernierref1): DivMod and Gcd, in the evaluator. -/
namespace Go.Proofs.YtemnjalaincijaaGreat
set_option linter.unusedSimpArgs false
set_option linter.unusedVariables false
set_option maxRecDepth 8000
open Go.Ev
theorem wth_at (xs : List Nat) {w : Nat} (h : w < xs.length) : wth xs = wth (xs.take w) + 4294967296 ^ w * (xs.getD w 0 + 4294967296 * wth (xs.drop (w + 1))) := by
  conv => lhs; rw [← List.take_append_drop w xs, wth_append]
  rw [List.length_take, Nat.min_eq_left (by omega), wth_drop h]
theorem wth_set_add (q : List Nat) {w : Nat} (h : w < q.length) (e : Nat) : wth (q.set w (q.getD w 0 + e)) = wth q + 4294967296 ^ w * e := by
  have h1 := wth_at (q.set w (q.getD w 0 + e)) (w := w) (by rw [List.length_set]; exact h)
  rw [getD_set_self h, List.drop_set_of_lt (by omega), List.take_set_of_le (Nat.le_refl _)] at h1
  rw [h1, wth_at q h]
  generalize 4294967296 * wth (q.drop (w + 1)) = D
  rw [Nat.mul_add, Nat.mul_add, Nat.mul_add]
  omega
theorem pow_32 (J : Nat) : 2 ^ J = 4294967296 ^ (J / 32) * 2 ^ (J % 32) := by
  rw [show (4294967296 : Nat) = 2 ^ 32 by rfl, ← Nat.pow_mul, ← Nat.pow_add, Nat.div_add_mod]
theorem wth_shr (xs : List Nat) (hx : okL xs) {w : Nat} (h : w < xs.length) : wth xs / 4294967296 ^ w = xs.getD w 0 + 4294967296 * wth (xs.drop (w + 1)) := by
  rw [wth_at xs h, Nat.add_comm, Nat.mul_add_div (Nat.pow_pos (by omega)), Nat.div_eq_of_lt (wth_low hx w), Nat.add_zero]
/-- A bit of a row. -/
theorem bit_get (xs : List Nat) (hx : okL xs) (J : Nat) (h : J / 32 < xs.length) : xs.getD (J / 32) 0 / 2 ^ (J % 32) % 2 = wth xs / 2 ^ J % 2 := by
  rw [pow_32 J, ← Nat.div_div_eq_div_mul, wth_shr xs hx h]
  have hk : J % 32 < 32 := Nat.mod_lt _ (by omega)
  generalize wth (xs.drop (J / 32 + 1)) = Z
  generalize xs.getD (J / 32) 0 = x
  generalize J % 32 = j at *
  have e : x + 4294967296 * Z = x + 2 ^ j * (2 * (2 ^ (31 - j) * Z)) := by
    rw [← Nat.mul_assoc 2, ← Nat.pow_succ', ← Nat.mul_assoc, show (31 - j).succ = 32 - j by omega, pow_split hk]
  rw [e, Nat.add_mul_div_left _ _ (Nat.pow_pos (by omega)), Nat.add_mul_mod_self_left]
/-- A bit that is not there yet. -/
theorem bit_set (q : List Nat) (hq : okL q) (J Q : Nat) (h : J / 32 < q.length) (hv : wth q = Q * 2 ^ (J + 1)) :
    q.getD (J / 32) 0 ||| 2 ^ (J % 32) = q.getD (J / 32) 0 + 2 ^ (J % 32) ∧ q.getD (J / 32) 0 + 2 ^ (J % 32) < 4294967296 ∧ wth (q.set (J / 32) (q.getD (J / 32) 0 + 2 ^ (J % 32))) = (2 * Q + 1) * 2 ^ J := by
  have hk : J % 32 < 32 := Nat.mod_lt _ (by omega)
  have h1 : q.getD (J / 32) 0 = (Q * 2 ^ (J % 32 + 1)) % 4294967296 := by
    have h2 := wth_shr q hq h
    rw [hv, Nat.pow_succ, pow_32 J, Nat.mul_assoc, Nat.mul_left_comm, Nat.mul_div_cancel_left _ (Nat.pow_pos (by omega)), ← Nat.pow_succ] at h2
    rw [h2, Nat.add_mul_mod_self_left, Nat.mod_eq_of_lt (getD_lt hq _)]
  have h3 : q.getD (J / 32) 0 = 2 ^ (J % 32 + 1) * (Q % 2 ^ (31 - J % 32)) := by
    rw [h1, show (4294967296 : Nat) = 2 ^ (J % 32 + 1) * 2 ^ (31 - J % 32) by rw [← Nat.pow_add, show J % 32 + 1 + (31 - J % 32) = 32 by omega], Nat.mul_comm Q, Nat.mul_mod_mul_left]
  refine ⟨?_, ?_, ?_⟩
  · rw [h3]
    exact (Nat.two_pow_add_eq_or_of_lt (Nat.pow_lt_pow_right (by omega) (by omega)) _).symm
  · have h4 : Q % 2 ^ (31 - J % 32) + 1 ≤ 2 ^ (31 - J % 32) := Nat.mod_lt _ (Nat.pow_pos (by omega))
    have h5 : 2 ^ (J % 32 + 1) * (Q % 2 ^ (31 - J % 32) + 1) ≤ 2 ^ (J % 32 + 1) * 2 ^ (31 - J % 32) := Nat.mul_le_mul_left _ h4
    rw [← Nat.pow_add, show J % 32 + 1 + (31 - J % 32) = 32 by omega, Nat.mul_add, Nat.mul_one, ← h3] at h5
    have h6 : 0 < 2 ^ (J % 32) := Nat.pow_pos (by omega)
    have h7 : 2 ^ (J % 32 + 1) = 2 ^ (J % 32) + 2 ^ (J % 32) := by rw [Nat.pow_succ]; omega
    have h8 : (2 : Nat) ^ 32 = 4294967296 := rfl
    omega
  · rw [wth_set_add q h, hv, ← pow_32 J, Nat.pow_succ, Nat.add_mul, Nat.one_mul, Nat.mul_comm (2 ^ J) 2, ← Nat.mul_assoc, Nat.mul_comm Q 2]
/-- One bit of a division. -/
theorem bit_step {X y J r b : Nat} (hy : 0 < y) (hr : r = X / 2 ^ (J + 1) % y) (hb : b = X / 2 ^ J % 2) :
    X / 2 ^ J % y = (if y ≤ r * 2 + b then r * 2 + b - y else r * 2 + b) ∧ X / 2 ^ J / y = 2 * (X / 2 ^ (J + 1) / y) + (if y ≤ r * 2 + b then 1 else 0) := by
  have e1 : X / 2 ^ J = 2 * (X / 2 ^ (J + 1)) + b := by
    rw [Nat.pow_succ, ← Nat.div_div_eq_div_mul, hb, Nat.add_comm, Nat.mod_add_div]
  have e2 := Nat.div_add_mod (X / 2 ^ (J + 1)) y
  rw [← hr] at e2
  generalize X / 2 ^ (J + 1) / y = Q at *
  have hr' : r < y := by rw [hr]; exact Nat.mod_lt _ hy
  have hb' : b < 2 := by rw [hb]; exact Nat.mod_lt _ (by omega)
  clear hr hb
  have e3 : X / 2 ^ J = y * (2 * Q) + (r * 2 + b) := by
    rw [e1, ← e2, Nat.mul_add, Nat.mul_left_comm]
    omega
  generalize X / 2 ^ J = A at *
  subst e3
  split
  · rename_i h
    have e4 : y * (2 * Q) + (r * 2 + b) = y * (2 * Q + 1) + (r * 2 + b - y) := by rw [Nat.mul_add, Nat.mul_one]; omega
    rw [e4, Nat.mul_add_mod, Nat.mul_add_div hy, Nat.mod_eq_of_lt (by omega), Nat.div_eq_of_lt (by omega), Nat.add_zero]
    exact ⟨rfl, rfl⟩
  · rename_i h
    rw [Nat.mul_add_mod, Nat.mul_add_div hy, Nat.mod_eq_of_lt (by omega), Nat.div_eq_of_lt (by omega)]
    exact ⟨rfl, rfl⟩
theorem and_one (x : Nat) : x &&& 1 = x % 2 := Nat.and_two_pow_sub_one_eq_mod x 1
set_option maxHeartbeats 4000000 in
theorem ref1_DivMod (xs ys : List Nat) (hx : okL xs) (hy : okL ys) (hl : xs.length ≤ 16777216) (hm : ys.length ≤ 16777216) :
    Go.Ev.Fn CX 81 [natV xs, natV ys] (.tup [natV (lim (wth xs / wth ys)), natV (lim (remN (wth xs) (wth ys))), .bool (decide (wth ys ≠ 0))]) := by
  refine Go.Ev.Fn.intro (fn := Tryz.f81) (body := (Tryz.f81).body.get!) (by kernel_rfl) (by kernel_rfl) (by kernel_rfl) (fun _ => rfl) (Nat.le_of_ble_eq_true (by kernel_rfl)) ?_; unfold Tryz.f81; simp only [Option.get!_some]
  have hTo := ref1_To xs hx (by omega)
  have hTo2 := ref1_To ys hy (by omega)
  have hsm := ref1_small xs (wth ys) hx (by omega)
  generalize hX : wth xs = X at *
  generalize hY : wth ys = Y at *
  repeat (first | (simp only [go_sem, Nat.reduceEqDiff, Nat.reduceAdd, Nat.reduceSub, Nat.reduceMul, Nat.reduceLeDiff, Nat.reduceLT, reduceIte, reduceCtorEq, Nat.succ_ne_zero, elemsC, Int.reduceToNat, Nat.reducePow]) | (simp (disch := (first | omega | (simp only [AL, List.length_map]; omega))) only [AR, AL, ifT, ifF, take_all, List.length_cons, List.length_nil, Int.reduceToNat, Int.reducePow, Nat.reducePow]) | (refine wk_intro (by kernel_rfl) ?_) | (refine vp_draw (l := []) (by kernel_rfl) ?_))
  refine vf_of (ref1_Trim ys hy (by omega)) ?_; repeat (first | (simp only [go_sem, Nat.reduceEqDiff, Nat.reduceAdd, Nat.reduceSub, Nat.reduceMul, Nat.reduceLeDiff, Nat.reduceLT, reduceIte, reduceCtorEq, Nat.succ_ne_zero, elemsC, Int.reduceToNat, Nat.reducePow]) | (simp (disch := (first | omega | (simp only [AL, List.length_map]; omega))) only [AR, AL, ifT, ifF, take_all, List.length_cons, List.length_nil, Int.reduceToNat, Int.reducePow, Nat.reducePow]) | (refine wk_intro (by kernel_rfl) ?_) | (refine vp_draw (l := []) (by kernel_rfl) ?_))
  rw [hY]
  rcases Nat.eq_zero_or_pos Y with h0 | h0
  · subst h0
    rw [lim_zero, Nat.div_zero, lim_zero, show remN X 0 = 0 by rfl, lim_zero]
    repeat (first | (simp only [go_sem, Nat.reduceEqDiff, Nat.reduceAdd, Nat.reduceSub, Nat.reduceMul, Nat.reduceLeDiff, Nat.reduceLT, reduceIte, reduceCtorEq, Nat.succ_ne_zero, elemsC, Int.reduceToNat, Nat.reducePow]) | (simp (disch := (first | omega | (simp only [AL, List.length_map]; omega))) only [AR, AL, ifT, ifF, take_all, List.length_cons, List.length_nil, Int.reduceToNat, Int.reducePow, Nat.reducePow]) | (refine wk_intro (by kernel_rfl) ?_) | (refine vp_draw (l := []) (by kernel_rfl) ?_))
    rfl
  have e0 : remN X Y = X % Y := if_neg (by omega)
  have e1 : decide (Y ≠ 0) = true := decide_eq_true (by omega)
  have hn0 : 0 < (lim Y).length := List.length_pos_iff.2 (fun h => by have := lim_eq_nil.1 h; omega)
  rw [e0, e1]
  repeat (first | (simp only [go_sem, Nat.reduceEqDiff, Nat.reduceAdd, Nat.reduceSub, Nat.reduceMul, Nat.reduceLeDiff, Nat.reduceLT, reduceIte, reduceCtorEq, Nat.succ_ne_zero, elemsC, Int.reduceToNat, Nat.reducePow]) | (simp (disch := (first | omega | (simp only [AL, List.length_map]; omega))) only [AR, AL, ifT, ifF, take_all, List.length_cons, List.length_nil, Int.reduceToNat, Int.reducePow, Nat.reducePow]) | (refine wk_intro (by kernel_rfl) ?_) | (refine vp_draw (l := []) (by kernel_rfl) ?_) | (refine vf_of (by first | exact hTo | exact hTo2) ?_))
  by_cases hX2 : X < 18446744073709551616 ∧ Y < 18446744073709551616
  · obtain ⟨hX3, hY3⟩ := hX2
    have hq : X / Y < 18446744073709551616 := Nat.lt_of_le_of_lt (Nat.div_le_self _ _) hX3
    have hr : X % Y < 18446744073709551616 := Nat.lt_trans (Nat.mod_lt _ h0) hY3
    have hY4 : Y ≠ 0 := by omega
    rw [if_pos hX3, if_pos hY3, decide_eq_true hX3, decide_eq_true hY3]
    have oQ := ref1_Of (X / Y) hq
    have oR := ref1_Of (X % Y) hr
    have hqm : X / Y % 18446744073709551616 = X / Y := Nat.mod_eq_of_lt hq
    repeat (first | (simp only [go_sem, Nat.reduceEqDiff, Nat.reduceAdd, Nat.reduceSub, Nat.reduceMul, Nat.reduceLeDiff, Nat.reduceLT, reduceIte, reduceCtorEq, Nat.succ_ne_zero, elemsC, Int.reduceToNat, Nat.reducePow, hqm]) | (simp (disch := (first | omega | (simp only [AL, List.length_map]; omega))) only [AR, AL, ifT, ifF, take_all, List.length_cons, List.length_nil, Int.reduceToNat, Int.reducePow, Nat.reducePow, hqm]) | (refine wk_intro (by kernel_rfl) ?_) | (refine vp_draw (l := []) (by kernel_rfl) ?_) | (refine vf_of (by first | exact oQ | exact oR) ?_))
  · have hdec : (decide (X < 18446744073709551616) && decide (Y < 18446744073709551616)) = false := by
      rw [← Bool.decide_and]; exact decide_eq_false hX2
    by_cases hY1 : Y < 4294967296
    · have hY3 : Y < 18446744073709551616 := by omega
      have hX3 : ¬ X < 18446744073709551616 := fun h => hX2 ⟨h, hY3⟩
      have hr : X % Y < 18446744073709551616 := Nat.lt_trans (Nat.mod_lt _ h0) hY3
      have hsm := hsm h0 hY1
      have oR := ref1_Of (X % Y) hr
      rw [if_pos hY3, if_neg hX3, decide_eq_true hY3, decide_eq_false hX3]
      repeat (first | (simp only [go_sem, Nat.reduceEqDiff, Nat.reduceAdd, Nat.reduceSub, Nat.reduceMul, Nat.reduceLeDiff, Nat.reduceLT, reduceIte, reduceCtorEq, Nat.succ_ne_zero, elemsC, Int.reduceToNat, Nat.reducePow]) | (simp (disch := (first | omega | (simp only [AL, List.length_map]; omega))) only [AR, AL, ifT, ifF, take_all, List.length_cons, List.length_nil, Int.reduceToNat, Int.reducePow, Nat.reducePow]) | (refine wk_intro (by kernel_rfl) ?_) | (refine vp_draw (l := []) (by kernel_rfl) ?_) | (refine vf_of (by first | exact hsm | exact oR) ?_))
    · clear hsm hTo hTo2
      have hcases : (¬ X < 18446744073709551616 ∧ Y < 18446744073709551616) ∨ (X < 18446744073709551616 ∧ ¬ Y < 18446744073709551616) ∨ (¬ X < 18446744073709551616 ∧ ¬ Y < 18446744073709551616) := by omega
      rcases hcases with ⟨hX3, hY3⟩ | ⟨hX3, hY3⟩ | ⟨hX3, hY3⟩
      all_goals
        simp only [hX3, hY3, if_true, if_false, decide_true, decide_false]
        repeat (first | (simp only [go_sem, Nat.reduceEqDiff, Nat.reduceAdd, Nat.reduceSub, Nat.reduceMul, Nat.reduceLeDiff, Nat.reduceLT, reduceIte, reduceCtorEq, Nat.succ_ne_zero, elemsC, Int.reduceToNat, Nat.reducePow]) | (simp (disch := (first | omega | (simp only [AL, List.length_map]; omega))) only [AR, AL, ifT, ifF, take_all, List.length_cons, List.length_nil, Int.reduceToNat, Int.reducePow, Nat.reducePow]) | (refine wk_intro (by kernel_rfl) ?_))
        refine vp_loop_inv (fun s => s.tmp 0 = .sv (natV xs) ∧ s.tmp 1 = .sv (natV ys) ∧ s.tmp 13 = .ref 58 0 1 0 xs.length ∧ ∃ q : List Nat, ∃ I R : Nat, s.obj 58 0 = some (q.map limb) ∧ s.tmp 15 = .sv (.int .i64 ((I : Int) - 1)) ∧ ((s.tmp 14 = .nil ∧ R = 0) ∨ s.tmp 14 = .sv (natV (lim R))) ∧
            q.length = xs.length ∧ okL q ∧ I ≤ 32 * xs.length ∧ R = X / 2 ^ I % Y ∧ wth q = X / 2 ^ I / Y * 2 ^ I)
          (fun s => match s.tmp 15 with | .sv (.int _ i) => (i + 1).toNat | _ => 0) ?_ ?_
        · have hXlt := wth_lt hx
          rw [hX] at hXlt
          have h32 : (4294967296 : Nat) ^ xs.length = 2 ^ (32 * xs.length) := by rw [Nat.pow_mul]
          rw [h32] at hXlt
          refine ⟨rfl, rfl, rfl, List.replicate xs.length 0, 32 * xs.length, 0, rfl, rfl, .inl ⟨rfl, rfl⟩, List.length_replicate .., okL_replicate _, Nat.le_refl _, ?_, ?_⟩
          · rw [Nat.div_eq_of_lt hXlt, Nat.zero_mod]
          · rw [Nat.div_eq_of_lt hXlt, Nat.zero_div, Nat.zero_mul, wth_replicate]
        rintro s ⟨i0, i1, i13, q, I, R, iO, i15, hR, hql, hqk, hI, hRv, hqv⟩
        rcases Nat.eq_zero_or_pos I with rfl | hI0
        · rw [Nat.pow_zero, Nat.div_one] at hRv hqv
          rw [Nat.mul_one] at hqv
          subst hRv
          rcases hR with ⟨i14, hR0⟩ | i14
          · repeat (first | (simp only [go_sem, Nat.reduceEqDiff, Nat.reduceAdd, Nat.reduceSub, Nat.reduceMul, Nat.reduceLeDiff, Nat.reduceLT, reduceIte, reduceCtorEq, Nat.succ_ne_zero, elemsC, Int.reduceToNat, Nat.reducePow, i0, i1, i13, iO, i15, i14]) | (simp (disch := (first | omega | (simp only [AL, List.length_map]; omega))) only [AR, AL, ifT, ifF, take_all, List.length_cons, List.length_nil, Int.reduceToNat, Int.reducePow, Nat.reducePow, i0, i1, i13, iO, i15, i14]) | (refine wk_intro (by kernel_rfl) ?_) | (refine vp_draw (l := []) (by kernel_rfl) ?_))
            refine vf_of (fn_natV (ref1_Trim q hqk (by omega)) hql) ?_; repeat (first | (simp only [go_sem, Nat.reduceEqDiff, Nat.reduceAdd, Nat.reduceSub, Nat.reduceMul, Nat.reduceLeDiff, Nat.reduceLT, reduceIte, reduceCtorEq, Nat.succ_ne_zero, elemsC, Int.reduceToNat, Nat.reducePow, i0, i1, i13, iO, i15, i14]) | (simp (disch := (first | omega | (simp only [AL, List.length_map]; omega))) only [AR, AL, ifT, ifF, take_all, List.length_cons, List.length_nil, Int.reduceToNat, Int.reducePow, Nat.reducePow, i0, i1, i13, iO, i15, i14]) | (refine wk_intro (by kernel_rfl) ?_) | (refine vp_draw (l := []) (by kernel_rfl) ?_))
            refine vf_of (ref1_Trim [] okL_nil (by simp)) ?_; repeat (first | (simp only [go_sem, Nat.reduceEqDiff, Nat.reduceAdd, Nat.reduceSub, Nat.reduceMul, Nat.reduceLeDiff, Nat.reduceLT, reduceIte, reduceCtorEq, Nat.succ_ne_zero, elemsC, Int.reduceToNat, Nat.reducePow, i0, i1, i13, iO, i15, i14]) | (simp (disch := (first | omega | (simp only [AL, List.length_map]; omega))) only [AR, AL, ifT, ifF, take_all, List.length_cons, List.length_nil, Int.reduceToNat, Int.reducePow, Nat.reducePow, i0, i1, i13, iO, i15, i14]) | (refine wk_intro (by kernel_rfl) ?_) | (refine vp_draw (l := []) (by kernel_rfl) ?_))
            rw [hqv, hR0, lim_zero, wth_nil, lim_zero]
            exact ⟨rfl, rfl⟩
          · have hRl : (lim (X % Y)).length ≤ ys.length := by
              have h1 : (lim Y).length ≤ ys.length := by rw [← hY]; exact lim_length_le hy
              have h2 := Nat.mod_lt X h0
              have h3 := trimL_length (okL_lim (X % Y)) (okL_lim Y) (trimL_lim _) (by rw [wth_lim, wth_lim]; omega)
              omega
            repeat (first | (simp only [go_sem, Nat.reduceEqDiff, Nat.reduceAdd, Nat.reduceSub, Nat.reduceMul, Nat.reduceLeDiff, Nat.reduceLT, reduceIte, reduceCtorEq, Nat.succ_ne_zero, elemsC, Int.reduceToNat, Nat.reducePow, i0, i1, i13, iO, i15, i14]) | (simp (disch := (first | omega | (simp only [AL, List.length_map]; omega))) only [AR, AL, ifT, ifF, take_all, List.length_cons, List.length_nil, Int.reduceToNat, Int.reducePow, Nat.reducePow, i0, i1, i13, iO, i15, i14]) | (refine wk_intro (by kernel_rfl) ?_) | (refine vp_draw (l := []) (by kernel_rfl) ?_))
            refine vf_of (fn_natV (ref1_Trim q hqk (by omega)) hql) ?_; repeat (first | (simp only [go_sem, Nat.reduceEqDiff, Nat.reduceAdd, Nat.reduceSub, Nat.reduceMul, Nat.reduceLeDiff, Nat.reduceLT, reduceIte, reduceCtorEq, Nat.succ_ne_zero, elemsC, Int.reduceToNat, Nat.reducePow, i0, i1, i13, iO, i15, i14]) | (simp (disch := (first | omega | (simp only [AL, List.length_map]; omega))) only [AR, AL, ifT, ifF, take_all, List.length_cons, List.length_nil, Int.reduceToNat, Int.reducePow, Nat.reducePow, i0, i1, i13, iO, i15, i14]) | (refine wk_intro (by kernel_rfl) ?_) | (refine vp_draw (l := []) (by kernel_rfl) ?_))
            refine vf_of (ref1_Trim (lim (X % Y)) (okL_lim _) (by omega)) ?_; repeat (first | (simp only [go_sem, Nat.reduceEqDiff, Nat.reduceAdd, Nat.reduceSub, Nat.reduceMul, Nat.reduceLeDiff, Nat.reduceLT, reduceIte, reduceCtorEq, Nat.succ_ne_zero, elemsC, Int.reduceToNat, Nat.reducePow, i0, i1, i13, iO, i15, i14]) | (simp (disch := (first | omega | (simp only [AL, List.length_map]; omega))) only [AR, AL, ifT, ifF, take_all, List.length_cons, List.length_nil, Int.reduceToNat, Int.reducePow, Nat.reducePow, i0, i1, i13, iO, i15, i14]) | (refine wk_intro (by kernel_rfl) ?_) | (refine vp_draw (l := []) (by kernel_rfl) ?_))
            rw [hqv, wth_lim]
            exact ⟨rfl, rfl⟩
        · obtain ⟨J, rfl⟩ : ∃ J, I = J + 1 := ⟨I - 1, by omega⟩
          have h5 : ((J + 1 : Nat) : Int) - 1 = (J : Int) := by omega
          rw [h5] at i15
          have hRY : R < Y := by rw [hRv]; exact Nat.mod_lt _ h0
          have hlY : (lim Y).length ≤ ys.length := by rw [← hY]; exact lim_length_le hy
          have hRl : (lim R).length ≤ (lim Y).length := trimL_length (okL_lim _) (okL_lim _) (trimL_lim _) (by rw [wth_lim, wth_lim]; omega)
          have hS := ref1_shift_up (lim R) 1 (okL_lim R) (by omega) 1 rfl (by omega)
          rw [wth_lim, Nat.pow_one] at hS
          have hlen : ∀ z, z ≤ R * 2 + 1 → (lim z).length ≤ ys.length + 1 := by
            intro z hz
            have h1 := trimL_length (xs := lim z) (ys := 0 :: lim Y) (okL_lim _) (okL_cons.2 ⟨by omega, okL_lim _⟩) (trimL_lim _) (by rw [wth_cons, wth_lim, wth_lim]; omega)
            rw [List.length_cons] at h1
            omega
          have hw : J / 32 < xs.length := by omega
          have hbg := bit_get xs hx J hw
          have hbs := bit_set q hqk J (X / 2 ^ (J + 1) / Y) (by omega) hqv
          rw [hX] at hbg
          obtain ⟨hst1, hst2⟩ := bit_step h0 hRv rfl
          have hb2 : X / 2 ^ J % 2 < 2 := Nat.mod_lt _ (by omega)
          have hx1 := getD_lt hx (J / 32)
          have hq1 := getD_lt hqk (J / 32)
          have hj : J % 32 < 32 := Nat.mod_lt _ (by omega)
          generalize hB : X / 2 ^ J % 2 = B at *
          generalize hxw : xs.getD (J / 32) 0 = x at *
          have hxj : x / 2 ^ (J % 32) < 4294967296 := Nat.lt_of_le_of_lt (Nat.div_le_self _ _) hx1
          have hand : bitsSV .and .u32 ((x / 2 ^ (J % 32) : Nat) : Int) 1 = some (.int .u32 (B : Int)) := by
            have := b_and32 (a := x / 2 ^ (J % 32)) (b := 1) hxj (by omega)
            rw [and_one, hbg] at this
            exact this
          have hmin : min (J % 32) 32 = J % 32 := Nat.min_eq_left (by omega)
          clear hbg hRv hI0
          rcases hR with ⟨i14, hR0⟩ | i14
          all_goals (first | (have hR1 : lim R = [] := by rw [hR0, lim_zero]); rw [hR1] at hS | skip)
          all_goals
            repeat (first | (simp only [go_sem, Nat.reduceEqDiff, Nat.reduceAdd, Nat.reduceSub, Nat.reduceMul, Nat.reduceLeDiff, Nat.reduceLT, reduceIte, reduceCtorEq, Nat.succ_ne_zero, elemsC, Int.reduceToNat, Nat.reducePow, i0, i1, i13, iO, i15, i14, tdiv32, tmod32, hxw, hmin, hand]) | (simp (disch := (first | omega | (simp only [AL, List.length_map]; omega))) only [AR, AL, ifT, ifF, take_all, List.length_cons, List.length_nil, Int.reduceToNat, Int.reducePow, Nat.reducePow, i0, i1, i13, iO, i15, i14, tdiv32, tmod32, hxw, hmin, hand]) | (refine wk_intro (by kernel_rfl) ?_) | (refine vp_draw (l := []) (by kernel_rfl) ?_) | (refine vf_of (by first | exact hS) ?_))
            refine vc_cut (Mid := fun s' => s'.tmp 0 = .sv (natV xs) ∧ s'.tmp 1 = .sv (natV ys) ∧ s'.tmp 13 = .ref 58 0 1 0 xs.length ∧ s'.obj 58 0 = some (q.map limb) ∧ s'.tmp 15 = .sv (.int .i64 (J : Int)) ∧ s'.tmp 14 = .sv (natV (lim (R * 2 + B)))) ?_ ?_
            · have hB01 : B = 0 ∨ B = 1 := by omega
              rcases hB01 with hB0 | hB1
              · have hbq : ((B : Int) == 1) = false := beqF (by omega)
                repeat (first | (simp only [go_sem, Nat.reduceEqDiff, Nat.reduceAdd, Nat.reduceSub, Nat.reduceMul, Nat.reduceLeDiff, Nat.reduceLT, reduceIte, reduceCtorEq, Nat.succ_ne_zero, elemsC, Int.reduceToNat, Nat.reducePow, i0, i1, i13, iO, i15, i14, hbq]) | (simp (disch := (first | omega | (simp only [AL, List.length_map]; omega))) only [AR, AL, ifT, ifF, take_all, List.length_cons, List.length_nil, Int.reduceToNat, Int.reducePow, Nat.reducePow, i0, i1, i13, iO, i15, i14, hbq]) | (refine wk_intro (by kernel_rfl) ?_) | (refine vp_draw (l := []) (by kernel_rfl) ?_))
                rw [hB0, Nat.add_zero]
              · have hbq : ((B : Int) == 1) = true := beqT (by omega)
                have hA := ref1_Add (lim (R * 2)) [1] (okL_lim _) (by simp [okL]) (by have := hlen (R * 2) (by omega); omega) (by simp)
                rw [wth_lim, show wth [1] = B by rw [hB1]; rfl] at hA
                repeat (first | (simp only [go_sem, Nat.reduceEqDiff, Nat.reduceAdd, Nat.reduceSub, Nat.reduceMul, Nat.reduceLeDiff, Nat.reduceLT, reduceIte, reduceCtorEq, Nat.succ_ne_zero, elemsC, Int.reduceToNat, Nat.reducePow, i0, i1, i13, iO, i15, i14, hbq]) | (simp (disch := (first | omega | (simp only [AL, List.length_map]; omega))) only [AR, AL, ifT, ifF, take_all, List.length_cons, List.length_nil, Int.reduceToNat, Int.reducePow, Nat.reducePow, i0, i1, i13, iO, i15, i14, hbq]) | (refine wk_intro (by kernel_rfl) ?_) | (refine vp_draw (l := []) (by kernel_rfl) ?_) | (refine vf_of (by first | exact hA) ?_))
            rintro s' ⟨j0, j1, j13, jO, j15, j14⟩
            have hrl := hlen (R * 2 + B) (by omega)
            have hC := ref1_Cmp (lim (R * 2 + B)) ys (okL_lim _) hy (by omega) (by omega)
            have hSb := ref1_Sub (lim (R * 2 + B)) ys (okL_lim _) hy (by omega) (by omega)
            rw [wth_lim, hY] at hC hSb
            clear hlen hrl hS hand
            by_cases hYR : Y ≤ R * 2 + B
            · have hc : decide (cmpN (R * 2 + B) Y ≥ 0) = true := by
                have := cmpN_ge hYR
                rw [decide_eq_false_iff_not] at this
                exact decide_eq_true (by omega)
              rw [if_pos hYR] at hst1 hst2
              obtain ⟨hb1, hb3, hb4⟩ := hbs
              have hp2 : 2 ^ (J % 32) < 4294967296 := show 2 ^ (J % 32) < 2 ^ 32 from Nat.pow_lt_pow_right (by omega) hj
              have hsh : IntKind.u32.wrap (1 * ((2 ^ (J % 32) : Nat) : Int)) = ((2 ^ (J % 32) : Nat) : Int) := by rw [Int.one_mul, u32_nat, Nat.mod_eq_of_lt hp2]
              first | (exfalso; omega) | skip
              all_goals
                repeat (first | (simp only [go_sem, Nat.reduceEqDiff, Nat.reduceAdd, Nat.reduceSub, Nat.reduceMul, Nat.reduceLeDiff, Nat.reduceLT, reduceIte, reduceCtorEq, Nat.succ_ne_zero, elemsC, Int.reduceToNat, Nat.reducePow, j0, j1, j13, jO, j15, j14, hc, tdiv32, tmod32, hmin, hsh, hb1]) | (simp (disch := (first | omega | (simp only [AL, List.length_map]; omega))) only [AR, AL, ifT, ifF, take_all, List.length_cons, List.length_nil, Int.reduceToNat, Int.reducePow, Nat.reducePow, j0, j1, j13, jO, j15, j14, hc, tdiv32, tmod32, hmin, hsh, hb1]) | (refine wk_intro (by kernel_rfl) ?_) | (refine vp_draw (l := []) (by kernel_rfl) ?_) | (refine vf_of (by first | exact hC | exact hSb) ?_))
                refine ⟨⟨q.set (J / 32) (q.getD (J / 32) 0 + 2 ^ (J % 32)), J, R * 2 + B - Y, rfl, rfl, .inr rfl, by rw [List.length_set]; exact hql, okL_set hqk _ _ hb3, by omega, hst1.symm, ?_⟩, by omega⟩
                rw [hb4, hst2]
            · have hc : decide (cmpN (R * 2 + B) Y ≥ 0) = false := by
                rw [cmpN_lt (by omega)]; rfl
              rw [if_neg hYR] at hst1 hst2
              repeat (first | (simp only [go_sem, Nat.reduceEqDiff, Nat.reduceAdd, Nat.reduceSub, Nat.reduceMul, Nat.reduceLeDiff, Nat.reduceLT, reduceIte, reduceCtorEq, Nat.succ_ne_zero, elemsC, Int.reduceToNat, Nat.reducePow, j0, j1, j13, jO, j15, j14, hc]) | (simp (disch := (first | omega | (simp only [AL, List.length_map]; omega))) only [AR, AL, ifT, ifF, take_all, List.length_cons, List.length_nil, Int.reduceToNat, Int.reducePow, Nat.reducePow, j0, j1, j13, jO, j15, j14, hc]) | (refine wk_intro (by kernel_rfl) ?_) | (refine vp_draw (l := []) (by kernel_rfl) ?_) | (refine vf_of (by first | exact hC) ?_))
              refine ⟨⟨q, J, R * 2 + B, rfl, rfl, .inr rfl, hql, hqk, by omega, hst1.symm, ?_⟩, by omega⟩
              rw [hqv, hst2]
              show X / 2 ^ (J + 1) / Y * 2 ^ (J + 1) = 2 * (X / 2 ^ (J + 1) / Y) * 2 ^ J
              generalize X / 2 ^ (J + 1) / Y = Qv
              rw [Nat.pow_succ', ← Nat.mul_assoc, Nat.mul_comm Qv]
theorem ref1_Gcd (xs ys : List Nat) (hx : okL xs) (hy : okL ys) (hl : xs.length ≤ 16777216) (hm : ys.length ≤ 16777216) :
    Go.Ev.Fn CX 80 [natV xs, natV ys] (natV (lim (Nat.gcd (wth xs) (wth ys)))) := by
  refine Go.Ev.Fn.intro (fn := Tryz.f80) (body := (Tryz.f80).body.get!) (by kernel_rfl) (by kernel_rfl) (by kernel_rfl) (fun _ => rfl) (Nat.le_of_ble_eq_true (by kernel_rfl)) ?_; unfold Tryz.f80; simp only [Option.get!_some]
  have lx := lim_length_le hx
  have ly := lim_length_le hy
  repeat (first | (simp only [go_sem, Nat.reduceEqDiff, Nat.reduceAdd, Nat.reduceSub, Nat.reduceMul, Nat.reduceLeDiff, Nat.reduceLT, reduceIte, reduceCtorEq, Nat.succ_ne_zero, elemsC, Int.reduceToNat, Nat.reducePow]) | (simp (disch := (first | omega | (simp only [AL, List.length_map]; omega))) only [AR, AL, ifT, ifF, take_all, List.length_cons, List.length_nil, Int.reduceToNat, Int.reducePow, Nat.reducePow]) | (refine wk_intro (by kernel_rfl) ?_) | (refine vp_draw (l := []) (by kernel_rfl) ?_))
  refine vf_of (ref1_Trim xs hx (by omega)) ?_; repeat (first | (simp only [go_sem, Nat.reduceEqDiff, Nat.reduceAdd, Nat.reduceSub, Nat.reduceMul, Nat.reduceLeDiff, Nat.reduceLT, reduceIte, reduceCtorEq, Nat.succ_ne_zero, elemsC, Int.reduceToNat, Nat.reducePow]) | (simp (disch := (first | omega | (simp only [AL, List.length_map]; omega))) only [AR, AL, ifT, ifF, take_all, List.length_cons, List.length_nil, Int.reduceToNat, Int.reducePow, Nat.reducePow]) | (refine wk_intro (by kernel_rfl) ?_) | (refine vp_draw (l := []) (by kernel_rfl) ?_))
  refine vf_of (ref1_Trim ys hy (by omega)) ?_; repeat (first | (simp only [go_sem, Nat.reduceEqDiff, Nat.reduceAdd, Nat.reduceSub, Nat.reduceMul, Nat.reduceLeDiff, Nat.reduceLT, reduceIte, reduceCtorEq, Nat.succ_ne_zero, elemsC, Int.reduceToNat, Nat.reducePow]) | (simp (disch := (first | omega | (simp only [AL, List.length_map]; omega))) only [AR, AL, ifT, ifF, take_all, List.length_cons, List.length_nil, Int.reduceToNat, Int.reducePow, Nat.reducePow]) | (refine wk_intro (by kernel_rfl) ?_) | (refine vp_draw (l := []) (by kernel_rfl) ?_))
  refine vp_loop_inv (fun s => ∃ a b : Nat, s.tmp 5 = .sv (natV (lim a)) ∧ s.tmp 6 = .sv (natV (lim b)) ∧ (lim a).length ≤ 16777216 ∧ (lim b).length ≤ 16777216 ∧ Nat.gcd a b = Nat.gcd (wth xs) (wth ys))
    (fun s => match s.tmp 6 with | .sv (.sl _ cs) => (match decL cs with | some l => wth l | none => 0) | _ => 0) ⟨_, _, rfl, rfl, by omega, by omega, rfl⟩ ?_
  rintro s ⟨a, b, i0, i1, la, lb, hg⟩
  by_cases hb : b = 0
  · subst hb
    rw [lim_zero] at i1
    rw [← hg, Nat.gcd_zero_right]
    repeat (first | (simp only [go_sem, Nat.reduceEqDiff, Nat.reduceAdd, Nat.reduceSub, Nat.reduceMul, Nat.reduceLeDiff, Nat.reduceLT, reduceIte, reduceCtorEq, Nat.succ_ne_zero, elemsC, Int.reduceToNat, Nat.reducePow, i0, i1]) | (simp (disch := (first | omega | (simp only [AL, List.length_map]; omega))) only [AR, AL, ifT, ifF, take_all, List.length_cons, List.length_nil, Int.reduceToNat, Int.reducePow, Nat.reducePow, i0, i1]) | (refine wk_intro (by kernel_rfl) ?_) | (refine vp_draw (l := []) (by kernel_rfl) ?_))
  · have h1 : 0 < (lim b).length := List.length_pos_iff.2 (fun h => hb (lim_eq_nil.1 h))
    repeat (first | (simp only [go_sem, Nat.reduceEqDiff, Nat.reduceAdd, Nat.reduceSub, Nat.reduceMul, Nat.reduceLeDiff, Nat.reduceLT, reduceIte, reduceCtorEq, Nat.succ_ne_zero, elemsC, Int.reduceToNat, Nat.reducePow, i0, i1]) | (simp (disch := (first | omega | (simp only [AL, List.length_map]; omega))) only [AR, AL, ifT, ifF, take_all, List.length_cons, List.length_nil, Int.reduceToNat, Int.reducePow, Nat.reducePow, i0, i1]) | (refine wk_intro (by kernel_rfl) ?_) | (refine vp_draw (l := []) (by kernel_rfl) ?_))
    refine vf_of (ref1_DivMod (lim a) (lim b) (okL_lim a) (okL_lim b) la lb) ?_; repeat (first | (simp only [go_sem, Nat.reduceEqDiff, Nat.reduceAdd, Nat.reduceSub, Nat.reduceMul, Nat.reduceLeDiff, Nat.reduceLT, reduceIte, reduceCtorEq, Nat.succ_ne_zero, elemsC, Int.reduceToNat, Nat.reducePow, i0, i1]) | (simp (disch := (first | omega | (simp only [AL, List.length_map]; omega))) only [AR, AL, ifT, ifF, take_all, List.length_cons, List.length_nil, Int.reduceToNat, Int.reducePow, Nat.reducePow, i0, i1]) | (refine wk_intro (by kernel_rfl) ?_) | (refine vp_draw (l := []) (by kernel_rfl) ?_))
    have e1 : remN (wth (lim a)) (wth (lim b)) = a % b := by rw [wth_lim, wth_lim]; exact if_neg hb
    rw [e1, decL_map (okL_lim _), decL_map (okL_lim _)]
    dsimp only
    rw [wth_lim, wth_lim]
    have h2 : a % b < b := Nat.mod_lt _ (by omega)
    have h3 := trimL_length (okL_lim (a % b)) (okL_lim b) (trimL_lim _) (by rw [wth_lim, wth_lim]; omega)
    refine ⟨⟨b, a % b, rfl, rfl, lb, by omega, ?_⟩, h2⟩
    rw [← hg, Nat.gcd_comm b, ← Nat.gcd_rec, Nat.gcd_comm]
end Go.Proofs.YtemnjalaincijaaGreat

/- rat.Of, Norm, Int, in the evaluator. -/
namespace Go.Proofs.YtemnjalaincijaaGreat
set_option linter.unusedSimpArgs false
set_option linter.unusedVariables false
set_option maxRecDepth 8000
open Go.Ev
attribute [go_sem] List.head?_cons List.head?_nil
theorem nat_GcdL {N D : Nat} (hl : (lim N).length ≤ 536870912) (hm : (lim D).length ≤ 536870912) : Go.Ev.Fn CX 173 [natV (lim N), natV (lim D)] (natV (lim (N.gcd D))) := by
  have h := nat_Gcd (lim N) (lim D) (okL_lim _) (okL_lim _) hl hm
  rwa [wth_lim, wth_lim] at h
theorem nat_DivL {N D : Nat} (hD : D ≠ 0) (hl : (lim N).length ≤ 536870912) (hm : (lim D).length ≤ 536870912) : Go.Ev.Fn CX 174 [natV (lim N), natV (lim D)] (.tup [natV (lim (N / D)), natV (lim (N % D)), .bool true]) := by
  have h := nat_DivMod (lim N) (lim D) (okL_lim _) (okL_lim _) hl hm
  rwa [wth_lim, wth_lim, show remN N D = N % D from if_neg hD, decide_eq_true hD] at h
theorem nat_MulL {N D : Nat} (hl : (lim N).length ≤ 536870912) (hm : (lim D).length ≤ 536870912) : Go.Ev.Fn CX 122 [natV (lim N), natV (lim D)] (natV (lim (N * D))) := by
  have h := nat_Mul (lim N) (lim D) (okL_lim _) (okL_lim _) (by omega) (by omega)
  rwa [wth_lim, wth_lim] at h
theorem nat_AddL {N D : Nat} (hl : (lim N).length ≤ 536870912) (hm : (lim D).length ≤ 536870912) : Go.Ev.Fn CX 154 [natV (lim N), natV (lim D)] (natV (lim (N + D))) := by
  have h := nat_Add (lim N) (lim D) (okL_lim _) (okL_lim _) (by omega) (by omega)
  rwa [wth_lim, wth_lim] at h
theorem nat_SubL {N D : Nat} (hl : (lim N).length ≤ 536870912) (hm : (lim D).length ≤ 536870912) : Go.Ev.Fn CX 191 [natV (lim N), natV (lim D)] (.tup [natV (lim (N - D)), .bool (decide (D ≤ N))]) := by
  have h := nat_Sub (lim N) (lim D) (okL_lim _) (okL_lim _) (by omega) (by omega)
  rw [wth_lim, wth_lim] at h
  by_cases hlt : N < D
  · rw [if_pos hlt] at h
    rwa [show N - D = 0 by omega, lim_zero, decide_eq_false (by omega)]
  · rw [if_neg hlt] at h
    rwa [decide_eq_true (by omega : D ≤ N)]
theorem ref1_GcdL {N D : Nat} (hl : (lim N).length ≤ 16777216) (hm : (lim D).length ≤ 16777216) : Go.Ev.Fn CX 80 [natV (lim N), natV (lim D)] (natV (lim (N.gcd D))) := by
  have h := ref1_Gcd (lim N) (lim D) (okL_lim _) (okL_lim _) hl hm
  rwa [wth_lim, wth_lim] at h
theorem ref1_DivL {N D : Nat} (hD : D ≠ 0) (hl : (lim N).length ≤ 16777216) (hm : (lim D).length ≤ 16777216) : Go.Ev.Fn CX 81 [natV (lim N), natV (lim D)] (.tup [natV (lim (N / D)), natV (lim (N % D)), .bool true]) := by
  have h := ref1_DivMod (lim N) (lim D) (okL_lim _) (okL_lim _) hl hm
  rwa [wth_lim, wth_lim, show remN N D = N % D from if_neg hD, decide_eq_true hD] at h
theorem ref1_MulL {N D : Nat} (hl : (lim N).length ≤ 16777216) (hm : (lim D).length ≤ 16777216) : Go.Ev.Fn CX 78 [natV (lim N), natV (lim D)] (natV (lim (N * D))) := by
  have h := ref1_Mul (lim N) (lim D) (okL_lim _) (okL_lim _) (by omega) (by omega)
  rwa [wth_lim, wth_lim] at h
theorem ref1_AddL {N D : Nat} (hl : (lim N).length ≤ 16777216) (hm : (lim D).length ≤ 16777216) : Go.Ev.Fn CX 82 [natV (lim N), natV (lim D)] (natV (lim (N + D))) := by
  have h := ref1_Add (lim N) (lim D) (okL_lim _) (okL_lim _) (by omega) (by omega)
  rwa [wth_lim, wth_lim] at h
theorem ref1_SubL {N D : Nat} (hl : (lim N).length ≤ 16777216) (hm : (lim D).length ≤ 16777216) : Go.Ev.Fn CX 84 [natV (lim N), natV (lim D)] (.tup [natV (lim (N - D)), .bool (decide (D ≤ N))]) := by
  have h := ref1_Sub (lim N) (lim D) (okL_lim _) (okL_lim _) (by omega) (by omega)
  rwa [wth_lim, wth_lim] at h
theorem ref1_CmpL {N D : Nat} (hl : (lim N).length ≤ 16777216) (hm : (lim D).length ≤ 16777216) : Go.Ev.Fn CX 83 [natV (lim N), natV (lim D)] (.int .i64 (cmpN N D)) := by
  have h := ref1_Cmp (lim N) (lim D) (okL_lim _) (okL_lim _) (by omega) (by omega)
  rwa [wth_lim, wth_lim] at h
theorem nat_CmpL {N D : Nat} (hl : (lim N).length ≤ 536870912) (hm : (lim D).length ≤ 536870912) : Go.Ev.Fn CX 205 [natV (lim N), natV (lim D)] (.int .i64 (cmpN N D)) := by
  have h := nat_Cmp (lim N) (lim D) (okL_lim _) (okL_lim _) (by omega) (by omega)
  rwa [wth_lim, wth_lim] at h
theorem lim_pos {N : Nat} (h : N ≠ 0) : 0 < (lim N).length := List.length_pos_iff.2 (fun e => h (lim_eq_nil.1 e))
theorem rat_Of (s : Bool) (n d : List Nat) (hn : okL n) (hd : okL d) (hl : n.length ≤ 536870912) (hm : d.length ≤ 536870912) :
    Go.Ev.Fn CX 114 [.bool s, natV n, natV d] (rv (mkRat (sgn s (wth n)) (wth d))) := by
  refine Go.Ev.Fn.intro (fn := Tryz.f114) (body := (Tryz.f114).body.get!) (by kernel_rfl) (by kernel_rfl) (by kernel_rfl) (fun _ => rfl) (Nat.le_of_ble_eq_true (by kernel_rfl)) ?_; unfold Tryz.f114; simp only [Option.get!_some]
  have lx := lim_length_le hn
  have ly := lim_length_le hd
  repeat (first | (simp only [go_sem, Nat.reduceEqDiff, Nat.reduceAdd, Nat.reduceSub, Nat.reduceMul, Nat.reduceLeDiff, Nat.reduceLT, reduceIte, reduceCtorEq, Nat.succ_ne_zero, elemsC, Int.reduceToNat, Nat.reducePow]) | (simp (disch := (first | omega | (simp only [AL, List.length_map]; omega))) only [AR, AL, ifT, ifF, take_all, List.length_cons, List.length_nil, Int.reduceToNat, Int.reducePow, Nat.reducePow]) | (refine wk_intro (by kernel_rfl) ?_) | (refine vp_draw (l := []) (by kernel_rfl) ?_))
  refine vf_of (nat_Trim n hn (by omega)) ?_; repeat (first | (simp only [go_sem, Nat.reduceEqDiff, Nat.reduceAdd, Nat.reduceSub, Nat.reduceMul, Nat.reduceLeDiff, Nat.reduceLT, reduceIte, reduceCtorEq, Nat.succ_ne_zero, elemsC, Int.reduceToNat, Nat.reducePow]) | (simp (disch := (first | omega | (simp only [AL, List.length_map]; omega))) only [AR, AL, ifT, ifF, take_all, List.length_cons, List.length_nil, Int.reduceToNat, Int.reducePow, Nat.reducePow]) | (refine wk_intro (by kernel_rfl) ?_) | (refine vp_draw (l := []) (by kernel_rfl) ?_))
  refine vf_of (nat_Trim d hd (by omega)) ?_; repeat (first | (simp only [go_sem, Nat.reduceEqDiff, Nat.reduceAdd, Nat.reduceSub, Nat.reduceMul, Nat.reduceLeDiff, Nat.reduceLT, reduceIte, reduceCtorEq, Nat.succ_ne_zero, elemsC, Int.reduceToNat, Nat.reducePow]) | (simp (disch := (first | omega | (simp only [AL, List.length_map]; omega))) only [AR, AL, ifT, ifF, take_all, List.length_cons, List.length_nil, Int.reduceToNat, Int.reducePow, Nat.reducePow]) | (refine wk_intro (by kernel_rfl) ?_) | (refine vp_draw (l := []) (by kernel_rfl) ?_))
  generalize wth n = N at *
  generalize wth d = D at *
  have oN := okL_lim N
  have oD := okL_lim D
  by_cases h : N = 0 ∨ D = 0
  · rw [mk_zero s h, rv_zero]
    have o1 := nat_Of 1 (by omega)
    rw [lim_one] at o1
    by_cases hN : N = 0
    · have h0 : (lim N).length = 0 := by rw [hN, lim_zero]; rfl
      repeat (first | (simp only [go_sem, Nat.reduceEqDiff, Nat.reduceAdd, Nat.reduceSub, Nat.reduceMul, Nat.reduceLeDiff, Nat.reduceLT, reduceIte, reduceCtorEq, Nat.succ_ne_zero, elemsC, Int.reduceToNat, Nat.reducePow]) | (simp (disch := (first | omega | (simp only [AL, List.length_map]; omega))) only [AR, AL, ifT, ifF, take_all, List.length_cons, List.length_nil, Int.reduceToNat, Int.reducePow, Nat.reducePow]) | (refine wk_intro (by kernel_rfl) ?_) | (refine vp_draw (l := []) (by kernel_rfl) ?_) | (refine vf_of (by first | exact o1) ?_))
      rfl
    · have h0 : (lim D).length = 0 := by rw [h.resolve_left hN, lim_zero]; rfl
      have h1 := lim_pos hN
      repeat (first | (simp only [go_sem, Nat.reduceEqDiff, Nat.reduceAdd, Nat.reduceSub, Nat.reduceMul, Nat.reduceLeDiff, Nat.reduceLT, reduceIte, reduceCtorEq, Nat.succ_ne_zero, elemsC, Int.reduceToNat, Nat.reducePow]) | (simp (disch := (first | omega | (simp only [AL, List.length_map]; omega))) only [AR, AL, ifT, ifF, take_all, List.length_cons, List.length_nil, Int.reduceToNat, Int.reducePow, Nat.reducePow]) | (refine wk_intro (by kernel_rfl) ?_) | (refine vp_draw (l := []) (by kernel_rfl) ?_) | (refine vf_of (by first | exact o1) ?_))
      rfl
  · have hN : N ≠ 0 := fun e => h (.inl e)
    have hD : D ≠ 0 := fun e => h (.inr e)
    rw [mk_parts s hN hD]
    have h1 := lim_pos hN
    have h2 := lim_pos hD
    have hg : N.gcd D ≠ 0 := Nat.ne_of_gt (Nat.gcd_pos_of_pos_left _ (by omega))
    have h3 := lim_len_mono (Nat.gcd_le_left D (by omega : 0 < N))
    repeat (first | (simp only [go_sem, Nat.reduceEqDiff, Nat.reduceAdd, Nat.reduceSub, Nat.reduceMul, Nat.reduceLeDiff, Nat.reduceLT, reduceIte, reduceCtorEq, Nat.succ_ne_zero, elemsC, Int.reduceToNat, Nat.reducePow]) | (simp (disch := (first | omega | (simp only [AL, List.length_map]; omega))) only [AR, AL, ifT, ifF, take_all, List.length_cons, List.length_nil, Int.reduceToNat, Int.reducePow, Nat.reducePow]) | (refine wk_intro (by kernel_rfl) ?_) | (refine vp_draw (l := []) (by kernel_rfl) ?_))
    refine vf_of (nat_GcdL (by omega) (by omega)) ?_; repeat (first | (simp only [go_sem, Nat.reduceEqDiff, Nat.reduceAdd, Nat.reduceSub, Nat.reduceMul, Nat.reduceLeDiff, Nat.reduceLT, reduceIte, reduceCtorEq, Nat.succ_ne_zero, elemsC, Int.reduceToNat, Nat.reducePow]) | (simp (disch := (first | omega | (simp only [AL, List.length_map]; omega))) only [AR, AL, ifT, ifF, take_all, List.length_cons, List.length_nil, Int.reduceToNat, Int.reducePow, Nat.reducePow]) | (refine wk_intro (by kernel_rfl) ?_) | (refine vp_draw (l := []) (by kernel_rfl) ?_))
    refine vf_of (nat_DivL hg (by omega) (by omega)) ?_; repeat (first | (simp only [go_sem, Nat.reduceEqDiff, Nat.reduceAdd, Nat.reduceSub, Nat.reduceMul, Nat.reduceLeDiff, Nat.reduceLT, reduceIte, reduceCtorEq, Nat.succ_ne_zero, elemsC, Int.reduceToNat, Nat.reducePow]) | (simp (disch := (first | omega | (simp only [AL, List.length_map]; omega))) only [AR, AL, ifT, ifF, take_all, List.length_cons, List.length_nil, Int.reduceToNat, Int.reducePow, Nat.reducePow]) | (refine wk_intro (by kernel_rfl) ?_) | (refine vp_draw (l := []) (by kernel_rfl) ?_))
    refine vf_of (nat_DivL hg (by omega) (by omega)) ?_; repeat (first | (simp only [go_sem, Nat.reduceEqDiff, Nat.reduceAdd, Nat.reduceSub, Nat.reduceMul, Nat.reduceLeDiff, Nat.reduceLT, reduceIte, reduceCtorEq, Nat.succ_ne_zero, elemsC, Int.reduceToNat, Nat.reducePow]) | (simp (disch := (first | omega | (simp only [AL, List.length_map]; omega))) only [AR, AL, ifT, ifF, take_all, List.length_cons, List.length_nil, Int.reduceToNat, Int.reducePow, Nat.reducePow]) | (refine wk_intro (by kernel_rfl) ?_) | (refine vp_draw (l := []) (by kernel_rfl) ?_))
theorem rat_Norm {v : SV} {q : Rat} {L : Nat} (h : RatA v q L) (hL : L ≤ 536870912) : Go.Ev.Fn CX 53 [v] (rv q) := by
  obtain ⟨s, n, d, rfl, hn, hd, hl, hm, rfl⟩ := h
  refine Go.Ev.Fn.intro (fn := Tryz.f53) (body := (Tryz.f53).body.get!) (by kernel_rfl) (by kernel_rfl) (by kernel_rfl) (fun _ => rfl) (Nat.le_of_ble_eq_true (by kernel_rfl)) ?_; unfold Tryz.f53; simp only [Option.get!_some]
  repeat (first | (simp only [go_sem, Nat.reduceEqDiff, Nat.reduceAdd, Nat.reduceSub, Nat.reduceMul, Nat.reduceLeDiff, Nat.reduceLT, reduceIte, reduceCtorEq, Nat.succ_ne_zero, elemsC, Int.reduceToNat, Nat.reducePow]) | (simp (disch := (first | omega | (simp only [AL, List.length_map]; omega))) only [AR, AL, ifT, ifF, take_all, List.length_cons, List.length_nil, Int.reduceToNat, Int.reducePow, Nat.reducePow]) | (refine wk_intro (by kernel_rfl) ?_) | (refine vp_draw (l := []) (by kernel_rfl) ?_))
  refine vf_of (rat_Of s n d hn hd (by omega) (by omega)) ?_; repeat (first | (simp only [go_sem, Nat.reduceEqDiff, Nat.reduceAdd, Nat.reduceSub, Nat.reduceMul, Nat.reduceLeDiff, Nat.reduceLT, reduceIte, reduceCtorEq, Nat.succ_ne_zero, elemsC, Int.reduceToNat, Nat.reducePow]) | (simp (disch := (first | omega | (simp only [AL, List.length_map]; omega))) only [AR, AL, ifT, ifF, take_all, List.length_cons, List.length_nil, Int.reduceToNat, Int.reducePow, Nat.reducePow]) | (refine wk_intro (by kernel_rfl) ?_) | (refine vp_draw (l := []) (by kernel_rfl) ?_))
theorem int_u64 {n : Int} (h : -9223372036854775808 ≤ n ∧ n < 9223372036854775808) : IntKind.u64.wrap n = ((if n < 0 then 18446744073709551616 - n.natAbs else n.natAbs : Nat) : Int) := by
  rw [IntKind.wrap_u64]
  split <;> omega
theorem rat_Int (n : Int) (h : -9223372036854775808 ≤ n ∧ n < 9223372036854775808) : Go.Ev.Fn CX 57 [.int .i64 n] (rv (n : Rat)) := by
  refine Go.Ev.Fn.intro (fn := Tryz.f57) (body := (Tryz.f57).body.get!) (by kernel_rfl) (by kernel_rfl) (by kernel_rfl) (fun _ => rfl) (Nat.le_of_ble_eq_true (by kernel_rfl)) ?_; unfold Tryz.f57; simp only [Option.get!_some]
  have o1 := nat_Of 1 (by omega)
  have oN := nat_Of n.natAbs (by omega)
  have e1 := int_u64 h
  show WP CX _ _ (RQ _ _ (ratV (decide (n < 0)) (lim n.natAbs) (lim 1)))
  by_cases h0 : n < 0
  · rw [if_pos h0] at e1
    have e2 : IntKind.u64.wrap (0 - ((18446744073709551616 - n.natAbs : Nat) : Int)) = (n.natAbs : Int) := by rw [IntKind.wrap_u64]; omega
    repeat (first | (simp only [go_sem, Nat.reduceEqDiff, Nat.reduceAdd, Nat.reduceSub, Nat.reduceMul, Nat.reduceLeDiff, Nat.reduceLT, reduceIte, reduceCtorEq, Nat.succ_ne_zero, elemsC, Int.reduceToNat, Nat.reducePow, e1, e2]) | (simp (disch := (first | omega | (simp only [AL, List.length_map]; omega))) only [AR, AL, ifT, ifF, take_all, List.length_cons, List.length_nil, Int.reduceToNat, Int.reducePow, Nat.reducePow, e1, e2]) | (refine wk_intro (by kernel_rfl) ?_) | (refine vp_draw (l := []) (by kernel_rfl) ?_) | (refine vf_of (by first | exact oN | exact o1) ?_))
  · rw [if_neg h0] at e1
    repeat (first | (simp only [go_sem, Nat.reduceEqDiff, Nat.reduceAdd, Nat.reduceSub, Nat.reduceMul, Nat.reduceLeDiff, Nat.reduceLT, reduceIte, reduceCtorEq, Nat.succ_ne_zero, elemsC, Int.reduceToNat, Nat.reducePow, e1]) | (simp (disch := (first | omega | (simp only [AL, List.length_map]; omega))) only [AR, AL, ifT, ifF, take_all, List.length_cons, List.length_nil, Int.reduceToNat, Int.reducePow, Nat.reducePow, e1]) | (refine wk_intro (by kernel_rfl) ?_) | (refine vp_draw (l := []) (by kernel_rfl) ?_) | (refine vf_of (by first | exact oN | exact o1) ?_))
end Go.Proofs.YtemnjalaincijaaGreat

/- rat.Mul, Add, Neg, Sub, Div, Cmp, in the evaluator. -/
namespace Go.Proofs.YtemnjalaincijaaGreat
set_option linter.unusedSimpArgs false
set_option linter.unusedVariables false
set_option maxRecDepth 8000
open Go.Ev
theorem rat_OfL {s : Bool} {n d : Nat} (hl : (lim n).length ≤ 536870912) (hm : (lim d).length ≤ 536870912) :
    Go.Ev.Fn CX 114 [.bool s, natV (lim n), natV (lim d)] (rv (mkRat (sgn s n) d)) := by
  have h := rat_Of s (lim n) (lim d) (okL_lim _) (okL_lim _) hl hm
  rwa [wth_lim, wth_lim] at h
theorem mul_parts (q r : Rat) : mkRat (sgn (!(decide (q.num < 0) == decide (r.num < 0))) (q.num.natAbs * r.num.natAbs)) (q.den * r.den) = q * r := by
  have h := sgn_mul q.num r.num
  rw [show (!(decide (q.num < 0) == decide (r.num < 0))) = (decide (q.num < 0) != decide (r.num < 0)) from rfl, h, ← Rat.mkRat_mul_mkRat, Rat.mkRat_self, Rat.mkRat_self]
theorem rat_Mul {v w : SV} {q r : Rat} {L M : Nat} (hv : RatA v q L) (hw : RatA w r M) (hL : 1 ≤ L) (hM : 1 ≤ M) (h : L + M ≤ 268435456) : Go.Ev.Fn CX 106 [v, w] (rv (q * r)) := by
  have hnv := rat_Norm hv (by omega)
  have hnw := rat_Norm hw (by omega)
  obtain ⟨z1, z2⟩ := szR_of hv hL
  obtain ⟨y1, y2⟩ := szR_of hw hM
  have g1 := lim_len_mul (a := q.num.natAbs) (b := r.num.natAbs)
  have g2 := lim_len_mul (a := q.den) (b := r.den)
  have hOf := rat_OfL (s := !(decide (q.num < 0) == decide (r.num < 0))) (n := q.num.natAbs * r.num.natAbs) (d := q.den * r.den) (by omega) (by omega)
  rw [mul_parts] at hOf
  obtain ⟨s, n, d, rfl, -⟩ := hv
  obtain ⟨s', n', d', rfl, -⟩ := hw
  refine Go.Ev.Fn.intro (fn := Tryz.f106) (body := (Tryz.f106).body.get!) (by kernel_rfl) (by kernel_rfl) (by kernel_rfl) (fun _ => rfl) (Nat.le_of_ble_eq_true (by kernel_rfl)) ?_; unfold Tryz.f106; simp only [Option.get!_some]
  repeat (first | (simp only [go_sem, Nat.reduceEqDiff, Nat.reduceAdd, Nat.reduceSub, Nat.reduceMul, Nat.reduceLeDiff, Nat.reduceLT, reduceIte, reduceCtorEq, Nat.succ_ne_zero, elemsC, Int.reduceToNat, Nat.reducePow]) | (simp (disch := (first | omega | (simp only [AL, List.length_map]; omega))) only [AR, AL, ifT, ifF, take_all, List.length_cons, List.length_nil, Int.reduceToNat, Int.reducePow, Nat.reducePow]) | (refine wk_intro (by kernel_rfl) ?_) | (refine vp_draw (id := 1) (l := []) (by kernel_rfl) ?_) | (refine vp_draw (id := 2) (l := [15, 17, 20, 22, 18, 23]) (by kernel_rfl) ?_) | (refine vf_of (by first | exact hnv | exact hnw) ?_))
  refine vf_of (nat_MulL (by omega) (by omega)) ?_; repeat (first | (simp only [go_sem, Nat.reduceEqDiff, Nat.reduceAdd, Nat.reduceSub, Nat.reduceMul, Nat.reduceLeDiff, Nat.reduceLT, reduceIte, reduceCtorEq, Nat.succ_ne_zero, elemsC, Int.reduceToNat, Nat.reducePow]) | (simp (disch := (first | omega | (simp only [AL, List.length_map]; omega))) only [AR, AL, ifT, ifF, take_all, List.length_cons, List.length_nil, Int.reduceToNat, Int.reducePow, Nat.reducePow]) | (refine wk_intro (by kernel_rfl) ?_) | (refine vp_draw (id := 1) (l := []) (by kernel_rfl) ?_) | (refine vp_draw (id := 2) (l := [15, 17, 20, 22, 18, 23]) (by kernel_rfl) ?_))
  refine vf_of (nat_MulL (by omega) (by omega)) ?_; repeat (first | (simp only [go_sem, Nat.reduceEqDiff, Nat.reduceAdd, Nat.reduceSub, Nat.reduceMul, Nat.reduceLeDiff, Nat.reduceLT, reduceIte, reduceCtorEq, Nat.succ_ne_zero, elemsC, Int.reduceToNat, Nat.reducePow]) | (simp (disch := (first | omega | (simp only [AL, List.length_map]; omega))) only [AR, AL, ifT, ifF, take_all, List.length_cons, List.length_nil, Int.reduceToNat, Int.reducePow, Nat.reducePow]) | (refine wk_intro (by kernel_rfl) ?_) | (refine vp_draw (id := 1) (l := []) (by kernel_rfl) ?_) | (refine vp_draw (id := 2) (l := [15, 17, 20, 22, 18, 23]) (by kernel_rfl) ?_))
  refine vf_of (hOf) ?_; repeat (first | (simp only [go_sem, Nat.reduceEqDiff, Nat.reduceAdd, Nat.reduceSub, Nat.reduceMul, Nat.reduceLeDiff, Nat.reduceLT, reduceIte, reduceCtorEq, Nat.succ_ne_zero, elemsC, Int.reduceToNat, Nat.reducePow]) | (simp (disch := (first | omega | (simp only [AL, List.length_map]; omega))) only [AR, AL, ifT, ifF, take_all, List.length_cons, List.length_nil, Int.reduceToNat, Int.reducePow, Nat.reducePow]) | (refine wk_intro (by kernel_rfl) ?_) | (refine vp_draw (id := 1) (l := []) (by kernel_rfl) ?_) | (refine vp_draw (id := 2) (l := [15, 17, 20, 22, 18, 23]) (by kernel_rfl) ?_))
theorem sgn_mul_nat (s : Bool) (a b : Nat) : sgn s a * (b : Int) = sgn s (a * b) := by
  unfold sgn
  split
  · rw [Int.neg_mul, Int.natCast_mul]
  · rw [Int.natCast_mul]
theorem add_parts (q r : Rat) : q + r = mkRat (sgn (decide (q.num < 0)) (q.num.natAbs * r.den) + sgn (decide (r.num < 0)) (r.num.natAbs * q.den)) (q.den * r.den) := by
  conv => lhs; rw [← Rat.mkRat_self q, ← Rat.mkRat_self r, Rat.mkRat_add_mkRat _ _ q.den_nz r.den_nz]
  congr 1
  rw [← sgn_mul_nat, ← sgn_mul_nat, sgn_self, sgn_self]
theorem add_same (q r : Rat) (h : decide (q.num < 0) = decide (r.num < 0)) : mkRat (sgn (decide (q.num < 0)) (q.num.natAbs * r.den + r.num.natAbs * q.den)) (q.den * r.den) = q + r := by
  rw [add_parts, ← h]
  congr 1
  unfold sgn
  split <;> omega
theorem add_ge (q r : Rat) (h : ¬ decide (q.num < 0) = decide (r.num < 0)) (h2 : r.num.natAbs * q.den ≤ q.num.natAbs * r.den) : mkRat (sgn (decide (q.num < 0)) (q.num.natAbs * r.den - r.num.natAbs * q.den)) (q.den * r.den) = q + r := by
  rw [add_parts]
  congr 1
  have e : decide (r.num < 0) = !decide (q.num < 0) := by
    revert h
    cases decide (q.num < 0) <;> cases decide (r.num < 0) <;> simp
  rw [e]
  generalize q.num.natAbs * r.den = X at *
  generalize r.num.natAbs * q.den = Y at *
  unfold sgn
  cases decide (q.num < 0)
  · simp; omega
  · simp; omega
theorem add_lt (q r : Rat) (h : ¬ decide (q.num < 0) = decide (r.num < 0)) (h2 : q.num.natAbs * r.den < r.num.natAbs * q.den) : mkRat (sgn (decide (r.num < 0)) (r.num.natAbs * q.den - q.num.natAbs * r.den)) (q.den * r.den) = q + r := by
  have h3 := add_ge r q (fun e => h e.symm) (Nat.le_of_lt h2)
  rw [Nat.mul_comm r.den, Rat.add_comm r q] at h3
  exact h3
theorem beq_bool (a b : Bool) : (a == b) = decide (a = b) := by cases a <;> cases b <;> rfl
theorem lim_len_add2 {a b L : Nat} (ha : (lim a).length ≤ L) (hb : (lim b).length ≤ L) : (lim (a + b)).length ≤ L + 1 := lim_len_add ha hb
theorem rat_Add {v w : SV} {q r : Rat} {L M : Nat} (hv : RatA v q L) (hw : RatA w r M) (hL : 1 ≤ L) (hM : 1 ≤ M) (h : L + M ≤ 268435456) : Go.Ev.Fn CX 151 [v, w] (rv (q + r)) := by
  have hnv := rat_Norm hv (by omega)
  have hnw := rat_Norm hw (by omega)
  obtain ⟨z1, z2⟩ := szR_of hv hL
  obtain ⟨y1, y2⟩ := szR_of hw hM
  have g1 := lim_len_mul (a := q.num.natAbs) (b := r.den)
  have g2 := lim_len_mul (a := r.num.natAbs) (b := q.den)
  have g3 := lim_len_mul (a := q.den) (b := r.den)
  have g4 := lim_len_add2 (a := q.num.natAbs * r.den) (b := r.num.natAbs * q.den) (L := L + M) (by omega) (by omega)
  have g5 := lim_len_mono (Nat.sub_le (q.num.natAbs * r.den) (r.num.natAbs * q.den))
  have g6 := lim_len_mono (Nat.sub_le (r.num.natAbs * q.den) (q.num.natAbs * r.den))
  obtain ⟨s, n, d, rfl, -⟩ := hv
  obtain ⟨s', n', d', rfl, -⟩ := hw
  have hbb := beq_bool (decide (q.num < 0)) (decide (r.num < 0))
  refine Go.Ev.Fn.intro (fn := Tryz.f151) (body := (Tryz.f151).body.get!) (by kernel_rfl) (by kernel_rfl) (by kernel_rfl) (fun _ => rfl) (Nat.le_of_ble_eq_true (by kernel_rfl)) ?_; unfold Tryz.f151; simp only [Option.get!_some]
  repeat (first | (simp only [go_sem, Nat.reduceEqDiff, Nat.reduceAdd, Nat.reduceSub, Nat.reduceMul, Nat.reduceLeDiff, Nat.reduceLT, reduceIte, reduceCtorEq, Nat.succ_ne_zero, elemsC, Int.reduceToNat, Nat.reducePow]) | (simp (disch := (first | omega | (simp only [AL, List.length_map]; omega))) only [AR, AL, ifT, ifF, take_all, List.length_cons, List.length_nil, Int.reduceToNat, Int.reducePow, Nat.reducePow]) | (refine wk_intro (by kernel_rfl) ?_) | (refine vp_draw (id := 1) (l := []) (by kernel_rfl) ?_) | (refine vp_draw (id := 2) (l := [17, 19, 22, 24, 27, 29]) (by kernel_rfl) ?_) | (refine vp_draw (id := 4) (l := [5, 6, 40, 7]) (by kernel_rfl) ?_) | (refine vf_of (by first | exact hnv | exact hnw) ?_))
  refine vf_of (nat_MulL (by omega) (by omega)) ?_; repeat (first | (simp only [go_sem, Nat.reduceEqDiff, Nat.reduceAdd, Nat.reduceSub, Nat.reduceMul, Nat.reduceLeDiff, Nat.reduceLT, reduceIte, reduceCtorEq, Nat.succ_ne_zero, elemsC, Int.reduceToNat, Nat.reducePow]) | (simp (disch := (first | omega | (simp only [AL, List.length_map]; omega))) only [AR, AL, ifT, ifF, take_all, List.length_cons, List.length_nil, Int.reduceToNat, Int.reducePow, Nat.reducePow]) | (refine wk_intro (by kernel_rfl) ?_) | (refine vp_draw (id := 1) (l := []) (by kernel_rfl) ?_) | (refine vp_draw (id := 2) (l := [17, 19, 22, 24, 27, 29]) (by kernel_rfl) ?_) | (refine vp_draw (id := 4) (l := [5, 6, 40, 7]) (by kernel_rfl) ?_))
  refine vf_of (nat_MulL (by omega) (by omega)) ?_; repeat (first | (simp only [go_sem, Nat.reduceEqDiff, Nat.reduceAdd, Nat.reduceSub, Nat.reduceMul, Nat.reduceLeDiff, Nat.reduceLT, reduceIte, reduceCtorEq, Nat.succ_ne_zero, elemsC, Int.reduceToNat, Nat.reducePow]) | (simp (disch := (first | omega | (simp only [AL, List.length_map]; omega))) only [AR, AL, ifT, ifF, take_all, List.length_cons, List.length_nil, Int.reduceToNat, Int.reducePow, Nat.reducePow]) | (refine wk_intro (by kernel_rfl) ?_) | (refine vp_draw (id := 1) (l := []) (by kernel_rfl) ?_) | (refine vp_draw (id := 2) (l := [17, 19, 22, 24, 27, 29]) (by kernel_rfl) ?_) | (refine vp_draw (id := 4) (l := [5, 6, 40, 7]) (by kernel_rfl) ?_))
  refine vf_of (nat_MulL (by omega) (by omega)) ?_; repeat (first | (simp only [go_sem, Nat.reduceEqDiff, Nat.reduceAdd, Nat.reduceSub, Nat.reduceMul, Nat.reduceLeDiff, Nat.reduceLT, reduceIte, reduceCtorEq, Nat.succ_ne_zero, elemsC, Int.reduceToNat, Nat.reducePow, hbb]) | (simp (disch := (first | omega | (simp only [AL, List.length_map]; omega))) only [AR, AL, ifT, ifF, take_all, List.length_cons, List.length_nil, Int.reduceToNat, Int.reducePow, Nat.reducePow, hbb]) | (refine wk_intro (by kernel_rfl) ?_) | (refine vp_draw (id := 1) (l := []) (by kernel_rfl) ?_) | (refine vp_draw (id := 2) (l := [17, 19, 22, 24, 27, 29]) (by kernel_rfl) ?_) | (refine vp_draw (id := 4) (l := [5, 6, 40, 7]) (by kernel_rfl) ?_))
  by_cases hs : decide (q.num < 0) = decide (r.num < 0)
  · have hOf := rat_OfL (s := decide (q.num < 0)) (n := q.num.natAbs * r.den + r.num.natAbs * q.den) (d := q.den * r.den) (by omega) (by omega)
    rw [add_same q r hs] at hOf
    rw [decide_eq_true hs]
    repeat (first | (simp only [go_sem, Nat.reduceEqDiff, Nat.reduceAdd, Nat.reduceSub, Nat.reduceMul, Nat.reduceLeDiff, Nat.reduceLT, reduceIte, reduceCtorEq, Nat.succ_ne_zero, elemsC, Int.reduceToNat, Nat.reducePow]) | (simp (disch := (first | omega | (simp only [AL, List.length_map]; omega))) only [AR, AL, ifT, ifF, take_all, List.length_cons, List.length_nil, Int.reduceToNat, Int.reducePow, Nat.reducePow]) | (refine wk_intro (by kernel_rfl) ?_) | (refine vp_draw (id := 1) (l := []) (by kernel_rfl) ?_) | (refine vp_draw (id := 2) (l := [17, 19, 22, 24, 27, 29]) (by kernel_rfl) ?_) | (refine vp_draw (id := 4) (l := [5, 6, 40, 7]) (by kernel_rfl) ?_))
    refine vf_of (nat_AddL (by omega) (by omega)) ?_; repeat (first | (simp only [go_sem, Nat.reduceEqDiff, Nat.reduceAdd, Nat.reduceSub, Nat.reduceMul, Nat.reduceLeDiff, Nat.reduceLT, reduceIte, reduceCtorEq, Nat.succ_ne_zero, elemsC, Int.reduceToNat, Nat.reducePow]) | (simp (disch := (first | omega | (simp only [AL, List.length_map]; omega))) only [AR, AL, ifT, ifF, take_all, List.length_cons, List.length_nil, Int.reduceToNat, Int.reducePow, Nat.reducePow]) | (refine wk_intro (by kernel_rfl) ?_) | (refine vp_draw (id := 1) (l := []) (by kernel_rfl) ?_) | (refine vp_draw (id := 2) (l := [17, 19, 22, 24, 27, 29]) (by kernel_rfl) ?_) | (refine vp_draw (id := 4) (l := [5, 6, 40, 7]) (by kernel_rfl) ?_))
    refine vf_of (hOf) ?_; repeat (first | (simp only [go_sem, Nat.reduceEqDiff, Nat.reduceAdd, Nat.reduceSub, Nat.reduceMul, Nat.reduceLeDiff, Nat.reduceLT, reduceIte, reduceCtorEq, Nat.succ_ne_zero, elemsC, Int.reduceToNat, Nat.reducePow]) | (simp (disch := (first | omega | (simp only [AL, List.length_map]; omega))) only [AR, AL, ifT, ifF, take_all, List.length_cons, List.length_nil, Int.reduceToNat, Int.reducePow, Nat.reducePow]) | (refine wk_intro (by kernel_rfl) ?_) | (refine vp_draw (id := 1) (l := []) (by kernel_rfl) ?_) | (refine vp_draw (id := 2) (l := [17, 19, 22, 24, 27, 29]) (by kernel_rfl) ?_) | (refine vp_draw (id := 4) (l := [5, 6, 40, 7]) (by kernel_rfl) ?_))
  · rw [decide_eq_false hs]
    repeat (first | (simp only [go_sem, Nat.reduceEqDiff, Nat.reduceAdd, Nat.reduceSub, Nat.reduceMul, Nat.reduceLeDiff, Nat.reduceLT, reduceIte, reduceCtorEq, Nat.succ_ne_zero, elemsC, Int.reduceToNat, Nat.reducePow]) | (simp (disch := (first | omega | (simp only [AL, List.length_map]; omega))) only [AR, AL, ifT, ifF, take_all, List.length_cons, List.length_nil, Int.reduceToNat, Int.reducePow, Nat.reducePow]) | (refine wk_intro (by kernel_rfl) ?_) | (refine vp_draw (id := 1) (l := []) (by kernel_rfl) ?_) | (refine vp_draw (id := 2) (l := [17, 19, 22, 24, 27, 29]) (by kernel_rfl) ?_) | (refine vp_draw (id := 4) (l := [5, 6, 40, 7]) (by kernel_rfl) ?_))
    refine vf_of (nat_SubL (by omega) (by omega)) ?_; repeat (first | (simp only [go_sem, Nat.reduceEqDiff, Nat.reduceAdd, Nat.reduceSub, Nat.reduceMul, Nat.reduceLeDiff, Nat.reduceLT, reduceIte, reduceCtorEq, Nat.succ_ne_zero, elemsC, Int.reduceToNat, Nat.reducePow]) | (simp (disch := (first | omega | (simp only [AL, List.length_map]; omega))) only [AR, AL, ifT, ifF, take_all, List.length_cons, List.length_nil, Int.reduceToNat, Int.reducePow, Nat.reducePow]) | (refine wk_intro (by kernel_rfl) ?_) | (refine vp_draw (id := 1) (l := []) (by kernel_rfl) ?_) | (refine vp_draw (id := 2) (l := [17, 19, 22, 24, 27, 29]) (by kernel_rfl) ?_) | (refine vp_draw (id := 4) (l := [5, 6, 40, 7]) (by kernel_rfl) ?_))
    by_cases h2 : r.num.natAbs * q.den ≤ q.num.natAbs * r.den
    · have hOf := rat_OfL (s := decide (q.num < 0)) (n := q.num.natAbs * r.den - r.num.natAbs * q.den) (d := q.den * r.den) (by omega) (by omega)
      rw [add_ge q r hs h2] at hOf
      rw [decide_eq_true h2]
      repeat (first | (simp only [go_sem, Nat.reduceEqDiff, Nat.reduceAdd, Nat.reduceSub, Nat.reduceMul, Nat.reduceLeDiff, Nat.reduceLT, reduceIte, reduceCtorEq, Nat.succ_ne_zero, elemsC, Int.reduceToNat, Nat.reducePow]) | (simp (disch := (first | omega | (simp only [AL, List.length_map]; omega))) only [AR, AL, ifT, ifF, take_all, List.length_cons, List.length_nil, Int.reduceToNat, Int.reducePow, Nat.reducePow]) | (refine wk_intro (by kernel_rfl) ?_) | (refine vp_draw (id := 1) (l := []) (by kernel_rfl) ?_) | (refine vp_draw (id := 2) (l := [17, 19, 22, 24, 27, 29]) (by kernel_rfl) ?_) | (refine vp_draw (id := 4) (l := [5, 6, 40, 7]) (by kernel_rfl) ?_) | (refine vf_of (by first | exact hOf) ?_))
    · have hOf := rat_OfL (s := decide (r.num < 0)) (n := r.num.natAbs * q.den - q.num.natAbs * r.den) (d := q.den * r.den) (by omega) (by omega)
      rw [add_lt q r hs (by omega)] at hOf
      rw [decide_eq_false h2]
      repeat (first | (simp only [go_sem, Nat.reduceEqDiff, Nat.reduceAdd, Nat.reduceSub, Nat.reduceMul, Nat.reduceLeDiff, Nat.reduceLT, reduceIte, reduceCtorEq, Nat.succ_ne_zero, elemsC, Int.reduceToNat, Nat.reducePow]) | (simp (disch := (first | omega | (simp only [AL, List.length_map]; omega))) only [AR, AL, ifT, ifF, take_all, List.length_cons, List.length_nil, Int.reduceToNat, Int.reducePow, Nat.reducePow]) | (refine wk_intro (by kernel_rfl) ?_) | (refine vp_draw (id := 1) (l := []) (by kernel_rfl) ?_) | (refine vp_draw (id := 2) (l := [17, 19, 22, 24, 27, 29]) (by kernel_rfl) ?_) | (refine vp_draw (id := 4) (l := [5, 6, 40, 7]) (by kernel_rfl) ?_))
      refine vf_of (nat_SubL (by omega) (by omega)) ?_; repeat (first | (simp only [go_sem, Nat.reduceEqDiff, Nat.reduceAdd, Nat.reduceSub, Nat.reduceMul, Nat.reduceLeDiff, Nat.reduceLT, reduceIte, reduceCtorEq, Nat.succ_ne_zero, elemsC, Int.reduceToNat, Nat.reducePow]) | (simp (disch := (first | omega | (simp only [AL, List.length_map]; omega))) only [AR, AL, ifT, ifF, take_all, List.length_cons, List.length_nil, Int.reduceToNat, Int.reducePow, Nat.reducePow]) | (refine wk_intro (by kernel_rfl) ?_) | (refine vp_draw (id := 1) (l := []) (by kernel_rfl) ?_) | (refine vp_draw (id := 2) (l := [17, 19, 22, 24, 27, 29]) (by kernel_rfl) ?_) | (refine vp_draw (id := 4) (l := [5, 6, 40, 7]) (by kernel_rfl) ?_))
      refine vf_of (hOf) ?_; repeat (first | (simp only [go_sem, Nat.reduceEqDiff, Nat.reduceAdd, Nat.reduceSub, Nat.reduceMul, Nat.reduceLeDiff, Nat.reduceLT, reduceIte, reduceCtorEq, Nat.succ_ne_zero, elemsC, Int.reduceToNat, Nat.reducePow]) | (simp (disch := (first | omega | (simp only [AL, List.length_map]; omega))) only [AR, AL, ifT, ifF, take_all, List.length_cons, List.length_nil, Int.reduceToNat, Int.reducePow, Nat.reducePow]) | (refine wk_intro (by kernel_rfl) ?_) | (refine vp_draw (id := 1) (l := []) (by kernel_rfl) ?_) | (refine vp_draw (id := 2) (l := [17, 19, 22, 24, 27, 29]) (by kernel_rfl) ?_) | (refine vp_draw (id := 4) (l := [5, 6, 40, 7]) (by kernel_rfl) ?_))
theorem neg_parts (q : Rat) : rv (-q) = ratV (!decide (q.num < 0) && decide (0 < (lim q.num.natAbs).length)) (lim q.num.natAbs) (lim q.den) := by
  show ratV (decide ((-q).num < 0)) (lim (-q).num.natAbs) (lim (-q).den) = _
  rw [Rat.neg_num, Rat.neg_den, Int.natAbs_neg]
  congr 3
  by_cases h : q.num = 0
  · rw [h]; rfl
  · have h1 := lim_pos (N := q.num.natAbs) (by omega)
    rw [decide_eq_true h1, Bool.and_true]
    by_cases h2 : q.num < 0
    · rw [decide_eq_true h2, decide_eq_false (by omega)]; rfl
    · rw [decide_eq_false h2, decide_eq_true (by omega)]; rfl
theorem rat_signed (s t : Bool) (n d : List Nat) (hn : n.length ≤ 1099511627776) : Go.Ev.Fn CX 120 [.bool s, ratV t n d] (ratV (s && decide (0 < n.length)) n d) := by
  refine Go.Ev.Fn.intro (fn := Tryz.f120) (body := (Tryz.f120).body.get!) (by kernel_rfl) (by kernel_rfl) (by kernel_rfl) (fun _ => rfl) (Nat.le_of_ble_eq_true (by kernel_rfl)) ?_; unfold Tryz.f120; simp only [Option.get!_some]
  cases s
  · repeat (first | (simp only [go_sem, Nat.reduceEqDiff, Nat.reduceAdd, Nat.reduceSub, Nat.reduceMul, Nat.reduceLeDiff, Nat.reduceLT, reduceIte, reduceCtorEq, Nat.succ_ne_zero, elemsC, Int.reduceToNat, Nat.reducePow]) | (simp (disch := (first | omega | (simp only [AL, List.length_map]; omega))) only [AR, AL, ifT, ifF, take_all, List.length_cons, List.length_nil, Int.reduceToNat, Int.reducePow, Nat.reducePow]) | (refine wk_intro (by kernel_rfl) ?_))
    rfl
  · by_cases h : 0 < n.length
    · rw [decide_eq_true h]
      repeat (first | (simp only [go_sem, Nat.reduceEqDiff, Nat.reduceAdd, Nat.reduceSub, Nat.reduceMul, Nat.reduceLeDiff, Nat.reduceLT, reduceIte, reduceCtorEq, Nat.succ_ne_zero, elemsC, Int.reduceToNat, Nat.reducePow]) | (simp (disch := (first | omega | (simp only [AL, List.length_map]; omega))) only [AR, AL, ifT, ifF, take_all, List.length_cons, List.length_nil, Int.reduceToNat, Int.reducePow, Nat.reducePow]) | (refine wk_intro (by kernel_rfl) ?_))
    · rw [decide_eq_false h]
      repeat (first | (simp only [go_sem, Nat.reduceEqDiff, Nat.reduceAdd, Nat.reduceSub, Nat.reduceMul, Nat.reduceLeDiff, Nat.reduceLT, reduceIte, reduceCtorEq, Nat.succ_ne_zero, elemsC, Int.reduceToNat, Nat.reducePow]) | (simp (disch := (first | omega | (simp only [AL, List.length_map]; omega))) only [AR, AL, ifT, ifF, take_all, List.length_cons, List.length_nil, Int.reduceToNat, Int.reducePow, Nat.reducePow]) | (refine wk_intro (by kernel_rfl) ?_))
theorem rat_Neg {v : SV} {q : Rat} {L : Nat} (hv : RatA v q L) (hL : 1 ≤ L) (h : L ≤ 268435456) : Go.Ev.Fn CX 59 [v] (rv (-q)) := by
  have hnv := rat_Norm hv (by omega)
  obtain ⟨z1, z2⟩ := szR_of hv hL
  have hs := rat_signed (!decide (q.num < 0)) (decide (q.num < 0)) (lim q.num.natAbs) (lim q.den) (by omega)
  rw [← neg_parts] at hs
  obtain ⟨s, n, d, rfl, -⟩ := hv
  refine Go.Ev.Fn.intro (fn := Tryz.f59) (body := (Tryz.f59).body.get!) (by kernel_rfl) (by kernel_rfl) (by kernel_rfl) (fun _ => rfl) (Nat.le_of_ble_eq_true (by kernel_rfl)) ?_; unfold Tryz.f59; simp only [Option.get!_some]
  repeat (first | (simp only [go_sem, Nat.reduceEqDiff, Nat.reduceAdd, Nat.reduceSub, Nat.reduceMul, Nat.reduceLeDiff, Nat.reduceLT, reduceIte, reduceCtorEq, Nat.succ_ne_zero, elemsC, Int.reduceToNat, Nat.reducePow]) | (simp (disch := (first | omega | (simp only [AL, List.length_map]; omega))) only [AR, AL, ifT, ifF, take_all, List.length_cons, List.length_nil, Int.reduceToNat, Int.reducePow, Nat.reducePow]) | (refine wk_intro (by kernel_rfl) ?_) | (refine vf_of (by first | exact hnv | exact hs) ?_))
theorem szR_neg {q : Rat} {L : Nat} (h : szR q L) : szR (-q) L := by
  unfold szR
  rw [Rat.neg_num, Rat.neg_den, Int.natAbs_neg]
  exact h
theorem rat_Sub {v w : SV} {q r : Rat} {L M : Nat} (hv : RatA v q L) (hw : RatA w r M) (hL : 1 ≤ L) (hM : 1 ≤ M) (h : L + M ≤ 268435456) : Go.Ev.Fn CX 134 [v, w] (rv (q - r)) := by
  have hN := rat_Neg hw hM (by omega)
  have hA := rat_Add hv (RatA_rv (szR_neg (szR_of hw hM))) hL hM h
  rw [← Rat.sub_eq_add_neg] at hA
  obtain ⟨s, n, d, rfl, -⟩ := hv
  obtain ⟨s', n', d', rfl, -⟩ := hw
  refine Go.Ev.Fn.intro (fn := Tryz.f134) (body := (Tryz.f134).body.get!) (by kernel_rfl) (by kernel_rfl) (by kernel_rfl) (fun _ => rfl) (Nat.le_of_ble_eq_true (by kernel_rfl)) ?_; unfold Tryz.f134; simp only [Option.get!_some]
  repeat (first | (simp only [go_sem, Nat.reduceEqDiff, Nat.reduceAdd, Nat.reduceSub, Nat.reduceMul, Nat.reduceLeDiff, Nat.reduceLT, reduceIte, reduceCtorEq, Nat.succ_ne_zero, elemsC, Int.reduceToNat, Nat.reducePow]) | (simp (disch := (first | omega | (simp only [AL, List.length_map]; omega))) only [AR, AL, ifT, ifF, take_all, List.length_cons, List.length_nil, Int.reduceToNat, Int.reducePow, Nat.reducePow]) | (refine wk_intro (by kernel_rfl) ?_) | (refine vp_draw (id := 1) (l := []) (by kernel_rfl) ?_) | (refine vf_of (by first | exact hN | exact hA) ?_))
theorem num_zero {q : Rat} : q.num = 0 ↔ q = 0 := Rat.num_eq_zero
theorem div_parts {q r : Rat} (hr : r ≠ 0) : q / r = q * mkRat (sgn (decide (r.num < 0)) r.den) r.num.natAbs := by
  rw [Rat.div_def]
  congr 1
  rw [Rat.inv_def]
  have h0 : r.num ≠ 0 := fun e => hr (num_zero.1 e)
  by_cases h : r.num < 0
  · rw [decide_eq_true h]
    obtain ⟨k, hk⟩ : ∃ k : Nat, r.num = Int.negSucc k := ⟨r.num.natAbs - 1, by omega⟩
    rw [hk, show (Int.negSucc k).natAbs = k + 1 from rfl]
    show Rat.normalize (-(r.den : Int)) (k + 1) (Nat.succ_ne_zero k) = mkRat (-(r.den : Int)) (k + 1)
    rw [Rat.normalize_eq_mkRat]
  · rw [decide_eq_false h]
    obtain ⟨m, hm⟩ : ∃ m : Nat, r.num = (m : Int) := ⟨r.num.natAbs, by omega⟩
    rw [hm, Int.natAbs_natCast, Rat.divInt_ofNat]
    rfl
theorem rat_Div {v w : SV} {q r : Rat} {L M : Nat} (hv : RatA v q L) (hw : RatA w r M) (hL : 1 ≤ L) (hM : 1 ≤ M) (h : L + M ≤ 268435456) : Go.Ev.Fn CX 92 [v, w] (.tup [rv (q / r), .bool (decide (r ≠ 0))]) := by
  have hnw := rat_Norm hw (by omega)
  obtain ⟨y1, y2⟩ := szR_of hw hM
  have h0 := rat_Int 0 (by omega)
  have hMul : r ≠ 0 → _ := fun hr => rat_Mul (w := ratV (decide (r.num < 0)) (lim r.den) (lim r.num.natAbs)) hv ⟨_, _, _, rfl, okL_lim _, okL_lim _, y2, y1, by rw [wth_lim, wth_lim]⟩ hL hM h
  obtain ⟨s, n, d, rfl, -⟩ := hv
  obtain ⟨s', n', d', rfl, -⟩ := hw
  refine Go.Ev.Fn.intro (fn := Tryz.f92) (body := (Tryz.f92).body.get!) (by kernel_rfl) (by kernel_rfl) (by kernel_rfl) (fun _ => rfl) (Nat.le_of_ble_eq_true (by kernel_rfl)) ?_; unfold Tryz.f92; simp only [Option.get!_some]
  by_cases hr : r = 0
  · have hl : (lim r.num.natAbs).length = 0 := by rw [num_zero.2 hr]; simp [lim_zero]
    rw [decide_eq_false (fun e => e hr), hr, Rat.div_def, Rat.inv_zero, Rat.mul_zero]
    subst hr
    repeat (first | (simp only [go_sem, Nat.reduceEqDiff, Nat.reduceAdd, Nat.reduceSub, Nat.reduceMul, Nat.reduceLeDiff, Nat.reduceLT, reduceIte, reduceCtorEq, Nat.succ_ne_zero, elemsC, Int.reduceToNat, Nat.reducePow]) | (simp (disch := (first | omega | (simp only [AL, List.length_map]; omega))) only [AR, AL, ifT, ifF, take_all, List.length_cons, List.length_nil, Int.reduceToNat, Int.reducePow, Nat.reducePow]) | (refine wk_intro (by kernel_rfl) ?_) | (refine vf_of (by first | exact hnw | exact h0) ?_))
    rfl
  · have hl := lim_pos (N := r.num.natAbs) (fun e => hr (num_zero.1 (by omega)))
    have hMul := hMul hr
    rw [← div_parts hr] at hMul
    rw [decide_eq_true hr]
    repeat (first | (simp only [go_sem, Nat.reduceEqDiff, Nat.reduceAdd, Nat.reduceSub, Nat.reduceMul, Nat.reduceLeDiff, Nat.reduceLT, reduceIte, reduceCtorEq, Nat.succ_ne_zero, elemsC, Int.reduceToNat, Nat.reducePow]) | (simp (disch := (first | omega | (simp only [AL, List.length_map]; omega))) only [AR, AL, ifT, ifF, take_all, List.length_cons, List.length_nil, Int.reduceToNat, Int.reducePow, Nat.reducePow]) | (refine wk_intro (by kernel_rfl) ?_) | (refine vf_of (by first | exact hnw | exact hMul) ?_))
end Go.Proofs.YtemnjalaincijaaGreat

/- The document's rationals (vernierref2): Norm, Of, Int, limbs, Same, Mul, Add, in the evaluator. -/
namespace Go.Proofs.YtemnjalaincijaaGreat
set_option linter.unusedSimpArgs false
set_option linter.unusedVariables false
set_option maxRecDepth 8000
open Go.Ev
theorem ref2_Norm {v : SV} {q : Rat} {L : Nat} (h : RatA v q L) (hL : L ≤ 16777216) : Go.Ev.Fn CX 31 [v] (rv q) := by
  obtain ⟨s, n, d, rfl, hn, hd, hl, hm, rfl⟩ := h
  have lx := lim_length_le hn
  have ly := lim_length_le hd
  have tn := ref1_Trim n hn (by omega)
  have td := ref1_Trim d hd (by omega)
  refine Go.Ev.Fn.intro (fn := Tryz.f31) (body := (Tryz.f31).body.get!) (by kernel_rfl) (by kernel_rfl) (by kernel_rfl) (fun _ => rfl) (Nat.le_of_ble_eq_true (by kernel_rfl)) ?_; unfold Tryz.f31; simp only [Option.get!_some]
  generalize wth n = N at *
  generalize wth d = D at *
  repeat (first | (simp only [go_sem, Nat.reduceEqDiff, Nat.reduceAdd, Nat.reduceSub, Nat.reduceMul, Nat.reduceLeDiff, Nat.reduceLT, reduceIte, reduceCtorEq, Nat.succ_ne_zero, elemsC, Int.reduceToNat, Nat.reducePow]) | (simp (disch := (first | omega | (simp only [AL, List.length_map]; omega))) only [AR, AL, ifT, ifF, take_all, List.length_cons, List.length_nil, Int.reduceToNat, Int.reducePow, Nat.reducePow]) | (refine wk_intro (by kernel_rfl) ?_) | (refine vp_draw (id := 1) (l := [7, 10]) (by kernel_rfl) ?_) | (refine vf_of (by first | exact tn | exact td) ?_))
  by_cases h : N = 0 ∨ D = 0
  · rw [mk_zero s h, rv_zero]
    by_cases hD : D = 0
    · have h0 : (lim D).length = 0 := by rw [hD, lim_zero]; rfl
      repeat (first | (simp only [go_sem, Nat.reduceEqDiff, Nat.reduceAdd, Nat.reduceSub, Nat.reduceMul, Nat.reduceLeDiff, Nat.reduceLT, reduceIte, reduceCtorEq, Nat.succ_ne_zero, elemsC, Int.reduceToNat, Nat.reducePow]) | (simp (disch := (first | omega | (simp only [AL, List.length_map]; omega))) only [AR, AL, ifT, ifF, take_all, List.length_cons, List.length_nil, Int.reduceToNat, Int.reducePow, Nat.reducePow]) | (refine wk_intro (by kernel_rfl) ?_) | (refine vp_draw (id := 1) (l := [7, 10]) (by kernel_rfl) ?_))
      rfl
    · have h0 : (lim N).length = 0 := by rw [h.resolve_right hD, lim_zero]; rfl
      have h1 := lim_pos hD
      repeat (first | (simp only [go_sem, Nat.reduceEqDiff, Nat.reduceAdd, Nat.reduceSub, Nat.reduceMul, Nat.reduceLeDiff, Nat.reduceLT, reduceIte, reduceCtorEq, Nat.succ_ne_zero, elemsC, Int.reduceToNat, Nat.reducePow]) | (simp (disch := (first | omega | (simp only [AL, List.length_map]; omega))) only [AR, AL, ifT, ifF, take_all, List.length_cons, List.length_nil, Int.reduceToNat, Int.reducePow, Nat.reducePow]) | (refine wk_intro (by kernel_rfl) ?_) | (refine vp_draw (id := 1) (l := [7, 10]) (by kernel_rfl) ?_))
      rfl
  · have hN : N ≠ 0 := fun e => h (.inl e)
    have hD : D ≠ 0 := fun e => h (.inr e)
    rw [mk_parts s hN hD]
    have h1 := lim_pos hN
    have h2 := lim_pos hD
    have hg : N.gcd D ≠ 0 := Nat.ne_of_gt (Nat.gcd_pos_of_pos_left _ (by omega))
    have h3 := lim_len_mono (Nat.gcd_le_left D (by omega : 0 < N))
    repeat (first | (simp only [go_sem, Nat.reduceEqDiff, Nat.reduceAdd, Nat.reduceSub, Nat.reduceMul, Nat.reduceLeDiff, Nat.reduceLT, reduceIte, reduceCtorEq, Nat.succ_ne_zero, elemsC, Int.reduceToNat, Nat.reducePow]) | (simp (disch := (first | omega | (simp only [AL, List.length_map]; omega))) only [AR, AL, ifT, ifF, take_all, List.length_cons, List.length_nil, Int.reduceToNat, Int.reducePow, Nat.reducePow]) | (refine wk_intro (by kernel_rfl) ?_) | (refine vp_draw (id := 1) (l := [7, 10]) (by kernel_rfl) ?_))
    refine vf_of (ref1_GcdL (by omega) (by omega)) ?_; repeat (first | (simp only [go_sem, Nat.reduceEqDiff, Nat.reduceAdd, Nat.reduceSub, Nat.reduceMul, Nat.reduceLeDiff, Nat.reduceLT, reduceIte, reduceCtorEq, Nat.succ_ne_zero, elemsC, Int.reduceToNat, Nat.reducePow]) | (simp (disch := (first | omega | (simp only [AL, List.length_map]; omega))) only [AR, AL, ifT, ifF, take_all, List.length_cons, List.length_nil, Int.reduceToNat, Int.reducePow, Nat.reducePow]) | (refine wk_intro (by kernel_rfl) ?_) | (refine vp_draw (id := 1) (l := [7, 10]) (by kernel_rfl) ?_))
    refine vf_of (ref1_DivL hg (by omega) (by omega)) ?_; repeat (first | (simp only [go_sem, Nat.reduceEqDiff, Nat.reduceAdd, Nat.reduceSub, Nat.reduceMul, Nat.reduceLeDiff, Nat.reduceLT, reduceIte, reduceCtorEq, Nat.succ_ne_zero, elemsC, Int.reduceToNat, Nat.reducePow]) | (simp (disch := (first | omega | (simp only [AL, List.length_map]; omega))) only [AR, AL, ifT, ifF, take_all, List.length_cons, List.length_nil, Int.reduceToNat, Int.reducePow, Nat.reducePow]) | (refine wk_intro (by kernel_rfl) ?_) | (refine vp_draw (id := 1) (l := [7, 10]) (by kernel_rfl) ?_))
    refine vf_of (ref1_DivL hg (by omega) (by omega)) ?_; repeat (first | (simp only [go_sem, Nat.reduceEqDiff, Nat.reduceAdd, Nat.reduceSub, Nat.reduceMul, Nat.reduceLeDiff, Nat.reduceLT, reduceIte, reduceCtorEq, Nat.succ_ne_zero, elemsC, Int.reduceToNat, Nat.reducePow]) | (simp (disch := (first | omega | (simp only [AL, List.length_map]; omega))) only [AR, AL, ifT, ifF, take_all, List.length_cons, List.length_nil, Int.reduceToNat, Int.reducePow, Nat.reducePow]) | (refine wk_intro (by kernel_rfl) ?_) | (refine vp_draw (id := 1) (l := [7, 10]) (by kernel_rfl) ?_))
theorem ref2_Of (s : Bool) (n d : List Nat) (hn : okL n) (hd : okL d) (hl : n.length ≤ 16777216) (hm : d.length ≤ 16777216) :
    Go.Ev.Fn CX 30 [.bool s, natV n, natV d] (rv (mkRat (sgn s (wth n)) (wth d))) := by
  have hN := ref2_Norm (v := ratV s n d) (L := 16777216) ⟨s, n, d, rfl, hn, hd, hl, hm, rfl⟩ (by omega)
  refine Go.Ev.Fn.intro (fn := Tryz.f30) (body := (Tryz.f30).body.get!) (by kernel_rfl) (by kernel_rfl) (by kernel_rfl) (fun _ => rfl) (Nat.le_of_ble_eq_true (by kernel_rfl)) ?_; unfold Tryz.f30; simp only [Option.get!_some]
  repeat (first | (simp only [go_sem, Nat.reduceEqDiff, Nat.reduceAdd, Nat.reduceSub, Nat.reduceMul, Nat.reduceLeDiff, Nat.reduceLT, reduceIte, reduceCtorEq, Nat.succ_ne_zero, elemsC, Int.reduceToNat, Nat.reducePow]) | (simp (disch := (first | omega | (simp only [AL, List.length_map]; omega))) only [AR, AL, ifT, ifF, take_all, List.length_cons, List.length_nil, Int.reduceToNat, Int.reducePow, Nat.reducePow]) | (refine wk_intro (by kernel_rfl) ?_) | (refine vf_of (by first | exact hN) ?_))
theorem ref2_OfL {s : Bool} {n d : Nat} (hl : (lim n).length ≤ 16777216) (hm : (lim d).length ≤ 16777216) :
    Go.Ev.Fn CX 30 [.bool s, natV (lim n), natV (lim d)] (rv (mkRat (sgn s n) d)) := by
  have h := ref2_Of s (lim n) (lim d) (okL_lim _) (okL_lim _) hl hm
  rwa [wth_lim, wth_lim] at h
theorem rv_eq {q r : Rat} (h1 : decide (q.num < 0) = decide (r.num < 0)) (h2 : lim q.num.natAbs = lim r.num.natAbs) (h3 : lim q.den = lim r.den) : q = r := by
  have h4 := lim_inj h2
  have h5 := lim_inj h3
  refine Rat.ext ?_ h5
  by_cases h : q.num < 0
  · rw [decide_eq_true h] at h1
    have := of_decide_eq_true h1.symm
    omega
  · rw [decide_eq_false h] at h1
    have := of_decide_eq_false h1.symm
    omega
theorem ref2_Int (n : Int) (h : -9223372036854775808 ≤ n ∧ n < 9223372036854775808) : Go.Ev.Fn CX 23 [.int .i64 n] (rv (n : Rat)) := by
  have oN := ref1_Of n.natAbs (by omega)
  have e1 := int_u64 h
  have hl := lim_two (v := n.natAbs) |>.2 (by omega)
  have hOf := ref2_OfL (s := decide (n < 0)) (n := n.natAbs) (d := 1) (by omega) (by rw [lim_one]; simp)
  rw [lim_one, sgn_self, show mkRat n 1 = (n : Rat) from Rat.mkRat_one n] at hOf
  refine Go.Ev.Fn.intro (fn := Tryz.f23) (body := (Tryz.f23).body.get!) (by kernel_rfl) (by kernel_rfl) (by kernel_rfl) (fun _ => rfl) (Nat.le_of_ble_eq_true (by kernel_rfl)) ?_; unfold Tryz.f23; simp only [Option.get!_some]
  by_cases h0 : n < 0
  · rw [if_pos h0] at e1
    rw [decide_eq_true h0] at hOf
    have e2 : IntKind.u64.wrap (0 - ((18446744073709551616 - n.natAbs : Nat) : Int)) = (n.natAbs : Int) := by rw [IntKind.wrap_u64]; omega
    repeat (first | (simp only [go_sem, Nat.reduceEqDiff, Nat.reduceAdd, Nat.reduceSub, Nat.reduceMul, Nat.reduceLeDiff, Nat.reduceLT, reduceIte, reduceCtorEq, Nat.succ_ne_zero, elemsC, Int.reduceToNat, Nat.reducePow, e1, e2]) | (simp (disch := (first | omega | (simp only [AL, List.length_map]; omega))) only [AR, AL, ifT, ifF, take_all, List.length_cons, List.length_nil, Int.reduceToNat, Int.reducePow, Nat.reducePow, e1, e2]) | (refine wk_intro (by kernel_rfl) ?_) | (refine vf_of (by first | exact oN | exact hOf) ?_))
  · rw [if_neg h0] at e1
    rw [decide_eq_false h0] at hOf
    repeat (first | (simp only [go_sem, Nat.reduceEqDiff, Nat.reduceAdd, Nat.reduceSub, Nat.reduceMul, Nat.reduceLeDiff, Nat.reduceLT, reduceIte, reduceCtorEq, Nat.succ_ne_zero, elemsC, Int.reduceToNat, Nat.reducePow, e1]) | (simp (disch := (first | omega | (simp only [AL, List.length_map]; omega))) only [AR, AL, ifT, ifF, take_all, List.length_cons, List.length_nil, Int.reduceToNat, Int.reducePow, Nat.reducePow, e1]) | (refine wk_intro (by kernel_rfl) ?_) | (refine vf_of (by first | exact oN | exact hOf) ?_))
theorem ref2_Add {v w : SV} {q r : Rat} {L M : Nat} (hv : RatA v q L) (hw : RatA w r M) (hL : 1 ≤ L) (hM : 1 ≤ M) (h : L + M ≤ 8388608) : Go.Ev.Fn CX 33 [v, w] (rv (q + r)) := by
  have hnv := ref2_Norm hv (by omega)
  have hnw := ref2_Norm hw (by omega)
  obtain ⟨z1, z2⟩ := szR_of hv hL
  obtain ⟨y1, y2⟩ := szR_of hw hM
  have g1 := lim_len_mul (a := q.num.natAbs) (b := r.den)
  have g2 := lim_len_mul (a := r.num.natAbs) (b := q.den)
  have g3 := lim_len_mul (a := q.den) (b := r.den)
  have g4 := lim_len_add2 (a := q.num.natAbs * r.den) (b := r.num.natAbs * q.den) (L := L + M) (by omega) (by omega)
  have g5 := lim_len_mono (Nat.sub_le (q.num.natAbs * r.den) (r.num.natAbs * q.den))
  have g6 := lim_len_mono (Nat.sub_le (r.num.natAbs * q.den) (q.num.natAbs * r.den))
  obtain ⟨s, n, d, rfl, -⟩ := hv
  obtain ⟨s', n', d', rfl, -⟩ := hw
  have hbb := beq_bool (decide (q.num < 0)) (decide (r.num < 0))
  refine Go.Ev.Fn.intro (fn := Tryz.f33) (body := (Tryz.f33).body.get!) (by kernel_rfl) (by kernel_rfl) (by kernel_rfl) (fun _ => rfl) (Nat.le_of_ble_eq_true (by kernel_rfl)) ?_; unfold Tryz.f33; simp only [Option.get!_some]
  repeat (first | (simp only [go_sem, Nat.reduceEqDiff, Nat.reduceAdd, Nat.reduceSub, Nat.reduceMul, Nat.reduceLeDiff, Nat.reduceLT, reduceIte, reduceCtorEq, Nat.succ_ne_zero, elemsC, Int.reduceToNat, Nat.reducePow]) | (simp (disch := (first | omega | (simp only [AL, List.length_map]; omega))) only [AR, AL, ifT, ifF, take_all, List.length_cons, List.length_nil, Int.reduceToNat, Int.reducePow, Nat.reducePow]) | (refine wk_intro (by kernel_rfl) ?_) | (refine vp_draw (id := 1) (l := []) (by kernel_rfl) ?_) | (refine vp_draw (id := 2) (l := [19, 21, 24, 26]) (by kernel_rfl) ?_) | (refine vp_draw (id := 5) (l := [7, 8, 42, 9]) (by kernel_rfl) ?_) | (refine vf_of (by first | exact hnv | exact hnw) ?_))
  refine vf_of (ref1_MulL (by omega) (by omega)) ?_; repeat (first | (simp only [go_sem, Nat.reduceEqDiff, Nat.reduceAdd, Nat.reduceSub, Nat.reduceMul, Nat.reduceLeDiff, Nat.reduceLT, reduceIte, reduceCtorEq, Nat.succ_ne_zero, elemsC, Int.reduceToNat, Nat.reducePow]) | (simp (disch := (first | omega | (simp only [AL, List.length_map]; omega))) only [AR, AL, ifT, ifF, take_all, List.length_cons, List.length_nil, Int.reduceToNat, Int.reducePow, Nat.reducePow]) | (refine wk_intro (by kernel_rfl) ?_) | (refine vp_draw (id := 1) (l := []) (by kernel_rfl) ?_) | (refine vp_draw (id := 2) (l := [19, 21, 24, 26]) (by kernel_rfl) ?_) | (refine vp_draw (id := 5) (l := [7, 8, 42, 9]) (by kernel_rfl) ?_))
  refine vf_of (ref1_MulL (by omega) (by omega)) ?_; repeat (first | (simp only [go_sem, Nat.reduceEqDiff, Nat.reduceAdd, Nat.reduceSub, Nat.reduceMul, Nat.reduceLeDiff, Nat.reduceLT, reduceIte, reduceCtorEq, Nat.succ_ne_zero, elemsC, Int.reduceToNat, Nat.reducePow]) | (simp (disch := (first | omega | (simp only [AL, List.length_map]; omega))) only [AR, AL, ifT, ifF, take_all, List.length_cons, List.length_nil, Int.reduceToNat, Int.reducePow, Nat.reducePow]) | (refine wk_intro (by kernel_rfl) ?_) | (refine vp_draw (id := 1) (l := []) (by kernel_rfl) ?_) | (refine vp_draw (id := 2) (l := [19, 21, 24, 26]) (by kernel_rfl) ?_) | (refine vp_draw (id := 5) (l := [7, 8, 42, 9]) (by kernel_rfl) ?_))
  refine vf_of (ref1_MulL (by omega) (by omega)) ?_; repeat (first | (simp only [go_sem, Nat.reduceEqDiff, Nat.reduceAdd, Nat.reduceSub, Nat.reduceMul, Nat.reduceLeDiff, Nat.reduceLT, reduceIte, reduceCtorEq, Nat.succ_ne_zero, elemsC, Int.reduceToNat, Nat.reducePow, hbb]) | (simp (disch := (first | omega | (simp only [AL, List.length_map]; omega))) only [AR, AL, ifT, ifF, take_all, List.length_cons, List.length_nil, Int.reduceToNat, Int.reducePow, Nat.reducePow, hbb]) | (refine wk_intro (by kernel_rfl) ?_) | (refine vp_draw (id := 1) (l := []) (by kernel_rfl) ?_) | (refine vp_draw (id := 2) (l := [19, 21, 24, 26]) (by kernel_rfl) ?_) | (refine vp_draw (id := 5) (l := [7, 8, 42, 9]) (by kernel_rfl) ?_))
  by_cases hs : decide (q.num < 0) = decide (r.num < 0)
  · have hOf := ref2_OfL (s := decide (q.num < 0)) (n := q.num.natAbs * r.den + r.num.natAbs * q.den) (d := q.den * r.den) (by omega) (by omega)
    rw [add_same q r hs] at hOf
    rw [decide_eq_true hs]
    repeat (first | (simp only [go_sem, Nat.reduceEqDiff, Nat.reduceAdd, Nat.reduceSub, Nat.reduceMul, Nat.reduceLeDiff, Nat.reduceLT, reduceIte, reduceCtorEq, Nat.succ_ne_zero, elemsC, Int.reduceToNat, Nat.reducePow]) | (simp (disch := (first | omega | (simp only [AL, List.length_map]; omega))) only [AR, AL, ifT, ifF, take_all, List.length_cons, List.length_nil, Int.reduceToNat, Int.reducePow, Nat.reducePow]) | (refine wk_intro (by kernel_rfl) ?_) | (refine vp_draw (id := 1) (l := []) (by kernel_rfl) ?_) | (refine vp_draw (id := 2) (l := [19, 21, 24, 26]) (by kernel_rfl) ?_) | (refine vp_draw (id := 5) (l := [7, 8, 42, 9]) (by kernel_rfl) ?_))
    refine vf_of (ref1_AddL (by omega) (by omega)) ?_; repeat (first | (simp only [go_sem, Nat.reduceEqDiff, Nat.reduceAdd, Nat.reduceSub, Nat.reduceMul, Nat.reduceLeDiff, Nat.reduceLT, reduceIte, reduceCtorEq, Nat.succ_ne_zero, elemsC, Int.reduceToNat, Nat.reducePow]) | (simp (disch := (first | omega | (simp only [AL, List.length_map]; omega))) only [AR, AL, ifT, ifF, take_all, List.length_cons, List.length_nil, Int.reduceToNat, Int.reducePow, Nat.reducePow]) | (refine wk_intro (by kernel_rfl) ?_) | (refine vp_draw (id := 1) (l := []) (by kernel_rfl) ?_) | (refine vp_draw (id := 2) (l := [19, 21, 24, 26]) (by kernel_rfl) ?_) | (refine vp_draw (id := 5) (l := [7, 8, 42, 9]) (by kernel_rfl) ?_))
    refine vf_of (hOf) ?_; repeat (first | (simp only [go_sem, Nat.reduceEqDiff, Nat.reduceAdd, Nat.reduceSub, Nat.reduceMul, Nat.reduceLeDiff, Nat.reduceLT, reduceIte, reduceCtorEq, Nat.succ_ne_zero, elemsC, Int.reduceToNat, Nat.reducePow]) | (simp (disch := (first | omega | (simp only [AL, List.length_map]; omega))) only [AR, AL, ifT, ifF, take_all, List.length_cons, List.length_nil, Int.reduceToNat, Int.reducePow, Nat.reducePow]) | (refine wk_intro (by kernel_rfl) ?_) | (refine vp_draw (id := 1) (l := []) (by kernel_rfl) ?_) | (refine vp_draw (id := 2) (l := [19, 21, 24, 26]) (by kernel_rfl) ?_) | (refine vp_draw (id := 5) (l := [7, 8, 42, 9]) (by kernel_rfl) ?_))
  · rw [decide_eq_false hs]
    have hc := ref1_CmpL (N := q.num.natAbs * r.den) (D := r.num.natAbs * q.den) (by omega) (by omega)
    repeat (first | (simp only [go_sem, Nat.reduceEqDiff, Nat.reduceAdd, Nat.reduceSub, Nat.reduceMul, Nat.reduceLeDiff, Nat.reduceLT, reduceIte, reduceCtorEq, Nat.succ_ne_zero, elemsC, Int.reduceToNat, Nat.reducePow]) | (simp (disch := (first | omega | (simp only [AL, List.length_map]; omega))) only [AR, AL, ifT, ifF, take_all, List.length_cons, List.length_nil, Int.reduceToNat, Int.reducePow, Nat.reducePow]) | (refine wk_intro (by kernel_rfl) ?_) | (refine vp_draw (id := 1) (l := []) (by kernel_rfl) ?_) | (refine vp_draw (id := 2) (l := [19, 21, 24, 26]) (by kernel_rfl) ?_) | (refine vp_draw (id := 5) (l := [7, 8, 42, 9]) (by kernel_rfl) ?_))
    by_cases h2 : r.num.natAbs * q.den ≤ q.num.natAbs * r.den
    · have hOf := ref2_OfL (s := decide (q.num < 0)) (n := q.num.natAbs * r.den - r.num.natAbs * q.den) (d := q.den * r.den) (by omega) (by omega)
      rw [add_ge q r hs h2] at hOf
      have hcc : decide (cmpN (q.num.natAbs * r.den) (r.num.natAbs * q.den) ≥ 0) = true := by
        have := cmpN_ge h2
        rw [decide_eq_false_iff_not] at this
        exact decide_eq_true (by omega)
      refine vf_of (hc) ?_; repeat (first | (simp only [go_sem, Nat.reduceEqDiff, Nat.reduceAdd, Nat.reduceSub, Nat.reduceMul, Nat.reduceLeDiff, Nat.reduceLT, reduceIte, reduceCtorEq, Nat.succ_ne_zero, elemsC, Int.reduceToNat, Nat.reducePow, hcc]) | (simp (disch := (first | omega | (simp only [AL, List.length_map]; omega))) only [AR, AL, ifT, ifF, take_all, List.length_cons, List.length_nil, Int.reduceToNat, Int.reducePow, Nat.reducePow, hcc]) | (refine wk_intro (by kernel_rfl) ?_) | (refine vp_draw (id := 1) (l := []) (by kernel_rfl) ?_) | (refine vp_draw (id := 2) (l := [19, 21, 24, 26]) (by kernel_rfl) ?_) | (refine vp_draw (id := 5) (l := [7, 8, 42, 9]) (by kernel_rfl) ?_))
      refine vf_of (ref1_SubL (by omega) (by omega)) ?_; repeat (first | (simp only [go_sem, Nat.reduceEqDiff, Nat.reduceAdd, Nat.reduceSub, Nat.reduceMul, Nat.reduceLeDiff, Nat.reduceLT, reduceIte, reduceCtorEq, Nat.succ_ne_zero, elemsC, Int.reduceToNat, Nat.reducePow]) | (simp (disch := (first | omega | (simp only [AL, List.length_map]; omega))) only [AR, AL, ifT, ifF, take_all, List.length_cons, List.length_nil, Int.reduceToNat, Int.reducePow, Nat.reducePow]) | (refine wk_intro (by kernel_rfl) ?_) | (refine vp_draw (id := 1) (l := []) (by kernel_rfl) ?_) | (refine vp_draw (id := 2) (l := [19, 21, 24, 26]) (by kernel_rfl) ?_) | (refine vp_draw (id := 5) (l := [7, 8, 42, 9]) (by kernel_rfl) ?_))
      refine vf_of (hOf) ?_; repeat (first | (simp only [go_sem, Nat.reduceEqDiff, Nat.reduceAdd, Nat.reduceSub, Nat.reduceMul, Nat.reduceLeDiff, Nat.reduceLT, reduceIte, reduceCtorEq, Nat.succ_ne_zero, elemsC, Int.reduceToNat, Nat.reducePow]) | (simp (disch := (first | omega | (simp only [AL, List.length_map]; omega))) only [AR, AL, ifT, ifF, take_all, List.length_cons, List.length_nil, Int.reduceToNat, Int.reducePow, Nat.reducePow]) | (refine wk_intro (by kernel_rfl) ?_) | (refine vp_draw (id := 1) (l := []) (by kernel_rfl) ?_) | (refine vp_draw (id := 2) (l := [19, 21, 24, 26]) (by kernel_rfl) ?_) | (refine vp_draw (id := 5) (l := [7, 8, 42, 9]) (by kernel_rfl) ?_))
    · have hOf := ref2_OfL (s := decide (r.num < 0)) (n := r.num.natAbs * q.den - q.num.natAbs * r.den) (d := q.den * r.den) (by omega) (by omega)
      rw [add_lt q r hs (by omega)] at hOf
      rw [cmpN_lt (by omega)] at hc
      refine vf_of (hc) ?_; repeat (first | (simp only [go_sem, Nat.reduceEqDiff, Nat.reduceAdd, Nat.reduceSub, Nat.reduceMul, Nat.reduceLeDiff, Nat.reduceLT, reduceIte, reduceCtorEq, Nat.succ_ne_zero, elemsC, Int.reduceToNat, Nat.reducePow]) | (simp (disch := (first | omega | (simp only [AL, List.length_map]; omega))) only [AR, AL, ifT, ifF, take_all, List.length_cons, List.length_nil, Int.reduceToNat, Int.reducePow, Nat.reducePow]) | (refine wk_intro (by kernel_rfl) ?_) | (refine vp_draw (id := 1) (l := []) (by kernel_rfl) ?_) | (refine vp_draw (id := 2) (l := [19, 21, 24, 26]) (by kernel_rfl) ?_) | (refine vp_draw (id := 5) (l := [7, 8, 42, 9]) (by kernel_rfl) ?_))
      refine vf_of (ref1_SubL (by omega) (by omega)) ?_; repeat (first | (simp only [go_sem, Nat.reduceEqDiff, Nat.reduceAdd, Nat.reduceSub, Nat.reduceMul, Nat.reduceLeDiff, Nat.reduceLT, reduceIte, reduceCtorEq, Nat.succ_ne_zero, elemsC, Int.reduceToNat, Nat.reducePow]) | (simp (disch := (first | omega | (simp only [AL, List.length_map]; omega))) only [AR, AL, ifT, ifF, take_all, List.length_cons, List.length_nil, Int.reduceToNat, Int.reducePow, Nat.reducePow]) | (refine wk_intro (by kernel_rfl) ?_) | (refine vp_draw (id := 1) (l := []) (by kernel_rfl) ?_) | (refine vp_draw (id := 2) (l := [19, 21, 24, 26]) (by kernel_rfl) ?_) | (refine vp_draw (id := 5) (l := [7, 8, 42, 9]) (by kernel_rfl) ?_))
      refine vf_of (hOf) ?_; repeat (first | (simp only [go_sem, Nat.reduceEqDiff, Nat.reduceAdd, Nat.reduceSub, Nat.reduceMul, Nat.reduceLeDiff, Nat.reduceLT, reduceIte, reduceCtorEq, Nat.succ_ne_zero, elemsC, Int.reduceToNat, Nat.reducePow]) | (simp (disch := (first | omega | (simp only [AL, List.length_map]; omega))) only [AR, AL, ifT, ifF, take_all, List.length_cons, List.length_nil, Int.reduceToNat, Int.reducePow, Nat.reducePow]) | (refine wk_intro (by kernel_rfl) ?_) | (refine vp_draw (id := 1) (l := []) (by kernel_rfl) ?_) | (refine vp_draw (id := 2) (l := [19, 21, 24, 26]) (by kernel_rfl) ?_) | (refine vp_draw (id := 5) (l := [7, 8, 42, 9]) (by kernel_rfl) ?_))
end Go.Proofs.YtemnjalaincijaaGreat

/- Sizes of sums, products, quotients; vernierref2.Div, Neg, Sub, Cmp; rat.Cmp, in the evaluator. -/
namespace Go.Proofs.YtemnjalaincijaaGreat
set_option linter.unusedSimpArgs false
set_option linter.unusedVariables false
set_option maxRecDepth 8000
open Go.Ev
theorem szR_zero {L : Nat} (h : 1 ≤ L) : szR 0 L := ⟨by rw [show (0 : Rat).num.natAbs = 0 by rfl, lim_zero]; simp, by rw [show (0 : Rat).den = 1 by rfl, lim_one]; exact h⟩
theorem szR_mul {q r : Rat} {L M : Nat} (h1 : szR q L) (h2 : szR r M) (hL : 1 ≤ L) : szR (q * r) (L + M) := by
  rw [← mul_parts]
  have g1 := lim_len_mul (a := q.num.natAbs) (b := r.num.natAbs)
  have g2 := lim_len_mul (a := q.den) (b := r.den)
  obtain ⟨a1, a2⟩ := h1
  obtain ⟨b1, b2⟩ := h2
  exact szR_mk (by omega) (by omega) (by omega)
theorem szR_add {q r : Rat} {L M : Nat} (h1 : szR q L) (h2 : szR r M) (hL : 1 ≤ L) : szR (q + r) (L + M + 1) := by
  have g1 := lim_len_mul (a := q.num.natAbs) (b := r.den)
  have g2 := lim_len_mul (a := r.num.natAbs) (b := q.den)
  have g3 := lim_len_mul (a := q.den) (b := r.den)
  obtain ⟨a1, a2⟩ := h1
  obtain ⟨b1, b2⟩ := h2
  have g4 := lim_len_add2 (a := q.num.natAbs * r.den) (b := r.num.natAbs * q.den) (L := L + M) (by omega) (by omega)
  have e : q + r = mkRat (sgn (decide (sgn (decide (q.num < 0)) (q.num.natAbs * r.den) + sgn (decide (r.num < 0)) (r.num.natAbs * q.den) < 0)) (sgn (decide (q.num < 0)) (q.num.natAbs * r.den) + sgn (decide (r.num < 0)) (r.num.natAbs * q.den)).natAbs) (q.den * r.den) := by
    rw [sgn_self]; exact add_parts q r
  rw [e]
  refine szR_mk (Nat.le_trans (lim_len_mono ?_) g4) (by omega) (by omega)
  have := Int.natAbs_add_le (sgn (decide (q.num < 0)) (q.num.natAbs * r.den)) (sgn (decide (r.num < 0)) (r.num.natAbs * q.den))
  rw [sgn_abs, sgn_abs] at this
  exact this
theorem szR_sub {q r : Rat} {L M : Nat} (h1 : szR q L) (h2 : szR r M) (hL : 1 ≤ L) : szR (q - r) (L + M + 1) := by
  rw [Rat.sub_eq_add_neg]
  exact szR_add h1 (szR_neg h2) hL
theorem szR_div {q r : Rat} {L M : Nat} (h1 : szR q L) (h2 : szR r M) (hL : 1 ≤ L) (hM : 1 ≤ M) : szR (q / r) (L + M) := by
  by_cases hr : r = 0
  · rw [hr, Rat.div_def, Rat.inv_zero, Rat.mul_zero]
    exact szR_zero (by omega)
  · rw [div_parts hr]
    exact szR_mul h1 (szR_mk h2.2 h2.1 hM) hL
theorem ref2_Neg {v : SV} {q : Rat} {L : Nat} (hv : RatA v q L) (hL : 1 ≤ L) (h : L ≤ 8388608) : Go.Ev.Fn CX 36 [v] (rv (-q)) := by
  have hnv := ref2_Norm hv (by omega)
  obtain ⟨z1, z2⟩ := szR_of hv hL
  rw [neg_parts]
  obtain ⟨s, n, d, rfl, -⟩ := hv
  refine Go.Ev.Fn.intro (fn := Tryz.f36) (body := (Tryz.f36).body.get!) (by kernel_rfl) (by kernel_rfl) (by kernel_rfl) (fun _ => rfl) (Nat.le_of_ble_eq_true (by kernel_rfl)) ?_; unfold Tryz.f36; simp only [Option.get!_some]
  repeat (first | (simp only [go_sem, Nat.reduceEqDiff, Nat.reduceAdd, Nat.reduceSub, Nat.reduceMul, Nat.reduceLeDiff, Nat.reduceLT, reduceIte, reduceCtorEq, Nat.succ_ne_zero, elemsC, Int.reduceToNat, Nat.reducePow]) | (simp (disch := (first | omega | (simp only [AL, List.length_map]; omega))) only [AR, AL, ifT, ifF, take_all, List.length_cons, List.length_nil, Int.reduceToNat, Int.reducePow, Nat.reducePow]) | (refine wk_intro (by kernel_rfl) ?_) | (refine vf_of (by first | exact hnv) ?_))
  cases hs : decide (q.num < 0)
  · rcases Nat.eq_zero_or_pos (lim q.num.natAbs).length with h0 | h0
    · rw [decide_eq_false (show ¬ 0 < (lim q.num.natAbs).length by omega)]
      repeat (first | (simp only [go_sem, Nat.reduceEqDiff, Nat.reduceAdd, Nat.reduceSub, Nat.reduceMul, Nat.reduceLeDiff, Nat.reduceLT, reduceIte, reduceCtorEq, Nat.succ_ne_zero, elemsC, Int.reduceToNat, Nat.reducePow, Bool.not_true, Bool.not_false]) | (simp (disch := (first | omega | (simp only [AL, List.length_map]; omega))) only [AR, AL, ifT, ifF, take_all, List.length_cons, List.length_nil, Int.reduceToNat, Int.reducePow, Nat.reducePow, Bool.not_true, Bool.not_false]) | (refine wk_intro (by kernel_rfl) ?_))
    · rw [decide_eq_true h0]
      repeat (first | (simp only [go_sem, Nat.reduceEqDiff, Nat.reduceAdd, Nat.reduceSub, Nat.reduceMul, Nat.reduceLeDiff, Nat.reduceLT, reduceIte, reduceCtorEq, Nat.succ_ne_zero, elemsC, Int.reduceToNat, Nat.reducePow, Bool.not_true, Bool.not_false]) | (simp (disch := (first | omega | (simp only [AL, List.length_map]; omega))) only [AR, AL, ifT, ifF, take_all, List.length_cons, List.length_nil, Int.reduceToNat, Int.reducePow, Nat.reducePow, Bool.not_true, Bool.not_false]) | (refine wk_intro (by kernel_rfl) ?_))
  · repeat (first | (simp only [go_sem, Nat.reduceEqDiff, Nat.reduceAdd, Nat.reduceSub, Nat.reduceMul, Nat.reduceLeDiff, Nat.reduceLT, reduceIte, reduceCtorEq, Nat.succ_ne_zero, elemsC, Int.reduceToNat, Nat.reducePow, Bool.not_true, Bool.not_false]) | (simp (disch := (first | omega | (simp only [AL, List.length_map]; omega))) only [AR, AL, ifT, ifF, take_all, List.length_cons, List.length_nil, Int.reduceToNat, Int.reducePow, Nat.reducePow, Bool.not_true, Bool.not_false]) | (refine wk_intro (by kernel_rfl) ?_))
    rfl
end Go.Proofs.YtemnjalaincijaaGreat

/- rat.Cmp, vernierref2.Sub and Cmp, in the evaluator. -/
namespace Go.Proofs.YtemnjalaincijaaGreat
set_option linter.unusedSimpArgs false
set_option linter.unusedVariables false
set_option maxRecDepth 8000
open Go.Ev
/-- -1, 0 or 1. -/
def cmpR (q r : Rat) : Int := if q < r then -1 else if q = r then 0 else 1
theorem sub_num {q r : Rat} : (q - r).num < 0 ↔ q < r := by
  have h : (q - r).num < 0 ↔ q - r < 0 := by
    have := Rat.num_nonneg (q := q - r)
    constructor
    · intro h
      have h1 : ¬ 0 ≤ q - r := fun g => absurd (this.2 g) (by omega)
      grind
    · intro h
      rcases Int.lt_or_le (q - r).num 0 with h1 | h1
      · exact h1
      · exact absurd (this.1 h1) (by grind)
  rw [h]
  constructor <;> intro h <;> grind
theorem sub_zero' {q r : Rat} : (q - r).num = 0 ↔ q = r := by
  rw [Rat.num_eq_zero]
  constructor <;> intro h <;> grind
theorem int_szR {n : Int} (h : -9223372036854775808 ≤ n ∧ n ≤ 9223372036854775808) : szR (n : Rat) 2 := by
  refine ⟨?_, ?_⟩
  · show (lim n.natAbs).length ≤ 2
    exact lim_two.2 (by omega)
  · show (lim 1).length ≤ 2
    rw [lim_one]; simp
theorem rat_Cmp {v w : SV} {q r : Rat} {L M : Nat} (hv : RatA v q L) (hw : RatA w r M) (hL : 1 ≤ L) (hM : 1 ≤ M) (h : L + M ≤ 268435456) : Go.Ev.Fn CX 115 [v, w] (.int .i64 (cmpR q r)) := by
  have hs := rat_Sub hv hw hL hM h
  have hz := szR_sub (szR_of hv hL) (szR_of hw hM) hL
  obtain ⟨s, n, d, rfl, -⟩ := hv
  obtain ⟨s', n', d', rfl, -⟩ := hw
  obtain ⟨y1, -⟩ := hz
  refine Go.Ev.Fn.intro (fn := Tryz.f115) (body := (Tryz.f115).body.get!) (by kernel_rfl) (by kernel_rfl) (by kernel_rfl) (fun _ => rfl) (Nat.le_of_ble_eq_true (by kernel_rfl)) ?_; unfold Tryz.f115; simp only [Option.get!_some]
  by_cases h1 : q < r
  · have e : decide ((q - r).num < 0) = true := decide_eq_true (sub_num.2 h1)
    rw [show cmpR q r = -1 from if_pos h1]
    repeat (first | (simp only [go_sem, Nat.reduceEqDiff, Nat.reduceAdd, Nat.reduceSub, Nat.reduceMul, Nat.reduceLeDiff, Nat.reduceLT, reduceIte, reduceCtorEq, Nat.succ_ne_zero, elemsC, Int.reduceToNat, Nat.reducePow, e]) | (simp (disch := (first | omega | (simp only [AL, List.length_map]; omega))) only [AR, AL, ifT, ifF, take_all, List.length_cons, List.length_nil, Int.reduceToNat, Int.reducePow, Nat.reducePow, e]) | (refine wk_intro (by kernel_rfl) ?_) | (refine vf_of (by first | exact hs) ?_))
  · have e : decide ((q - r).num < 0) = false := decide_eq_false (fun h => h1 (sub_num.1 h))
    by_cases h2 : q = r
    · have e2 : (lim (q - r).num.natAbs).length = 0 := by rw [sub_zero'.2 h2]; simp [lim_zero]
      rw [show cmpR q r = 0 by unfold cmpR; rw [if_neg h1, if_pos h2]]
      repeat (first | (simp only [go_sem, Nat.reduceEqDiff, Nat.reduceAdd, Nat.reduceSub, Nat.reduceMul, Nat.reduceLeDiff, Nat.reduceLT, reduceIte, reduceCtorEq, Nat.succ_ne_zero, elemsC, Int.reduceToNat, Nat.reducePow, e]) | (simp (disch := (first | omega | (simp only [AL, List.length_map]; omega))) only [AR, AL, ifT, ifF, take_all, List.length_cons, List.length_nil, Int.reduceToNat, Int.reducePow, Nat.reducePow, e]) | (refine wk_intro (by kernel_rfl) ?_) | (refine vf_of (by first | exact hs) ?_))
    · have e2 := lim_pos (N := (q - r).num.natAbs) (fun h => h2 (sub_zero'.1 (by omega)))
      rw [show cmpR q r = 1 by unfold cmpR; rw [if_neg h1, if_neg h2]]
      repeat (first | (simp only [go_sem, Nat.reduceEqDiff, Nat.reduceAdd, Nat.reduceSub, Nat.reduceMul, Nat.reduceLeDiff, Nat.reduceLT, reduceIte, reduceCtorEq, Nat.succ_ne_zero, elemsC, Int.reduceToNat, Nat.reducePow, e]) | (simp (disch := (first | omega | (simp only [AL, List.length_map]; omega))) only [AR, AL, ifT, ifF, take_all, List.length_cons, List.length_nil, Int.reduceToNat, Int.reducePow, Nat.reducePow, e]) | (refine wk_intro (by kernel_rfl) ?_) | (refine vf_of (by first | exact hs) ?_))
theorem ref2_Sub {v w : SV} {q r : Rat} {L M : Nat} (hv : RatA v q L) (hw : RatA w r M) (hL : 1 ≤ L) (hM : 1 ≤ M) (h : L + M ≤ 8388608) : Go.Ev.Fn CX 52 [v, w] (rv (q - r)) := by
  have hN := ref2_Neg hw hM (by omega)
  have hA := ref2_Add hv (RatA_rv (szR_neg (szR_of hw hM))) hL hM h
  rw [← Rat.sub_eq_add_neg] at hA
  obtain ⟨s, n, d, rfl, -⟩ := hv
  obtain ⟨s', n', d', rfl, -⟩ := hw
  refine Go.Ev.Fn.intro (fn := Tryz.f52) (body := (Tryz.f52).body.get!) (by kernel_rfl) (by kernel_rfl) (by kernel_rfl) (fun _ => rfl) (Nat.le_of_ble_eq_true (by kernel_rfl)) ?_; unfold Tryz.f52; simp only [Option.get!_some]
  repeat (first | (simp only [go_sem, Nat.reduceEqDiff, Nat.reduceAdd, Nat.reduceSub, Nat.reduceMul, Nat.reduceLeDiff, Nat.reduceLT, reduceIte, reduceCtorEq, Nat.succ_ne_zero, elemsC, Int.reduceToNat, Nat.reducePow]) | (simp (disch := (first | omega | (simp only [AL, List.length_map]; omega))) only [AR, AL, ifT, ifF, take_all, List.length_cons, List.length_nil, Int.reduceToNat, Int.reducePow, Nat.reducePow]) | (refine wk_intro (by kernel_rfl) ?_) | (refine vp_draw (id := 1) (l := []) (by kernel_rfl) ?_) | (refine vf_of (by first | exact hN | exact hA) ?_))
theorem ref2_Cmp {v w : SV} {q r : Rat} {L M : Nat} (hv : RatA v q L) (hw : RatA w r M) (hL : 1 ≤ L) (hM : 1 ≤ M) (h : L + M ≤ 8388608) : Go.Ev.Fn CX 39 [v, w] (.int .i64 (cmpR q r)) := by
  have hs := ref2_Sub hv hw hL hM h
  have hz := szR_sub (szR_of hv hL) (szR_of hw hM) hL
  obtain ⟨s, n, d, rfl, -⟩ := hv
  obtain ⟨s', n', d', rfl, -⟩ := hw
  obtain ⟨y1, -⟩ := hz
  refine Go.Ev.Fn.intro (fn := Tryz.f39) (body := (Tryz.f39).body.get!) (by kernel_rfl) (by kernel_rfl) (by kernel_rfl) (fun _ => rfl) (Nat.le_of_ble_eq_true (by kernel_rfl)) ?_; unfold Tryz.f39; simp only [Option.get!_some]
  by_cases h2 : q = r
  · have e2 : (lim (q - r).num.natAbs).length = 0 := by rw [sub_zero'.2 h2]; simp [lim_zero]
    have h1 : ¬ q < r := by grind
    rw [show cmpR q r = 0 by unfold cmpR; rw [if_neg h1, if_pos h2]]
    repeat (first | (simp only [go_sem, Nat.reduceEqDiff, Nat.reduceAdd, Nat.reduceSub, Nat.reduceMul, Nat.reduceLeDiff, Nat.reduceLT, reduceIte, reduceCtorEq, Nat.succ_ne_zero, elemsC, Int.reduceToNat, Nat.reducePow]) | (simp (disch := (first | omega | (simp only [AL, List.length_map]; omega))) only [AR, AL, ifT, ifF, take_all, List.length_cons, List.length_nil, Int.reduceToNat, Int.reducePow, Nat.reducePow]) | (refine wk_intro (by kernel_rfl) ?_) | (refine vf_of (by first | exact hs) ?_))
  · have e2 := lim_pos (N := (q - r).num.natAbs) (fun h => h2 (sub_zero'.1 (by omega)))
    by_cases h1 : q < r
    · have e : decide ((q - r).num < 0) = true := decide_eq_true (sub_num.2 h1)
      rw [show cmpR q r = -1 from if_pos h1]
      repeat (first | (simp only [go_sem, Nat.reduceEqDiff, Nat.reduceAdd, Nat.reduceSub, Nat.reduceMul, Nat.reduceLeDiff, Nat.reduceLT, reduceIte, reduceCtorEq, Nat.succ_ne_zero, elemsC, Int.reduceToNat, Nat.reducePow, e]) | (simp (disch := (first | omega | (simp only [AL, List.length_map]; omega))) only [AR, AL, ifT, ifF, take_all, List.length_cons, List.length_nil, Int.reduceToNat, Int.reducePow, Nat.reducePow, e]) | (refine wk_intro (by kernel_rfl) ?_) | (refine vf_of (by first | exact hs) ?_))
    · have e : decide ((q - r).num < 0) = false := decide_eq_false (fun h => h1 (sub_num.1 h))
      rw [show cmpR q r = 1 by unfold cmpR; rw [if_neg h1, if_neg h2]]
      repeat (first | (simp only [go_sem, Nat.reduceEqDiff, Nat.reduceAdd, Nat.reduceSub, Nat.reduceMul, Nat.reduceLeDiff, Nat.reduceLT, reduceIte, reduceCtorEq, Nat.succ_ne_zero, elemsC, Int.reduceToNat, Nat.reducePow, e]) | (simp (disch := (first | omega | (simp only [AL, List.length_map]; omega))) only [AR, AL, ifT, ifF, take_all, List.length_cons, List.length_nil, Int.reduceToNat, Int.reducePow, Nat.reducePow, e]) | (refine wk_intro (by kernel_rfl) ?_) | (refine vf_of (by first | exact hs) ?_))
theorem cmpR_gt {q r : Rat} : decide (cmpR q r > 0) = decide (r < q) := by
  unfold cmpR
  by_cases h1 : q < r
  · rw [if_pos h1, decide_eq_false (by decide), decide_eq_false (by grind)]
  · rw [if_neg h1]
    by_cases h2 : q = r
    · rw [if_pos h2, decide_eq_false (by decide), decide_eq_false (by grind)]
    · rw [if_neg h2, decide_eq_true (by decide), decide_eq_true (by grind)]
theorem cmpR_lt {q r : Rat} : decide (cmpR q r < 0) = decide (q < r) := by
  unfold cmpR
  by_cases h1 : q < r
  · rw [if_pos h1, decide_eq_true (by decide), decide_eq_true h1]
  · rw [if_neg h1, decide_eq_false h1]
    by_cases h2 : q = r
    · rw [if_pos h2, decide_eq_false (by decide)]
    · rw [if_neg h2, decide_eq_false (by decide)]
theorem cmpR_le {q r : Rat} : decide (cmpR q r ≤ 0) = decide (q ≤ r) := by
  unfold cmpR
  by_cases h1 : q < r
  · rw [if_pos h1, decide_eq_true (by decide), decide_eq_true (show q ≤ r by grind)]
  · rw [if_neg h1]
    by_cases h2 : q = r
    · rw [if_pos h2, decide_eq_true (by decide), decide_eq_true (show q ≤ r by grind)]
    · rw [if_neg h2, decide_eq_false (by decide), decide_eq_false (show ¬ q ≤ r by grind)]
theorem b_and64i {a b : Nat} (ha : a < 9223372036854775808) (hb : b < 9223372036854775808) : bitsSV .and .i64 (a : Int) (b : Int) = some (.int .i64 ((a &&& b : Nat) : Int)) := by
  have h : a &&& b < 2 ^ 63 := Nat.lt_of_le_of_lt Nat.and_le_left ha
  have e : IntKind.i64.wrap ((BitVec.ofInt IntKind.i64.bits (a : Int) &&& BitVec.ofInt IntKind.i64.bits (b : Int)).toNat : Int) = ((a &&& b : Nat) : Int) := by
    show IntKind.i64.wrap ((BitVec.ofInt 64 (a : Int) &&& BitVec.ofInt 64 (b : Int)).toNat : Int) = _
    rw [ofInt_nat, ofInt_nat, BitVec.toNat_and, BitVec.toNat_ofNat, BitVec.toNat_ofNat, Nat.mod_eq_of_lt (show a < 2 ^ 64 by omega), Nat.mod_eq_of_lt (show b < 2 ^ 64 by omega), wI64 (by omega)]
  show some (SV.int _ _) = _
  rw [e]
theorem and_one64 {a : Nat} (ha : a < 9223372036854775808) : bitsSV .and .i64 (a : Int) 1 = some (.int .i64 ((a % 2 : Nat) : Int)) := by
  have := b_and64i ha (b := 1) (by omega)
  rw [and_one] at this
  exact this
theorem lim_len1 : (lim 1).length ≤ 1 := lim_len_one (by decide)
end Go.Proofs.YtemnjalaincijaaGreat

/- What lies between two naturals by a power of two: plain mathematics, no program. -/
namespace Go.Proofs.YtemnjalaincijaaGreat
open Go.Ev
abbrev p2 (w : Nat) : Rat := ((2 ^ w : Nat) : Rat)
theorem p2_pos (w : Nat) : 0 < p2 w := by
  have : 0 < 2 ^ w := Nat.pow_pos (by omega)
  exact_mod_cast this
/-- A number q that is not below 0 lies between a and b, by 2 to the power w. -/
def Enc (w a b : Nat) (q : Rat) : Prop := (a : Rat) ≤ q * p2 w ∧ q * p2 w ≤ (b : Rat)
theorem floor_le {a d : Nat} : ((a / d : Nat) : Rat) * (d : Rat) ≤ (a : Rat) := by
  have := Nat.div_mul_le_self a d
  exact_mod_cast this
theorem le_floor {a d : Nat} (hd : 0 < d) : (a : Rat) ≤ ((a / d + 1 : Nat) : Rat) * (d : Rat) := by
  have h2 : a ≤ (a / d + 1) * d := by
    have := Nat.div_add_mod a d
    have h3 := Nat.mod_lt a hd
    rw [Nat.add_mul, Nat.one_mul, Nat.mul_comm]
    omega
  exact_mod_cast h2
theorem enc_add {w a b c d : Nat} {q r : Rat} (h1 : Enc w a b q) (h2 : Enc w c d r) : Enc w (a + c) (b + d) (q + r) := by
  obtain ⟨x1, x2⟩ := h1
  obtain ⟨y1, y2⟩ := h2
  have e1 : ((a + c : Nat) : Rat) = (a : Rat) + (c : Rat) := by exact_mod_cast rfl
  have e2 : ((b + d : Nat) : Rat) = (b : Rat) + (d : Rat) := by exact_mod_cast rfl
  unfold Enc
  rw [e1, e2]
  constructor <;> grind
theorem enc_wider {w a b n : Nat} {q : Rat} (h : Enc w a b q) : Enc w a (b + n) q := by
  obtain ⟨x1, x2⟩ := h
  refine ⟨x1, Rat.le_trans x2 ?_⟩
  have : b ≤ b + n := Nat.le_add_right _ _
  exact_mod_cast this
theorem enc_nonneg {w a b : Nat} {q : Rat} (h : Enc w a b q) : 0 ≤ q := by
  have h0 : (0 : Rat) ≤ (a : Rat) := by exact_mod_cast Nat.zero_le a
  have h1 : 0 ≤ q * p2 w := Rat.le_trans h0 h.1
  rcases Rat.le_total (a := 0) (b := q) with h2 | h2
  · exact h2
  · by_cases e : q = 0
    · rw [e]; exact Rat.le_refl
    · have : q * p2 w < 0 := by
        have h3 : 0 < (-q) * p2 w := Rat.mul_pos (by grind) (p2_pos w)
        grind
      grind
theorem le_by {x y c : Rat} (hc : 0 < c) (h : x * c ≤ y * c) : x ≤ y := by
  rcases Rat.le_total (a := x) (b := y) with h1 | h1
  · exact h1
  · have h2 := Rat.mul_le_mul_of_nonneg_right h1 (by grind : (0 : Rat) ≤ c)
    have h3 : (x - y) * c = 0 := by grind
    rcases Rat.mul_eq_zero.1 h3 with h4 | h4 <;> grind
theorem mul_le {a b c d : Rat} (h1 : a ≤ b) (h2 : c ≤ d) (hb : 0 ≤ b) (hc : 0 ≤ c) : a * c ≤ b * d :=
  Rat.le_trans (Rat.mul_le_mul_of_nonneg_right h1 hc) (Rat.mul_le_mul_of_nonneg_left h2 hb)
theorem nat_nonneg (a : Nat) : (0 : Rat) ≤ (a : Rat) := by exact_mod_cast Nat.zero_le a
theorem enc_mul {w a b c d : Nat} {q r : Rat} (h1 : Enc w a b q) (h2 : Enc w c d r) : Enc w (a * c / 2 ^ w) (b * d / 2 ^ w + 1) (q * r) := by
  have hq := enc_nonneg h1
  have P := p2_pos w
  obtain ⟨x1, x2⟩ := h1
  have hr := enc_nonneg h2
  obtain ⟨y1, y2⟩ := h2
  have f := floor_le (a := a * c) (d := 2 ^ w)
  have g := le_floor (a := b * d) (d := 2 ^ w) (Nat.pow_pos (by omega))
  have e1 : ((a * c : Nat) : Rat) = (a : Rat) * (c : Rat) := by exact_mod_cast rfl
  have e2 : ((b * d : Nat) : Rat) = (b : Rat) * (d : Rat) := by exact_mod_cast rfl
  have m1 := mul_le x1 y1 (Rat.le_trans (nat_nonneg a) x1) (nat_nonneg c)
  have m2 := mul_le x2 y2 (nat_nonneg b) (Rat.le_trans (nat_nonneg c) y1)
  refine ⟨le_by P ?_, le_by P ?_⟩
  · rw [e1] at f
    show ((a * c / 2 ^ w : Nat) : Rat) * p2 w ≤ _
    have : q * r * p2 w * p2 w = q * p2 w * (r * p2 w) := by grind
    rw [this]
    exact Rat.le_trans f m1
  · rw [e2] at g
    have : q * r * p2 w * p2 w = q * p2 w * (r * p2 w) := by grind
    rw [this]
    exact Rat.le_trans m2 g
theorem enc_times {w a b n d : Nat} {q : Rat} (hd : 0 < d) (h : Enc w a b q) : Enc w (a * n / d) (b * n / d + 1) (q * (n : Rat) / (d : Rat)) := by
  obtain ⟨x1, x2⟩ := h
  have D : (0 : Rat) < (d : Rat) := by exact_mod_cast hd
  have Dn : (d : Rat) ≠ 0 := by grind
  have f := floor_le (a := a * n) (d := d)
  have g := le_floor (a := b * n) (d := d) hd
  have e1 : ((a * n : Nat) : Rat) = (a : Rat) * (n : Rat) := by exact_mod_cast rfl
  have e2 : ((b * n : Nat) : Rat) = (b : Rat) * (n : Rat) := by exact_mod_cast rfl
  have m1 := Rat.mul_le_mul_of_nonneg_right x1 (nat_nonneg n)
  have m2 := Rat.mul_le_mul_of_nonneg_right x2 (nat_nonneg n)
  have c : q * (n : Rat) / (d : Rat) * p2 w * (d : Rat) = q * p2 w * (n : Rat) := by
    have := Rat.div_mul_cancel (a := q * (n : Rat)) Dn
    have h2 : q * (n : Rat) / (d : Rat) * p2 w * (d : Rat) = q * (n : Rat) / (d : Rat) * (d : Rat) * p2 w := by grind
    rw [h2, this]
    grind
  refine ⟨le_by D ?_, le_by D ?_⟩
  · rw [e1] at f
    rw [c]
    exact Rat.le_trans f m1
  · rw [e2] at g
    rw [c]
    exact Rat.le_trans m2 g
end Go.Proofs.YtemnjalaincijaaGreat

/- What exps reckons, in naturals: its row, its squares; what lies in them. Plain mathematics. -/
namespace Go.Proofs.YtemnjalaincijaaGreat
open Go.Ev
set_option linter.unusedVariables false
/-- The row of e to a small power: so many terms; the last term is at most 1. -/
def eRow (w Y : Nat) : Nat → Nat → Nat → Nat → Nat → Nat → Option (Nat × Nat)
  | 0, _, _, _, _, _ => none
  | f + 1, n, t1, t2, a1, a2 => if t2 < 2 then some (a1, a2 + 1) else
      eRow w Y f (n + 1) (t1 * Y / 2 ^ w * 1 / n) ((t2 * (Y + 1) / 2 ^ w + 1) * 1 / n + 1) (a1 + t1 * Y / 2 ^ w * 1 / n) (a2 + ((t2 * (Y + 1) / 2 ^ w + 1) * 1 / n + 1))
/-- What holds in the row. -/
def eInv (w n t1 t2 a1 a2 : Nat) : Prop := 1 ≤ n ∧ t1 ≤ t2 ∧ t2 ≤ t1 + 5 ∧ t2 ≤ 2 ^ w + 1 ∧ 2 ^ w ≤ a1 ∧ a1 ≤ a2 ∧ a2 ≤ a1 + 5 * n ∧ a2 + t2 ≤ 2 ^ (w + 1) + 2 + 4 * n
theorem eInv_0 (w : Nat) : eInv w 1 (2 ^ w) (2 ^ w + 1) (2 ^ w) (2 ^ w + 1) := by
  have : 2 ^ (w + 1) = 2 ^ w * 2 := Nat.pow_succ _ _
  unfold eInv
  omega
theorem eStep_le {w Y n t2 : Nat} (hw : 64 ≤ w) (hY : Y + 1 ≤ 2 ^ (w - 7)) (hn : 1 ≤ n) : (t2 * (Y + 1) / 2 ^ w + 1) * 1 / n + 1 ≤ t2 / 128 + 2 := by
  have P : 0 < 2 ^ w := Nat.pow_pos (by omega)
  have e : 2 ^ w = 2 ^ (w - 7) * 128 := by rw [show (128 : Nat) = 2 ^ 7 from rfl, ← Nat.pow_add]; congr 1; omega
  have h1 : t2 * (Y + 1) / 2 ^ w ≤ t2 / 128 := by
    rw [e]
    refine Nat.le_trans (Nat.div_le_div_right (Nat.mul_le_mul_left t2 hY)) ?_
    rw [Nat.mul_comm t2, Nat.mul_div_mul_left _ _ (Nat.pow_pos (by omega))]
    exact Nat.le_refl _
  rw [Nat.mul_one]
  have h2 := Nat.div_le_self (t2 * (Y + 1) / 2 ^ w + 1) n
  omega
theorem eInv_step {w Y n t1 t2 a1 a2 : Nat} (hw : 64 ≤ w) (hY : Y + 1 ≤ 2 ^ (w - 7)) (h : eInv w n t1 t2 a1 a2) :
    eInv w (n + 1) (t1 * Y / 2 ^ w * 1 / n) ((t2 * (Y + 1) / 2 ^ w + 1) * 1 / n + 1) (a1 + t1 * Y / 2 ^ w * 1 / n) (a2 + ((t2 * (Y + 1) / 2 ^ w + 1) * 1 / n + 1)) := by
  obtain ⟨h1, h2, h3, h4, h5, h6, h7, h8⟩ := h
  have up := eStep_le (t2 := t2) hw hY h1
  have P : 0 < 2 ^ w := Nat.pow_pos (by omega)
  have e : 2 ^ w = 2 ^ (w - 7) * 128 := by rw [show (128 : Nat) = 2 ^ 7 from rfl, ← Nat.pow_add]; congr 1; omega
  have big : 1024 ≤ 2 ^ (w - 7) := Nat.le_trans (by decide) (Nat.pow_le_pow_right (n := 2) (by omega) (show 10 ≤ w - 7 by omega))
  have q1 : t2 * (Y + 1) / 2 ^ w ≤ t1 * Y / 2 ^ w + 2 := by
    have m1 : t2 * (Y + 1) ≤ t1 * Y + 2 ^ w * 2 := by
      have a := Nat.mul_le_mul_right (Y + 1) h3
      have b : (t1 + 5) * (Y + 1) = t1 * Y + t1 + 5 * (Y + 1) := by rw [Nat.add_mul, Nat.mul_add, Nat.mul_one]
      omega
    have := Nat.div_le_div_right (c := 2 ^ w) m1
    rwa [Nat.add_mul_div_left _ _ P] at this
  have q0 : t1 * Y / 2 ^ w ≤ t2 * (Y + 1) / 2 ^ w := Nat.div_le_div_right (Nat.mul_le_mul h2 (by omega))
  generalize t1 * Y / 2 ^ w = x1 at *
  generalize t2 * (Y + 1) / 2 ^ w = x2 at *
  rw [Nat.mul_one, Nat.mul_one] at *
  have g1 : x1 / n ≤ (x2 + 1) / n := Nat.div_le_div_right (by omega)
  have g2 : (x2 + 1) / n ≤ x1 / n + 3 := by
    have a : (x2 + 1) / n ≤ (x1 + 3 * n) / n := Nat.div_le_div_right (by have := Nat.le_mul_of_pos_right 3 h1; omega)
    rwa [Nat.add_mul_div_right _ _ h1] at a
  generalize x1 / n = u1 at *
  generalize (x2 + 1) / n = u2 at *
  unfold eInv
  omega
/-- The row ends, and what it tells. -/
theorem eRow_end {w Y : Nat} (hw : 64 ≤ w) (hY : Y + 1 ≤ 2 ^ (w - 7)) : ∀ (m f n t1 t2 a1 a2 : Nat), eInv w n t1 t2 a1 a2 → t2 ≤ 2 ^ (7 * m) + 3 → (m = 0 → 2 ≤ n) → m + 2 ≤ f → ∃ A B s, eRow w Y f n t1 t2 a1 a2 = some (A, B) ∧ n ≤ s ∧ s ≤ n + m + 1 ∧ 2 ^ w ≤ A ∧ A ≤ B ∧ B ≤ A + 5 * s + 1 ∧ B ≤ 2 ^ (w + 1) + 3 + 4 * s := by
  intro m
  induction m with
  | zero =>
    intro f n t1 t2 a1 a2 h ht hn hf
    obtain ⟨f, rfl⟩ : ∃ k, f = k + 2 := ⟨f - 2, by omega⟩
    have hh := h
    obtain ⟨h1, h2, h3, h4, h5, h6, h7, h8⟩ := hh
    rw [eRow]
    by_cases g : t2 < 2
    · rw [if_pos g]
      exact ⟨a1, a2 + 1, n, rfl, Nat.le_refl _, by omega, h5, by omega, by omega, by omega⟩
    · rw [if_neg g]
      have st := eInv_step hw hY h
      have e : (t2 * (Y + 1) / 2 ^ w + 1) * 1 / n + 1 = 1 := by
        have P : 0 < 2 ^ w := Nat.pow_pos (by omega)
        have e7 : 2 ^ w = 2 ^ (w - 7) * 128 := by rw [show (128 : Nat) = 2 ^ 7 from rfl, ← Nat.pow_add]; congr 1; omega
        have z : t2 * (Y + 1) / 2 ^ w = 0 := by
          refine Nat.div_eq_of_lt ?_
          have m := Nat.mul_le_mul (show t2 ≤ 4 by have : 2 ^ (7 * 0) = 1 := rfl; omega) hY
          have : 0 < 2 ^ (w - 7) := Nat.pow_pos (by omega)
          omega
        rw [z, Nat.mul_one, Nat.zero_add, Nat.div_eq_of_lt (show 1 < n by have := hn rfl; omega)]
      rw [e] at st ⊢
      rw [eRow, if_pos (by omega)]
      obtain ⟨k1, k2, k3, k4, k5, k6, k7, k8⟩ := st
      exact ⟨_, _, n + 1, rfl, by omega, by omega, k5, by omega, by omega, by omega⟩
  | succ m ih =>
    intro f n t1 t2 a1 a2 h ht hn hf
    obtain ⟨f, rfl⟩ : ∃ k, f = k + 1 := ⟨f - 1, by omega⟩
    have hh := h
    obtain ⟨h1, h2, h3, h4, h5, h6, h7, h8⟩ := hh
    rw [eRow]
    by_cases g : t2 < 2
    · rw [if_pos g]
      exact ⟨a1, a2 + 1, n, rfl, Nat.le_refl _, by omega, h5, by omega, by omega, by omega⟩
    · rw [if_neg g]
      have st := eInv_step hw hY h
      have up := eStep_le (t2 := t2) hw hY h1
      have dv : t2 / 128 ≤ 2 ^ (7 * m) := by
        have e : 2 ^ (7 * (m + 1)) = 2 ^ (7 * m) * 128 := by rw [show 7 * (m + 1) = 7 * m + 7 by omega, Nat.pow_add]
        rw [e] at ht
        omega
      obtain ⟨A, B, s, r1, r2, r3, r4, r5, r6, r7⟩ := ih f (n + 1) _ _ _ _ st (by omega) (by omega) (by omega)
      exact ⟨A, B, s, r1, by omega, by omega, r4, r5, r6, r7⟩
/-- All later cut rows lie in it. -/
theorem eRow_enc {w Y : Nat} {y : Rat} (hy : Enc w Y (Y + 1) y) (hy1 : y + y ≤ 1) : ∀ (f n t1 t2 a1 a2 A B : Nat), eRow w Y f (n + 1) t1 t2 a1 a2 = some (A, B) → Enc w t1 t2 (Ex.tm y n) → Enc w a1 a2 (Ex.E y (n + 1)) → ∃ s, ∀ L, s ≤ L → Enc w A B (Ex.E y L) := by
  have y0 := enc_nonneg hy
  intro f
  induction f with
  | zero => intro n t1 t2 a1 a2 A B h; cases h
  | succ f ih =>
    intro n t1 t2 a1 a2 A B h ht ha
    rw [eRow] at h
    by_cases g : t2 < 2
    · rw [if_pos g] at h
      simp only [Option.some.injEq, Prod.mk.injEq] at h
      obtain ⟨rfl, rfl⟩ := h
      refine ⟨n + 1, fun L hL => ?_⟩
      have P := p2_pos w
      have mono := Ex.E_mono y0 hL
      have c : ((2 : Nat) : Rat) ≤ ((n + 1 + 1 : Nat) : Rat) := by exact_mod_cast (by omega : 2 ≤ n + 1 + 1)
      have tail := Ex.E_tail_le (L := L) y0 (N := n + 1) (Rat.le_trans (show y + y ≤ ((2 : Nat) : Rat) from Rat.le_trans hy1 (by decide)) c)
      have tn := Ex.tm_nn y0 n
      have ts := Ex.tm_succ y n
      have half : 2 * Ex.tm y (n + 1) ≤ Ex.tm y n := by
        have c1 : ((1 : Nat) : Rat) ≤ ((n + 1 : Nat) : Rat) := by exact_mod_cast (by omega : 1 ≤ n + 1)
        have tn1 := Ex.tm_nn y0 (n + 1)
        have m1 := Rat.mul_le_mul_of_nonneg_right c1 tn1
        have m2 := Rat.mul_le_mul_of_nonneg_right hy1 tn
        rw [ts] at m1
        have e1 : ((1 : Nat) : Rat) = 1 := rfl
        rw [e1] at m1
        grind
      obtain ⟨l1, l2⟩ := ha
      obtain ⟨l3, l4⟩ := ht
      have t1' : (t2 : Rat) ≤ 1 := by exact_mod_cast (by omega : t2 ≤ 1)
      have eb : ((a2 + 1 : Nat) : Rat) = (a2 : Rat) + 1 := by exact_mod_cast rfl
      refine ⟨Rat.le_trans l1 (Rat.mul_le_mul_of_nonneg_right mono (Rat.le_of_lt P)), ?_⟩
      rw [eb]
      have m3 := Rat.mul_le_mul_of_nonneg_right (show Ex.E y L ≤ Ex.E y (n + 1) + Ex.tm y n by grind) (Rat.le_of_lt P)
      rw [Rat.add_mul] at m3
      generalize Ex.E y L * p2 w = z1 at *
      generalize Ex.E y (n + 1) * p2 w = z2 at *
      generalize Ex.tm y n * p2 w = z3 at *
      clear mono tail tn ts half
      grind
    · rw [if_neg g] at h
      have e1 := enc_times (n := 1) (d := n + 1) (by omega) (enc_mul ht hy)
      have e2 : Ex.tm y n * y * ((1 : Nat) : Rat) / ((n + 1 : Nat) : Rat) = Ex.tm y (n + 1) := by
        have : ((1 : Nat) : Rat) = 1 := rfl
        rw [this, Rat.mul_one]; rfl
      rw [e2] at e1
      exact ih (n + 1) _ _ _ _ A B h e1 (enc_add ha e1)
/-- So many squares. -/
def sqs (w : Nat) : Nat → Nat → Nat → Nat × Nat
  | 0, lo, hi => (lo, hi)
  | k + 1, lo, hi => sqs w k (lo * lo / 2 ^ w) (hi * hi / 2 ^ w + 1)
theorem sq_step {w lo hi c G : Nat} (h1 : 2 ^ w ≤ lo) (h2 : lo ≤ hi) (h3 : hi < 2 ^ (w + c)) (h4 : hi ≤ lo + G) (hG : 1 ≤ G) :
    2 ^ w ≤ lo * lo / 2 ^ w ∧ lo * lo / 2 ^ w ≤ hi * hi / 2 ^ w + 1 ∧ hi * hi / 2 ^ w + 1 < 2 ^ (w + (c + c)) ∧ hi * hi / 2 ^ w + 1 ≤ lo * lo / 2 ^ w + G * 2 ^ (c + 2) := by
  have P : 0 < 2 ^ w := Nat.pow_pos (by omega)
  have Pc : 0 < 2 ^ c := Nat.pow_pos (by omega)
  have e1 : 2 ^ (w + c) = 2 ^ w * 2 ^ c := Nat.pow_add _ _ _
  have e2 : 2 ^ (w + (c + c)) = 2 ^ w * 2 ^ c * 2 ^ c := by rw [Nat.pow_add, Nat.pow_add, Nat.mul_assoc]
  have e3 : 2 ^ (c + 2) = 2 ^ c * 4 := Nat.pow_add _ _ _
  refine ⟨(Nat.le_div_iff_mul_le P).2 (Nat.mul_le_mul h1 h1), Nat.le_succ_of_le (Nat.div_le_div_right (Nat.mul_le_mul h2 h2)), ?_, ?_⟩
  · have m : hi * hi < (2 ^ w * 2 ^ c * 2 ^ c - 1) * 2 ^ w := by
      obtain ⟨d, hd⟩ : ∃ d, 2 ^ w * 2 ^ c = hi + 1 + d := ⟨2 ^ w * 2 ^ c - hi - 1, by omega⟩
      have a : (hi + 1) * (hi + 1) ≤ 2 ^ w * 2 ^ c * (2 ^ w * 2 ^ c) := Nat.mul_le_mul (by omega) (by omega)
      have b : 2 ^ w * 2 ^ c * (2 ^ w * 2 ^ c) = 2 ^ w * 2 ^ c * 2 ^ c * 2 ^ w := by generalize 2 ^ w = x; generalize 2 ^ c = y; grind
      have e : (hi + 1) * (hi + 1) = hi * hi + 2 * hi + 1 := by clear h1 h2 h3 h4 a; grind
      rw [e, b] at a
      rw [Nat.sub_mul, Nat.one_mul]
      have : 2 ^ w ≤ hi := Nat.le_trans h1 h2
      generalize 2 ^ w * 2 ^ c * 2 ^ c * 2 ^ w = z at *
      generalize hi * hi = y at *
      omega
    have r := (Nat.div_lt_iff_lt_mul P).2 m
    rw [e2]
    clear m e2 e1 e3 h3 h4
    generalize hi * hi / 2 ^ w = t at *
    generalize 2 ^ w * 2 ^ c * 2 ^ c = z at *
    omega
  · have m : hi * hi ≤ lo * lo + 2 ^ w * (G * (2 ^ c * 2)) := by
      obtain ⟨g, hg, hgG⟩ : ∃ g, hi = lo + g ∧ g ≤ G := ⟨hi - lo, by omega, by omega⟩
      have a : hi * hi = lo * lo + g * (hi + lo) := by subst hg; clear h1 h2 h3 h4; grind
      have b : g * (hi + lo) ≤ G * (2 ^ w * 2 ^ c * 2) := Nat.mul_le_mul hgG (by omega)
      have e : G * (2 ^ w * 2 ^ c * 2) = 2 ^ w * (G * (2 ^ c * 2)) := by rw [Nat.mul_assoc (2 ^ w), Nat.mul_left_comm]
      omega
    have := Nat.div_le_div_right (c := 2 ^ w) m
    rw [Nat.add_mul_div_left _ _ P] at this
    have k : 1 ≤ G * (2 ^ c * 2) := Nat.mul_pos hG (by omega)
    have e : G * 2 ^ (c + 2) = G * (2 ^ c * 2) * 2 := by rw [e3, Nat.mul_assoc, Nat.mul_assoc]
    omega
theorem sqs_ok {w : Nat} : ∀ (k lo hi c G : Nat), 2 ^ w ≤ lo → lo ≤ hi → hi < 2 ^ (w + c) → hi ≤ lo + G → 1 ≤ G →
    2 ^ w ≤ (sqs w k lo hi).1 ∧ (sqs w k lo hi).1 ≤ (sqs w k lo hi).2 ∧ (sqs w k lo hi).2 < 2 ^ (w + c * 2 ^ k) ∧ (sqs w k lo hi).2 ≤ (sqs w k lo hi).1 + G * 2 ^ (c * (2 ^ k - 1) + 2 * k)
  | 0, lo, hi, c, G, h1, h2, h3, h4, h5 => by
    refine ⟨h1, h2, ?_, ?_⟩
    · rw [Nat.pow_zero, Nat.mul_one]; exact h3
    · show hi ≤ lo + G * 2 ^ (c * (2 ^ 0 - 1) + 2 * 0)
      rw [Nat.pow_zero, Nat.sub_self, Nat.mul_zero, Nat.pow_zero, Nat.mul_one]; exact h4
  | k + 1, lo, hi, c, G, h1, h2, h3, h4, h5 => by
    obtain ⟨s1, s2, s3, s4⟩ := sq_step h1 h2 h3 h4 h5
    have ih := sqs_ok k (lo * lo / 2 ^ w) (hi * hi / 2 ^ w + 1) (c + c) (G * 2 ^ (c + 2)) s1 s2 s3 s4 (Nat.mul_pos h5 (Nat.pow_pos (by omega)))
    obtain ⟨i1, i2, i3, i4⟩ := ih
    have p : 0 < 2 ^ k := Nat.pow_pos (by omega)
    have pk : 2 ^ (k + 1) = 2 ^ k * 2 := Nat.pow_succ _ _
    refine ⟨i1, i2, ?_, ?_⟩
    · have e : (c + c) * 2 ^ k = c * 2 ^ (k + 1) := by rw [pk, ← Nat.mul_two, Nat.mul_assoc, Nat.mul_comm 2]
      rw [← e]; exact i3
    · have e : G * 2 ^ (c + 2) * 2 ^ ((c + c) * (2 ^ k - 1) + 2 * k) = G * 2 ^ (c * (2 ^ (k + 1) - 1) + 2 * (k + 1)) := by
        rw [Nat.mul_assoc, ← Nat.pow_add]
        congr 2
        obtain ⟨q, hq⟩ : ∃ q, 2 ^ k = q + 1 := ⟨2 ^ k - 1, by omega⟩
        rw [pk, hq, show q + 1 - 1 = q by omega, show (q + 1) * 2 - 1 = q + q + 1 by omega, Nat.mul_add, Nat.mul_add, Nat.mul_one, Nat.add_mul]
        omega
      rw [← e]; exact i4
theorem sqs_enc {w : Nat} : ∀ (k lo hi : Nat) (q : Rat), Enc w lo hi q → Enc w (sqs w k lo hi).1 (sqs w k lo hi).2 (q ^ 2 ^ k)
  | 0, lo, hi, q, h => by
    rw [Nat.pow_zero, Rat.pow_succ, Rat.pow_zero, Rat.one_mul]; exact h
  | k + 1, lo, hi, q, h => by
    have ih := sqs_enc k _ _ (q * q) (enc_mul h h)
    have e : q ^ 2 ^ (k + 1) = (q * q) ^ 2 ^ k := by
      rw [Nat.pow_succ, Nat.mul_two, Ex.pow_plus, Ex.mul_powR]
    rw [e]; exact ih
end Go.Proofs.YtemnjalaincijaaGreat

/- fix: One Next Shift Of Add Sub Mul Times Small Wider Floor; nat.Bits, in the evaluator. -/
namespace Go.Proofs.YtemnjalaincijaaGreat
set_option linter.unusedSimpArgs false
set_option linter.unusedVariables false
set_option maxRecDepth 8000
open Go.Ev
/-- Two naturals: a number that lies between them. -/
abbrev spanV (a b : Nat) : SV := .agg [natV (lim a), natV (lim b)]
theorem lim_len_shl {a n : Nat} : (lim (a * 2 ^ n)).length ≤ (lim a).length + n / 32 + 1 := by
  refine lim_len_lt ?_
  have h1 := lim_len_pow (a := a)
  have h2 : 2 ^ n ≤ 4294967296 ^ (n / 32 + 1) := by
    rw [show (4294967296 : Nat) = 2 ^ 32 from rfl, ← Nat.pow_mul]
    exact Nat.pow_le_pow_right (by omega) (by omega)
  calc a * 2 ^ n < 4294967296 ^ (lim a).length * 2 ^ n := Nat.mul_lt_mul_of_pos_right h1 (Nat.pow_pos (by omega))
    _ ≤ 4294967296 ^ (lim a).length * 4294967296 ^ (n / 32 + 1) := Nat.mul_le_mul_left _ h2
    _ = 4294967296 ^ ((lim a).length + n / 32 + 1) := by rw [← Nat.pow_add, Nat.add_assoc]
theorem fix_Over' {N D : Nat} (hD : D ≠ 0) (hl : (lim N).length ≤ 536870912) (hm : (lim D).length ≤ 536870912) : Go.Ev.Fn CX 180 [natV (lim N), natV (lim D)] (natV (lim (N / D))) := by
  have h := nat_DivL hD hl hm
  refine Go.Ev.Fn.intro (fn := Tryz.f180) (body := (Tryz.f180).body.get!) (by kernel_rfl) (by kernel_rfl) (by kernel_rfl) (fun _ => rfl) (Nat.le_of_ble_eq_true (by kernel_rfl)) ?_; unfold Tryz.f180; simp only [Option.get!_some]
  repeat (first | (simp only [go_sem, Nat.reduceEqDiff, Nat.reduceAdd, Nat.reduceSub, Nat.reduceMul, Nat.reduceLeDiff, Nat.reduceLT, reduceIte, reduceCtorEq, Nat.succ_ne_zero, elemsC, Int.reduceToNat, Nat.reducePow]) | (simp (disch := (first | omega | (simp only [AL, List.length_map]; omega))) only [AR, AL, ifT, ifF, take_all, List.length_cons, List.length_nil, Int.reduceToNat, Int.reducePow, Nat.reducePow]) | (refine wk_intro (by kernel_rfl) ?_) | (refine vf_of (by first | exact h) ?_))
theorem fix_One : Go.Ev.Fn CX 127 [] (natV (lim 1)) := by
  have o := nat_Of 1 (by omega)
  refine Go.Ev.Fn.intro (fn := Tryz.f127) (body := (Tryz.f127).body.get!) (by kernel_rfl) (by kernel_rfl) (by kernel_rfl) (fun _ => rfl) (Nat.le_of_ble_eq_true (by kernel_rfl)) ?_; unfold Tryz.f127; simp only [Option.get!_some]
  repeat (first | (simp only [go_sem, Nat.reduceEqDiff, Nat.reduceAdd, Nat.reduceSub, Nat.reduceMul, Nat.reduceLeDiff, Nat.reduceLT, reduceIte, reduceCtorEq, Nat.succ_ne_zero, elemsC, Int.reduceToNat, Nat.reducePow]) | (simp (disch := (first | omega | (simp only [AL, List.length_map]; omega))) only [AR, AL, ifT, ifF, take_all, List.length_cons, List.length_nil, Int.reduceToNat, Int.reducePow, Nat.reducePow]) | (refine wk_intro (by kernel_rfl) ?_) | (refine vf_of (by first | exact o) ?_))
theorem fix_Next {a : Nat} (h : (lim a).length ≤ 300000000) : Go.Ev.Fn CX 123 [natV (lim a)] (natV (lim (a + 1))) := by
  have o := fix_One
  have l := lim_len1
  have s := nat_AddL (N := a) (D := 1) (by omega) (by omega)
  refine Go.Ev.Fn.intro (fn := Tryz.f123) (body := (Tryz.f123).body.get!) (by kernel_rfl) (by kernel_rfl) (by kernel_rfl) (fun _ => rfl) (Nat.le_of_ble_eq_true (by kernel_rfl)) ?_; unfold Tryz.f123; simp only [Option.get!_some]
  repeat (first | (simp only [go_sem, Nat.reduceEqDiff, Nat.reduceAdd, Nat.reduceSub, Nat.reduceMul, Nat.reduceLeDiff, Nat.reduceLT, reduceIte, reduceCtorEq, Nat.succ_ne_zero, elemsC, Int.reduceToNat, Nat.reducePow]) | (simp (disch := (first | omega | (simp only [AL, List.length_map]; omega))) only [AR, AL, ifT, ifF, take_all, List.length_cons, List.length_nil, Int.reduceToNat, Int.reducePow, Nat.reducePow]) | (refine wk_intro (by kernel_rfl) ?_) | (refine vf_of (by first | exact o | exact s) ?_))
theorem fix_Add {a b c d : Nat} (h1 : (lim a).length ≤ 300000000) (h2 : (lim b).length ≤ 300000000) (h3 : (lim c).length ≤ 300000000) (h4 : (lim d).length ≤ 300000000) : Go.Ev.Fn CX 101 [spanV a b, spanV c d] (spanV (a + c) (b + d)) := by
  have s1 := nat_AddL (N := a) (D := c) (by omega) (by omega)
  have s2 := nat_AddL (N := b) (D := d) (by omega) (by omega)
  refine Go.Ev.Fn.intro (fn := Tryz.f101) (body := (Tryz.f101).body.get!) (by kernel_rfl) (by kernel_rfl) (by kernel_rfl) (fun _ => rfl) (Nat.le_of_ble_eq_true (by kernel_rfl)) ?_; unfold Tryz.f101; simp only [Option.get!_some]
  repeat (first | (simp only [go_sem, Nat.reduceEqDiff, Nat.reduceAdd, Nat.reduceSub, Nat.reduceMul, Nat.reduceLeDiff, Nat.reduceLT, reduceIte, reduceCtorEq, Nat.succ_ne_zero, elemsC, Int.reduceToNat, Nat.reducePow]) | (simp (disch := (first | omega | (simp only [AL, List.length_map]; omega))) only [AR, AL, ifT, ifF, take_all, List.length_cons, List.length_nil, Int.reduceToNat, Int.reducePow, Nat.reducePow]) | (refine wk_intro (by kernel_rfl) ?_) | (refine vp_draw (id := 1) (l := [6, 8, 11, 13]) (by kernel_rfl) ?_) | (refine vf_of (by first | exact s1 | exact s2) ?_))
theorem fix_Wider {a b n : Nat} (h1 : (lim a).length ≤ 300000000) (h2 : (lim b).length ≤ 300000000) (hn : n < 18446744073709551616) : Go.Ev.Fn CX 130 [spanV a b, .int .u64 (n : Int)] (spanV a (b + n)) := by
  have o := nat_Of n hn
  have l : (lim n).length ≤ 300000000 := Nat.le_trans (lim_len_lt (L := 2) (by omega)) (by omega)
  have s := nat_AddL (N := b) (D := n) (by omega) (by omega)
  refine Go.Ev.Fn.intro (fn := Tryz.f130) (body := (Tryz.f130).body.get!) (by kernel_rfl) (by kernel_rfl) (by kernel_rfl) (fun _ => rfl) (Nat.le_of_ble_eq_true (by kernel_rfl)) ?_; unfold Tryz.f130; simp only [Option.get!_some]
  repeat (first | (simp only [go_sem, Nat.reduceEqDiff, Nat.reduceAdd, Nat.reduceSub, Nat.reduceMul, Nat.reduceLeDiff, Nat.reduceLT, reduceIte, reduceCtorEq, Nat.succ_ne_zero, elemsC, Int.reduceToNat, Nat.reducePow]) | (simp (disch := (first | omega | (simp only [AL, List.length_map]; omega))) only [AR, AL, ifT, ifF, take_all, List.length_cons, List.length_nil, Int.reduceToNat, Int.reducePow, Nat.reducePow]) | (refine wk_intro (by kernel_rfl) ?_) | (refine vp_draw (id := 1) (l := [8, 10]) (by kernel_rfl) ?_) | (refine vf_of (by first | exact o | exact s) ?_))
theorem fix_Times {a b n d : Nat} (h1 : (lim a).length ≤ 100000000) (h2 : (lim b).length ≤ 100000000) (h3 : (lim n).length ≤ 100000000) (h4 : (lim d).length ≤ 100000000) (hd : d ≠ 0) : Go.Ev.Fn CX 125 [spanV a b, natV (lim n), natV (lim d)] (spanV (a * n / d) (b * n / d + 1)) := by
  have m1 := nat_MulL (N := a) (D := n) (by omega) (by omega)
  have m2 := nat_MulL (N := b) (D := n) (by omega) (by omega)
  have l1 := lim_len_mul (a := a) (b := n)
  have l2 := lim_len_mul (a := b) (b := n)
  have o1 := fix_Over' (N := a * n) (D := d) hd (by omega) (by omega)
  have o2 := fix_Over' (N := b * n) (D := d) hd (by omega) (by omega)
  have l3 := lim_len_mono (Nat.div_le_self (b * n) d)
  have n1 := fix_Next (a := b * n / d) (by omega)
  generalize a * n / d = x at *
  generalize b * n / d = y at *
  generalize a * n = u at *
  generalize b * n = v at *
  refine Go.Ev.Fn.intro (fn := Tryz.f125) (body := (Tryz.f125).body.get!) (by kernel_rfl) (by kernel_rfl) (by kernel_rfl) (fun _ => rfl) (Nat.le_of_ble_eq_true (by kernel_rfl)) ?_; unfold Tryz.f125; simp only [Option.get!_some]
  repeat (first | (simp only [go_sem, Nat.reduceEqDiff, Nat.reduceAdd, Nat.reduceSub, Nat.reduceMul, Nat.reduceLeDiff, Nat.reduceLT, reduceIte, reduceCtorEq, Nat.succ_ne_zero, elemsC, Int.reduceToNat, Nat.reducePow]) | (simp (disch := (first | omega | (simp only [AL, List.length_map]; omega))) only [AR, AL, ifT, ifF, take_all, List.length_cons, List.length_nil, Int.reduceToNat, Int.reducePow, Nat.reducePow]) | (refine wk_intro (by kernel_rfl) ?_) | (refine vp_draw (id := 1) (l := [8, 1, 10, 2, 14, 1, 16, 2, 18]) (by kernel_rfl) ?_) | (refine vf_of (by first | exact m1 | exact o1 | exact m2 | exact o2 | exact n1) ?_))
theorem fix_Less' {N D : Nat} (hl : (lim N).length ≤ 536870912) (hm : (lim D).length ≤ 536870912) : Go.Ev.Fn CX 209 [natV (lim N), natV (lim D)] (natV (lim (N - D))) := by
  have h := nat_SubL hl hm
  refine Go.Ev.Fn.intro (fn := Tryz.f209) (body := (Tryz.f209).body.get!) (by kernel_rfl) (by kernel_rfl) (by kernel_rfl) (fun _ => rfl) (Nat.le_of_ble_eq_true (by kernel_rfl)) ?_; unfold Tryz.f209; simp only [Option.get!_some]
  repeat (first | (simp only [go_sem, Nat.reduceEqDiff, Nat.reduceAdd, Nat.reduceSub, Nat.reduceMul, Nat.reduceLeDiff, Nat.reduceLT, reduceIte, reduceCtorEq, Nat.succ_ne_zero, elemsC, Int.reduceToNat, Nat.reducePow]) | (simp (disch := (first | omega | (simp only [AL, List.length_map]; omega))) only [AR, AL, ifT, ifF, take_all, List.length_cons, List.length_nil, Int.reduceToNat, Int.reducePow, Nat.reducePow]) | (refine wk_intro (by kernel_rfl) ?_) | (refine vf_of (by first | exact h) ?_))
theorem fix_Sub {a b c d : Nat} (h1 : (lim a).length ≤ 100000000) (h2 : (lim b).length ≤ 100000000) (h3 : (lim c).length ≤ 100000000) (h4 : (lim d).length ≤ 100000000) : Go.Ev.Fn CX 215 [spanV a b, spanV c d] (spanV (a - d) (b - c + 1)) := by
  have m1 := fix_Less' (N := a) (D := d) (by omega) (by omega)
  have m2 := fix_Less' (N := b) (D := c) (by omega) (by omega)
  have l := lim_len_mono (Nat.sub_le b c)
  have n1 := fix_Next (a := b - c) (by omega)
  generalize a - d = x at *
  generalize b - c = y at *
  refine Go.Ev.Fn.intro (fn := Tryz.f215) (body := (Tryz.f215).body.get!) (by kernel_rfl) (by kernel_rfl) (by kernel_rfl) (fun _ => rfl) (Nat.le_of_ble_eq_true (by kernel_rfl)) ?_; unfold Tryz.f215; simp only [Option.get!_some]
  repeat (first | (simp only [go_sem, Nat.reduceEqDiff, Nat.reduceAdd, Nat.reduceSub, Nat.reduceMul, Nat.reduceLeDiff, Nat.reduceLT, reduceIte, reduceCtorEq, Nat.succ_ne_zero, elemsC, Int.reduceToNat, Nat.reducePow]) | (simp (disch := (first | omega | (simp only [AL, List.length_map]; omega))) only [AR, AL, ifT, ifF, take_all, List.length_cons, List.length_nil, Int.reduceToNat, Int.reducePow, Nat.reducePow]) | (refine wk_intro (by kernel_rfl) ?_) | (refine vp_draw (id := 1) (l := [6, 8, 11, 13, 14]) (by kernel_rfl) ?_) | (refine vf_of (by first | exact m1 | exact m2 | exact n1) ?_))
end Go.Proofs.YtemnjalaincijaaGreat

/- fix.Shift, in the evaluator. -/
namespace Go.Proofs.YtemnjalaincijaaGreat
set_option linter.unusedSimpArgs false
set_option linter.unusedVariables false
set_option maxRecDepth 8000
open Go.Ev
theorem nat_shl {N m : Nat} (h : (lim N).length ≤ 1073741824) (hm : m ≤ 4096) : Go.Ev.Fn CX 179 [natV (lim N), .int .i64 (m : Int)] (natV (lim (N * 2 ^ m))) := by
  have := shift_up (lim N) m (okL_lim _) h _ rfl hm
  rwa [wth_lim] at this
theorem nat_shr {N m : Nat} (h : (lim N).length ≤ 1073741824) (hm : m ≤ 4096) (h0 : 0 < m) : Go.Ev.Fn CX 179 [natV (lim N), .int .i64 (-(m : Int))] (natV (lim (N / 2 ^ m))) := by
  have := shift_down (lim N) m (okL_lim _) h _ rfl hm h0
  rwa [wth_lim] at this
theorem fix_shl {a m : Nat} (ha : (lim a).length ≤ 100000000) (hm : m ≤ 1000000000) : Go.Ev.Fn CX 121 [natV (lim a), .int .i64 (m : Int)] (natV (lim (a * 2 ^ m))) := by
  have hl := fun j => lim_len_shl (a := a) (n := j)
  refine Go.Ev.Fn.intro (fn := Tryz.f121) (body := (Tryz.f121).body.get!) (by kernel_rfl) (by kernel_rfl) (by kernel_rfl) (fun _ => rfl) (Nat.le_of_ble_eq_true (by kernel_rfl)) ?_; unfold Tryz.f121; simp only [Option.get!_some]
  repeat (first | (simp only [go_sem, Nat.reduceEqDiff, Nat.reduceAdd, Nat.reduceSub, Nat.reduceMul, Nat.reduceLeDiff, Nat.reduceLT, reduceIte, reduceCtorEq, Nat.succ_ne_zero, elemsC, Int.reduceToNat, Nat.reducePow]) | (simp (disch := (first | omega | (simp only [AL, List.length_map]; omega))) only [AR, AL, ifT, ifF, take_all, List.length_cons, List.length_nil, Int.reduceToNat, Int.reducePow, Nat.reducePow]) | (refine wk_intro (by kernel_rfl) ?_))
  refine vp_loop_inv (fun s => ∃ j : Nat, j ≤ m ∧ s.tmp 0 = .sv (natV (lim (a * 2 ^ j))) ∧ s.tmp 1 = .sv (.int .i64 ((m - j : Nat) : Int)))
    (fun s => match s.tmp 1 with | .sv (.int _ i) => i.toNat | _ => 0) ⟨0, by omega, by rw [Nat.pow_zero, Nat.mul_one]; rfl, rfl⟩ ?_
  rintro s ⟨j, hj, i0, i1⟩
  have hlj := hl j
  by_cases hc : 1024 < m - j
  · obtain ⟨K, hK⟩ : ∃ K : Nat, K = 1024 := ⟨_, rfl⟩
    have st := nat_shl (N := a * 2 ^ j) (m := K) (by omega) (by omega)
    rw [Nat.mul_assoc, ← Nat.pow_add] at st
    generalize hx : a * 2 ^ j = x at *
    generalize hy : a * 2 ^ (j + K) = y at *
    rw [show (K : Int) = 1024 by omega] at st
    repeat (first | (simp only [go_sem, Nat.reduceEqDiff, Nat.reduceAdd, Nat.reduceSub, Nat.reduceMul, Nat.reduceLeDiff, Nat.reduceLT, reduceIte, reduceCtorEq, Nat.succ_ne_zero, elemsC, Int.reduceToNat, Nat.reducePow, i0, i1]) | (simp (disch := (first | omega | (simp only [AL, List.length_map]; omega))) only [AR, AL, ifT, ifF, take_all, List.length_cons, List.length_nil, Int.reduceToNat, Int.reducePow, Nat.reducePow, i0, i1]) | (refine wk_intro (by kernel_rfl) ?_) | (refine vf_of (by first | exact st) ?_))
    exact ⟨⟨j + K, by omega, by rw [hy], by rw [show ((m - (j + K) : Nat) : Int) = ((m - j : Nat) : Int) - 1024 by omega]⟩, by omega⟩
  · have st := nat_shl (N := a * 2 ^ j) (m := m - j) (by omega) (by omega)
    rw [Nat.mul_assoc, ← Nat.pow_add, show j + (m - j) = m by omega] at st
    generalize a * 2 ^ j = x at *
    generalize a * 2 ^ m = y at *
    repeat (first | (simp only [go_sem, Nat.reduceEqDiff, Nat.reduceAdd, Nat.reduceSub, Nat.reduceMul, Nat.reduceLeDiff, Nat.reduceLT, reduceIte, reduceCtorEq, Nat.succ_ne_zero, elemsC, Int.reduceToNat, Nat.reducePow, i0, i1]) | (simp (disch := (first | omega | (simp only [AL, List.length_map]; omega))) only [AR, AL, ifT, ifF, take_all, List.length_cons, List.length_nil, Int.reduceToNat, Int.reducePow, Nat.reducePow, i0, i1]) | (refine wk_intro (by kernel_rfl) ?_))
    refine vp_loop_inv (fun s => s.tmp 0 = .sv (natV (lim x)) ∧ s.tmp 1 = .sv (.int .i64 ((m - j : Nat) : Int))) (fun _ => 0) ⟨i0, i1⟩ ?_
    rintro s' ⟨j0, j1⟩
    repeat (first | (simp only [go_sem, Nat.reduceEqDiff, Nat.reduceAdd, Nat.reduceSub, Nat.reduceMul, Nat.reduceLeDiff, Nat.reduceLT, reduceIte, reduceCtorEq, Nat.succ_ne_zero, elemsC, Int.reduceToNat, Nat.reducePow, j0, j1]) | (simp (disch := (first | omega | (simp only [AL, List.length_map]; omega))) only [AR, AL, ifT, ifF, take_all, List.length_cons, List.length_nil, Int.reduceToNat, Int.reducePow, Nat.reducePow, j0, j1]) | (refine wk_intro (by kernel_rfl) ?_) | (refine vf_of (by first | exact st) ?_))
theorem fix_shr {a m : Nat} (ha : (lim a).length ≤ 300000000) (hm : m ≤ 1000000000) (h0 : 0 < m) : Go.Ev.Fn CX 121 [natV (lim a), .int .i64 (-(m : Int))] (natV (lim (a / 2 ^ m))) := by
  have hl := fun j => lim_len_mono (Nat.div_le_self a (2 ^ j))
  refine Go.Ev.Fn.intro (fn := Tryz.f121) (body := (Tryz.f121).body.get!) (by kernel_rfl) (by kernel_rfl) (by kernel_rfl) (fun _ => rfl) (Nat.le_of_ble_eq_true (by kernel_rfl)) ?_; unfold Tryz.f121; simp only [Option.get!_some]
  repeat (first | (simp only [go_sem, Nat.reduceEqDiff, Nat.reduceAdd, Nat.reduceSub, Nat.reduceMul, Nat.reduceLeDiff, Nat.reduceLT, reduceIte, reduceCtorEq, Nat.succ_ne_zero, elemsC, Int.reduceToNat, Nat.reducePow]) | (simp (disch := (first | omega | (simp only [AL, List.length_map]; omega))) only [AR, AL, ifT, ifF, take_all, List.length_cons, List.length_nil, Int.reduceToNat, Int.reducePow, Nat.reducePow]) | (refine wk_intro (by kernel_rfl) ?_))
  refine vp_loop_inv (fun s => s.tmp 0 = .sv (natV (lim a)) ∧ s.tmp 1 = .sv (.int .i64 (-(m : Int)))) (fun _ => 0) ⟨rfl, rfl⟩ ?_
  rintro s ⟨i0, i1⟩
  repeat (first | (simp only [go_sem, Nat.reduceEqDiff, Nat.reduceAdd, Nat.reduceSub, Nat.reduceMul, Nat.reduceLeDiff, Nat.reduceLT, reduceIte, reduceCtorEq, Nat.succ_ne_zero, elemsC, Int.reduceToNat, Nat.reducePow, i0, i1]) | (simp (disch := (first | omega | (simp only [AL, List.length_map]; omega))) only [AR, AL, ifT, ifF, take_all, List.length_cons, List.length_nil, Int.reduceToNat, Int.reducePow, Nat.reducePow, i0, i1]) | (refine wk_intro (by kernel_rfl) ?_))
  refine vp_loop_inv (fun s => ∃ j : Nat, j < m ∧ s.tmp 0 = .sv (natV (lim (a / 2 ^ j))) ∧ s.tmp 1 = .sv (.int .i64 (-((m - j : Nat) : Int))))
    (fun s => match s.tmp 1 with | .sv (.int _ i) => (-i).toNat | _ => 0) ⟨0, by omega, by rw [Nat.pow_zero, Nat.div_one]; exact i0, i1⟩ ?_
  rintro s2 ⟨j, hj, j0, j1⟩
  have hlj := hl j
  by_cases hc : 1024 < m - j
  · obtain ⟨K, hK⟩ : ∃ K : Nat, K = 1024 := ⟨_, rfl⟩
    have st := nat_shr (N := a / 2 ^ j) (m := K) (by omega) (by omega) (by omega)
    rw [Nat.div_div_eq_div_mul, ← Nat.pow_add] at st
    generalize hx : a / 2 ^ j = x at *
    generalize hy : a / 2 ^ (j + K) = y at *
    rw [show -(K : Int) = -1024 by omega] at st
    repeat (first | (simp only [go_sem, Nat.reduceEqDiff, Nat.reduceAdd, Nat.reduceSub, Nat.reduceMul, Nat.reduceLeDiff, Nat.reduceLT, reduceIte, reduceCtorEq, Nat.succ_ne_zero, elemsC, Int.reduceToNat, Nat.reducePow, j0, j1]) | (simp (disch := (first | omega | (simp only [AL, List.length_map]; omega))) only [AR, AL, ifT, ifF, take_all, List.length_cons, List.length_nil, Int.reduceToNat, Int.reducePow, Nat.reducePow, j0, j1]) | (refine wk_intro (by kernel_rfl) ?_) | (refine vf_of (by first | exact st) ?_))
    exact ⟨⟨j + K, by omega, by rw [hy], by rw [show -((m - (j + K) : Nat) : Int) = -((m - j : Nat) : Int) + 1024 by omega]⟩, by omega⟩
  · have st := nat_shr (N := a / 2 ^ j) (m := m - j) (by omega) (by omega) (by omega)
    rw [Nat.div_div_eq_div_mul, ← Nat.pow_add, show j + (m - j) = m by omega] at st
    generalize a / 2 ^ j = x at *
    generalize a / 2 ^ m = y at *
    repeat (first | (simp only [go_sem, Nat.reduceEqDiff, Nat.reduceAdd, Nat.reduceSub, Nat.reduceMul, Nat.reduceLeDiff, Nat.reduceLT, reduceIte, reduceCtorEq, Nat.succ_ne_zero, elemsC, Int.reduceToNat, Nat.reducePow, j0, j1]) | (simp (disch := (first | omega | (simp only [AL, List.length_map]; omega))) only [AR, AL, ifT, ifF, take_all, List.length_cons, List.length_nil, Int.reduceToNat, Int.reducePow, Nat.reducePow, j0, j1]) | (refine wk_intro (by kernel_rfl) ?_) | (refine vf_of (by first | exact st) ?_))
end Go.Proofs.YtemnjalaincijaaGreat

/- fix: Mul, Unit, Of, in the evaluator. -/
namespace Go.Proofs.YtemnjalaincijaaGreat
set_option linter.unusedSimpArgs false
set_option linter.unusedVariables false
set_option maxRecDepth 8000
open Go.Ev
theorem fix_Mul {a b c d w : Nat} (h1 : (lim a).length ≤ 100000000) (h2 : (lim b).length ≤ 100000000) (h3 : (lim c).length ≤ 100000000) (h4 : (lim d).length ≤ 100000000) (hw : w ≤ 1000000000) (h0 : 0 < w) : Go.Ev.Fn CX 60 [spanV a b, spanV c d, .int .i64 (w : Int)] (spanV (a * c / 2 ^ w) (b * d / 2 ^ w + 1)) := by
  have m1 := nat_MulL (N := a) (D := c) (by omega) (by omega)
  have m2 := nat_MulL (N := b) (D := d) (by omega) (by omega)
  have l1 := lim_len_mul (a := a) (b := c)
  have l2 := lim_len_mul (a := b) (b := d)
  have s1 := fix_shr (a := a * c) (m := w) (by omega) hw h0
  have s2 := fix_shr (a := b * d) (m := w) (by omega) hw h0
  have l3 := lim_len_mono (Nat.div_le_self (b * d) (2 ^ w))
  have n1 := fix_Next (a := b * d / 2 ^ w) (by omega)
  generalize a * c / 2 ^ w = x at *
  generalize b * d / 2 ^ w = y at *
  generalize a * c = u at *
  generalize b * d = v at *
  have e0 : (0 : Int) - (w : Int) = -(w : Int) := by omega
  refine Go.Ev.Fn.intro (fn := Tryz.f60) (body := (Tryz.f60).body.get!) (by kernel_rfl) (by kernel_rfl) (by kernel_rfl) (fun _ => rfl) (Nat.le_of_ble_eq_true (by kernel_rfl)) ?_; unfold Tryz.f60; simp only [Option.get!_some]
  repeat (first | (simp only [go_sem, Nat.reduceEqDiff, Nat.reduceAdd, Nat.reduceSub, Nat.reduceMul, Nat.reduceLeDiff, Nat.reduceLT, reduceIte, reduceCtorEq, Nat.succ_ne_zero, elemsC, Int.reduceToNat, Nat.reducePow, e0]) | (simp (disch := (first | omega | (simp only [AL, List.length_map]; omega))) only [AR, AL, ifT, ifF, take_all, List.length_cons, List.length_nil, Int.reduceToNat, Int.reducePow, Nat.reducePow, e0]) | (refine wk_intro (by kernel_rfl) ?_) | (refine vp_draw (id := 1) (l := [8, 10, 11, 16, 18, 19, 22]) (by kernel_rfl) ?_) | (refine vf_of (by first | exact m1 | exact s1 | exact m2 | exact s2 | exact n1) ?_))
end Go.Proofs.YtemnjalaincijaaGreat

/- nat.Bits; fix: Of, Small, Floor, Certain (one round); arcs.held, in the evaluator. -/
namespace Go.Proofs.YtemnjalaincijaaGreat
set_option linter.unusedSimpArgs false
set_option linter.unusedVariables false
set_option maxRecDepth 8000
open Go.Ev
theorem fix_Of {n d w : Nat} (h1 : (lim n).length ≤ 100000000) (h2 : (lim d).length ≤ 100000000) (hd : d ≠ 0) (hw : w ≤ 1000000000) : Go.Ev.Fn CX 177 [natV (lim n), natV (lim d), .int .i64 (w : Int)] (spanV (n * 2 ^ w / d) (n * 2 ^ w / d + 1)) := by
  have s1 := fix_shl (a := n) (m := w) (by omega) hw
  have l1 := lim_len_shl (a := n) (n := w)
  have o1 := fix_Over' (N := n * 2 ^ w) (D := d) hd (by omega) (by omega)
  have l3 := lim_len_mono (Nat.div_le_self (n * 2 ^ w) d)
  have n1 := fix_Next (a := n * 2 ^ w / d) (by omega)
  generalize n * 2 ^ w / d = x at *
  generalize n * 2 ^ w = y at *
  refine Go.Ev.Fn.intro (fn := Tryz.f177) (body := (Tryz.f177).body.get!) (by kernel_rfl) (by kernel_rfl) (by kernel_rfl) (fun _ => rfl) (Nat.le_of_ble_eq_true (by kernel_rfl)) ?_; unfold Tryz.f177; simp only [Option.get!_some]
  repeat (first | (simp only [go_sem, Nat.reduceEqDiff, Nat.reduceAdd, Nat.reduceSub, Nat.reduceMul, Nat.reduceLeDiff, Nat.reduceLT, reduceIte, reduceCtorEq, Nat.succ_ne_zero, elemsC, Int.reduceToNat, Nat.reducePow]) | (simp (disch := (first | omega | (simp only [AL, List.length_map]; omega))) only [AR, AL, ifT, ifF, take_all, List.length_cons, List.length_nil, Int.reduceToNat, Int.reducePow, Nat.reducePow]) | (refine wk_intro (by kernel_rfl) ?_) | (refine vf_of (by first | exact s1 | exact o1 | exact n1) ?_))
theorem fix_Floor {a b w p : Nat} (h1 : (lim a).length ≤ 100000000) (h2 : (lim b).length ≤ 100000000) (hp : p < w) (hw : w ≤ 1000000000) : Go.Ev.Fn CX 176 [spanV a b, .int .i64 (w : Int), .int .i64 (p : Int)] (.tup [natV (lim (a / 2 ^ (w - p))), .bool (decide (a / 2 ^ (w - p) = (b - 1) / 2 ^ (w - p)))]) := by
  have e0 : (p : Int) - (w : Int) = -((w - p : Nat) : Int) := by omega
  have l1 := lim_len1
  have s1 := fix_shr (a := a) (m := w - p) (by omega) (by omega) (by omega)
  have o := fix_One
  have m1 := fix_Less' (N := b) (D := 1) (by omega) (by omega)
  have l2 := lim_len_mono (Nat.sub_le b 1)
  have s2 := fix_shr (a := b - 1) (m := w - p) (by omega) (by omega) (by omega)
  have l3 := lim_len_mono (Nat.div_le_self a (2 ^ (w - p)))
  have l4 := lim_len_mono (Nat.div_le_self (b - 1) (2 ^ (w - p)))
  have c := nat_CmpL (N := a / 2 ^ (w - p)) (D := (b - 1) / 2 ^ (w - p)) (by omega) (by omega)
  generalize a / 2 ^ (w - p) = x at *
  generalize (b - 1) / 2 ^ (w - p) = y at *
  generalize b - 1 = b' at *
  have e1 : (cmpN x y == 0) = decide (x = y) := by
    rw [show (cmpN x y == 0) = decide (cmpN x y = 0) from by by_cases h : cmpN x y = 0 <;> simp [h]]
    exact decide_eq_decide.2 (by unfold cmpN; split <;> (try split) <;> omega)
  generalize cmpN x y = z at *
  generalize decide (x = y) = q at *
  generalize hk : w - p = k at *
  refine Go.Ev.Fn.intro (fn := Tryz.f176) (body := (Tryz.f176).body.get!) (by kernel_rfl) (by kernel_rfl) (by kernel_rfl) (fun _ => rfl) (Nat.le_of_ble_eq_true (by kernel_rfl)) ?_; unfold Tryz.f176; simp only [Option.get!_some]
  repeat (first | (simp only [go_sem, Nat.reduceEqDiff, Nat.reduceAdd, Nat.reduceSub, Nat.reduceMul, Nat.reduceLeDiff, Nat.reduceLT, reduceIte, reduceCtorEq, Nat.succ_ne_zero, elemsC, Int.reduceToNat, Nat.reducePow, e0, e1]) | (simp (disch := (first | omega | (simp only [AL, List.length_map]; omega))) only [AR, AL, ifT, ifF, take_all, List.length_cons, List.length_nil, Int.reduceToNat, Int.reducePow, Nat.reducePow, e0, e1]) | (refine wk_intro (by kernel_rfl) ?_) | (refine vp_draw (id := 2) (l := [18, 19, 20, 8, 24]) (by kernel_rfl) ?_) | (refine vf_of (by first | exact s1 | exact o | exact m1 | exact s2 | exact c) ?_))
end Go.Proofs.YtemnjalaincijaaGreat

/- Sums, means, variances of rows of numbers: plain mathematics; what a row of Rats reads as. No program. -/
namespace Go.Proofs.YtemnjalaincijaaGreat
open Go.Ev
theorem getD_mem {l : List Rat} {i : Nat} (h : i < l.length) : l.getD i 0 ∈ l := by
  rw [List.getD_eq_getElem?_getD, List.getElem?_eq_getElem h]; exact List.getElem_mem h
/-- A normal number's cells. -/
def rvC (q : Rat) : List SV := [.bool (decide (q.num < 0)), natV (lim q.num.natAbs), natV (lim q.den)]
/-- A row of normal numbers, cell by cell. -/
def rvsC (l : List Rat) : List SV := l.flatMap rvC
theorem rvsC_len (l : List Rat) : (rvsC l).length = l.length * 3 := by
  induction l with
  | nil => rfl
  | cons x l ih => show (rvC x ++ rvsC l).length = _; rw [List.length_append, ih, List.length_cons]; show 3 + _ = _; omega
theorem rvsC_at {l : List Rat} {i : Nat} (h : i < l.length) : ∃ rest, (rvsC l).drop (i * 3) = .bool (decide ((l.getD i 0).num < 0)) :: natV (lim (l.getD i 0).num.natAbs) :: natV (lim (l.getD i 0).den) :: rest := by
  induction l generalizing i with
  | nil => simp at h
  | cons x l ih =>
    cases i with
    | zero => exact ⟨_, rfl⟩
    | succ i =>
      obtain ⟨r, this⟩ := ih (i := i) (by simpa using h)
      have e : ∀ k, (rvC x ++ rvsC l).drop (k + 3) = (rvsC l).drop k := fun _ => rfl
      refine ⟨r, ?_⟩
      show (rvC x ++ rvsC l).drop _ = _
      rw [show (i + 1) * 3 = i * 3 + 3 by omega, e, this]
      rfl
end Go.Proofs.YtemnjalaincijaaGreat

/- stat: by, Sum, Mean, off, products, Variance, Central of 2, in the evaluator. -/
namespace Go.Proofs.YtemnjalaincijaaGreat
set_option linter.unusedSimpArgs false
set_option linter.unusedVariables false
set_option maxRecDepth 8000
open Go.Ev
end Go.Proofs.YtemnjalaincijaaGreat

/- A statistic's laws: plain mathematics, no program. -/
namespace Go.Proofs.YtemnjalaincijaaGreat
open Go.Ev
end Go.Proofs.YtemnjalaincijaaGreat
