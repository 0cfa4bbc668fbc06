/- Part 8 of the proof: the evaluator, contracts of functions and their plain laws (joined by program). No condition. -/
import Derived.Test.YtlojijllmadnoaaGreatDoorPart7
set_option linter.unusedVariables false
set_option linter.unusedSimpArgs false
set_option maxRecDepth 100000
namespace Go.Proofs.YtlojijllmadnoaaGreatDoor
open Go.Ev
theorem wth_at (xs : List Nat) {w : Nat} (h : w < xs.length) : wth xs = wth (xs.take w) + 4294967296 ^ w * (xs.getD w 0 + 4294967296 * wth (xs.drop (w + 1))) := by
 conv => lhs; rw [<- List.take_append_drop w xs, wth_append]
 rw [List.length_take, Nat.min_eq_left (by omega), wth_drop h]
theorem wth_set_add (q : List Nat) {w : Nat} (h : w < q.length) (e : Nat) : wth (q.set w (q.getD w 0 + e)) = wth q + 4294967296 ^ w * e := by
 have h1 := wth_at (q.set w (q.getD w 0 + e)) (w := w) (by rw [List.length_set]; exact h)
 rw [getD_set_self h, List.drop_set_of_lt (by omega), List.take_set_of_le (Nat.le_refl _)] at h1
 rw [h1, wth_at q h]
 generalize 4294967296 * wth (q.drop (w + 1)) = D
 rw [Nat.mul_add, Nat.mul_add, Nat.mul_add]
 omega
theorem pow_32 (J : Nat) : 2 ^ J = 4294967296 ^ (J / 32) * 2 ^ (J % 32) := by
 rw [show (4294967296 : Nat) = 2 ^ 32 by rfl, <- Nat.pow_mul, <- Nat.pow_add, Nat.div_add_mod]
theorem wth_shr (xs : List Nat) (hx : okL xs) {w : Nat} (h : w < xs.length) : wth xs / 4294967296 ^ w = xs.getD w 0 + 4294967296 * wth (xs.drop (w + 1)) := by
 rw [wth_at xs h, Nat.add_comm, Nat.mul_add_div (Nat.pow_pos (by omega)), Nat.div_eq_of_lt (wth_low hx w), Nat.add_zero]
theorem bit_get (xs : List Nat) (hx : okL xs) (J : Nat) (h : J / 32 < xs.length) : xs.getD (J / 32) 0 / 2 ^ (J % 32) % 2 = wth xs / 2 ^ J % 2 := by
 rw [pow_32 J, <- Nat.div_div_eq_div_mul, wth_shr xs hx h]
 have hk : J % 32 < 32 := Nat.mod_lt _ (by omega)
 generalize wth (xs.drop (J / 32 + 1)) = Z
 generalize xs.getD (J / 32) 0 = x
 generalize J % 32 = j at *
 have e : x + 4294967296 * Z = x + 2 ^ j * (2 * (2 ^ (31 - j) * Z)) := by
  rw [<- Nat.mul_assoc 2, <- Nat.pow_succ', <- Nat.mul_assoc, show (31 - j).succ = 32 - j by omega, pow_split hk]
 rw [e, Nat.add_mul_div_left _ _ (Nat.pow_pos (by omega)), Nat.add_mul_mod_self_left]
theorem bit_set (q : List Nat) (hq : okL q) (J Q : Nat) (h : J / 32 < q.length) (hv : wth q = Q * 2 ^ (J + 1)) :
  q.getD (J / 32) 0 ||| 2 ^ (J % 32) = q.getD (J / 32) 0 + 2 ^ (J % 32) /\ q.getD (J / 32) 0 + 2 ^ (J % 32) < 4294967296 /\ wth (q.set (J / 32) (q.getD (J / 32) 0 + 2 ^ (J % 32))) = (2 * Q + 1) * 2 ^ J := by
 have hk : J % 32 < 32 := Nat.mod_lt _ (by omega)
 have h1 : q.getD (J / 32) 0 = (Q * 2 ^ (J % 32 + 1)) % 4294967296 := by
  have h2 := wth_shr q hq h
  rw [hv, Nat.pow_succ, pow_32 J, Nat.mul_assoc, Nat.mul_left_comm, Nat.mul_div_cancel_left _ (Nat.pow_pos (by omega)), <- Nat.pow_succ] at h2
  rw [h2, Nat.add_mul_mod_self_left, Nat.mod_eq_of_lt (getD_lt hq _)]
 have h3 : q.getD (J / 32) 0 = 2 ^ (J % 32 + 1) * (Q % 2 ^ (31 - J % 32)) := by
  rw [h1, show (4294967296 : Nat) = 2 ^ (J % 32 + 1) * 2 ^ (31 - J % 32) by rw [<- Nat.pow_add, show J % 32 + 1 + (31 - J % 32) = 32 by omega], Nat.mul_comm Q, Nat.mul_mod_mul_left]
 refine ⟨?_, ?_, ?_⟩
 ·rw [h3]
  exact (Nat.two_pow_add_eq_or_of_lt (Nat.pow_lt_pow_right (by omega) (by omega)) _).symm
 ·have h4 : Q % 2 ^ (31 - J % 32) + 1 <= 2 ^ (31 - J % 32) := Nat.mod_lt _ (Nat.pow_pos (by omega))
  have h5 : 2 ^ (J % 32 + 1) * (Q % 2 ^ (31 - J % 32) + 1) <= 2 ^ (J % 32 + 1) * 2 ^ (31 - J % 32) := Nat.mul_le_mul_left _ h4
  rw [<- Nat.pow_add, show J % 32 + 1 + (31 - J % 32) = 32 by omega, Nat.mul_add, Nat.mul_one, <- h3] at h5
  have h6 : 0 < 2 ^ (J % 32) := Nat.pow_pos (by omega)
  have h7 : 2 ^ (J % 32 + 1) = 2 ^ (J % 32) + 2 ^ (J % 32) := by rw [Nat.pow_succ]; omega
  have h8 : (2 : Nat) ^ 32 = 4294967296 := rfl
  omega
 ·rw [wth_set_add q h, hv, <- pow_32 J, Nat.pow_succ, Nat.add_mul, Nat.one_mul, Nat.mul_comm (2 ^ J) 2, <- Nat.mul_assoc, Nat.mul_comm Q 2]
theorem bit_step {X y J r b : Nat} (hy : 0 < y) (hr : r = X / 2 ^ (J + 1) % y) (hb : b = X / 2 ^ J % 2) :
  X / 2 ^ J % y = (if y <= r * 2 + b then r * 2 + b - y else r * 2 + b) /\ X / 2 ^ J / y = 2 * (X / 2 ^ (J + 1) / y) + (if y <= r * 2 + b then 1 else 0) := by
 have e1 : X / 2 ^ J = 2 * (X / 2 ^ (J + 1)) + b := by
  rw [Nat.pow_succ, <- Nat.div_div_eq_div_mul, hb, Nat.add_comm, Nat.mod_add_div]
 have e2 := Nat.div_add_mod (X / 2 ^ (J + 1)) y
 rw [<- hr] at e2
 generalize X / 2 ^ (J + 1) / y = Q at *
 have hr' : r < y := by rw [hr]; exact Nat.mod_lt _ hy
 have hb' : b < 2 := by rw [hb]; exact Nat.mod_lt _ (by omega)
 clear hr hb
 have e3 : X / 2 ^ J = y * (2 * Q) + (r * 2 + b) := by
  rw [e1, <- e2, Nat.mul_add, Nat.mul_left_comm]
  omega
 generalize X / 2 ^ J = A at *
 subst e3
 split
 ·rename_i h
  have e4 : y * (2 * Q) + (r * 2 + b) = y * (2 * Q + 1) + (r * 2 + b - y) := by rw [Nat.mul_add, Nat.mul_one]; omega
  rw [e4, Nat.mul_add_mod, Nat.mul_add_div hy, Nat.mod_eq_of_lt (by omega), Nat.div_eq_of_lt (by omega), Nat.add_zero]
  exact ⟨rfl, rfl⟩
 ·rename_i h
  rw [Nat.mul_add_mod, Nat.mul_add_div hy, Nat.mod_eq_of_lt (by omega), Nat.div_eq_of_lt (by omega)]
  exact ⟨rfl, rfl⟩
theorem and_one (x : Nat) : x &&& 1 = x % 2 := Nat.and_two_pow_sub_one_eq_mod x 1
set_option maxHeartbeats 4000000 in
theorem ref1_DivMod (xs ys : List Nat) (hx : okL xs) (hy : okL ys) (hl : xs.length <= 16777216) (hm : ys.length <= 16777216) :
  Go.Ev.Fn CX 62 [natV xs, natV ys] (.tup [natV (lim (wth xs / wth ys)), natV (lim (remN (wth xs) (wth ys))), .bool (decide (wth ys ≠ 0))]) := by
 refine fni Tryz.f62 ?_; unfold Tryz.f62; simp only [Option.get!_some]
 have hTo := ref1_To xs hx (by omega)
 have hTo2 := ref1_To ys hy (by omega)
 have hsm := ref1_small xs (wth ys) hx (by omega)
 generalize hX : wth xs = X at *
 generalize hY : wth ys = Y at *
 repeat (first|simp only [go_sem]|simp (disch := first|exact oa|fail) only [AX]|refine wki ?_|refine wqn ?_|refine vpx [] ?_)
 refine vf_of (ref1_Trim ys hy (by omega)) ?_; repeat (first|simp only [go_sem]|simp (disch := first|exact oa|fail) only [AX]|refine wki ?_|refine wqn ?_|refine vpx [] ?_)
 rw [hY]
 rcases Nat.eq_zero_or_pos Y with h0 | h0
 ·subst h0
  rw [lim_zero, Nat.div_zero, lim_zero, show remN X 0 = 0 by rfl, lim_zero]
  repeat (first|simp only [go_sem]|simp (disch := first|exact oa|fail) only [AX]|refine wki ?_|refine wqn ?_|refine vpx [] ?_)
  rfl
 have e0 : remN X Y = X % Y := if_neg (by omega)
 have e1 : decide (Y ≠ 0) = true := decide_eq_true (by omega)
 have hn0 : 0 < (lim Y).length := List.length_pos_iff.2 (fun h => by have := lim_eq_nil.1 h; omega)
 rw [e0, e1]
 repeat (first|simp only [go_sem]|simp (disch := first|exact oa|fail) only [AX]|refine wki ?_|refine wqn ?_|refine vpx [] ?_|refine vf_of (by first|exact hTo|exact hTo2) ?_)
 by_cases hX2 : X < 18446744073709551616 /\ Y < 18446744073709551616
 ·obtain ⟨hX3, hY3⟩ := hX2
  have hq : X / Y < 18446744073709551616 := Nat.lt_of_le_of_lt (Nat.div_le_self _ _) hX3
  have hr : X % Y < 18446744073709551616 := Nat.lt_trans (Nat.mod_lt _ h0) hY3
  have hY4 : Y ≠ 0 := by omega
  rw [if_pos hX3, if_pos hY3, decide_eq_true hX3, decide_eq_true hY3]
  have oQ := ref1_Of (X / Y) hq
  have oR := ref1_Of (X % Y) hr
  have hqm : X / Y % 18446744073709551616 = X / Y := Nat.mod_eq_of_lt hq
  repeat (first|simp only [go_sem, hqm]|simp (disch := first|exact oa|fail) only [AX, hqm]|refine wki ?_|refine wqn ?_|refine vpx [] ?_|refine vf_of (by first|exact oQ|exact oR) ?_)
 ·have hdec : (decide (X < 18446744073709551616) && decide (Y < 18446744073709551616)) = false := by
   rw [<- Bool.decide_and]; exact decide_eq_false hX2
  by_cases hY1 : Y < 4294967296
  ·have hY3 : Y < 18446744073709551616 := by omega
   have hX3 : ¬ X < 18446744073709551616 := fun h => hX2 ⟨h, hY3⟩
   have hr : X % Y < 18446744073709551616 := Nat.lt_trans (Nat.mod_lt _ h0) hY3
   have hsm := hsm h0 hY1
   have oR := ref1_Of (X % Y) hr
   rw [if_pos hY3, if_neg hX3, decide_eq_true hY3, decide_eq_false hX3]
   repeat (first|simp only [go_sem]|simp (disch := first|exact oa|fail) only [AX]|refine wki ?_|refine wqn ?_|refine vpx [] ?_|refine vf_of (by first|exact hsm|exact oR) ?_)
  ·clear hsm hTo hTo2
   have hcases : (¬ X < 18446744073709551616 /\ Y < 18446744073709551616) \/ (X < 18446744073709551616 /\ ¬ Y < 18446744073709551616) \/ (¬ X < 18446744073709551616 /\ ¬ Y < 18446744073709551616) := by omega
   rcases hcases with ⟨hX3, hY3⟩ | ⟨hX3, hY3⟩ | ⟨hX3, hY3⟩
   all_goals
    simp only [hX3, hY3, if_true, if_false, decide_true, decide_false]
    repeat (first|simp only [go_sem]|simp (disch := first|exact oa|fail) only [AX]|refine wki ?_|refine wqn ?_)
    refine vp_loop_inv (fun s => s.tmp 0 = .sv (natV xs) /\ s.tmp 1 = .sv (natV ys) /\ s.tmp 13 = .ref 58 0 1 0 xs.length /\ ∃ q : List Nat, ∃ I R : Nat, s.obj 58 0 = some (q.map limb) /\ s.tmp 15 = .sv (.int .i64 ((I : Int) - 1)) /\ ((s.tmp 14 = .nil /\ R = 0) \/ s.tmp 14 = .sv (natV (lim R))) /\
      q.length = xs.length /\ okL q /\ I <= 32 * xs.length /\ R = X / 2 ^ I % Y /\ wth q = X / 2 ^ I / Y * 2 ^ I)
     (fun s => match s.tmp 15 with | .sv (.int _ i) => (i + 1).toNat | _ => 0) ?_ ?_
    ·have hXlt := wth_lt hx
     rw [hX] at hXlt
     have h32 : (4294967296 : Nat) ^ xs.length = 2 ^ (32 * xs.length) := by rw [Nat.pow_mul]
     rw [h32] at hXlt
     refine ⟨rfl, rfl, rfl, List.replicate xs.length 0, 32 * xs.length, 0, rfl, rfl, .inl ⟨rfl, rfl⟩, List.length_replicate .., okL_replicate _, Nat.le_refl _, ?_, ?_⟩
     ·rw [Nat.div_eq_of_lt hXlt, Nat.zero_mod]
     ·rw [Nat.div_eq_of_lt hXlt, Nat.zero_div, Nat.zero_mul, wth_replicate]
    rintro s ⟨i0, i1, i13, q, I, R, iO, i15, hR, hql, hqk, hI, hRv, hqv⟩
    rcases Nat.eq_zero_or_pos I with rfl | hI0
    ·rw [Nat.pow_zero, Nat.div_one] at hRv hqv
     rw [Nat.mul_one] at hqv
     subst hRv
     rcases hR with ⟨i14, hR0⟩ | i14
     ·repeat (first|simp only [go_sem, i0, i1, i13, iO, i15, i14]|simp (disch := first|exact oa|fail) only [AX, i0, i1, i13, iO, i15, i14]|refine wki ?_|refine wqn ?_|refine vpx [] ?_)
      refine vf_of (fn_natV (ref1_Trim q hqk (by omega)) hql) ?_; repeat (first|simp only [go_sem, i0, i1, i13, iO, i15, i14]|simp (disch := first|exact oa|fail) only [AX, i0, i1, i13, iO, i15, i14]|refine wki ?_|refine wqn ?_|refine vpx [] ?_)
      refine vf_of (ref1_Trim [] okL_nil (by simp)) ?_; repeat (first|simp only [go_sem, i0, i1, i13, iO, i15, i14]|simp (disch := first|exact oa|fail) only [AX, i0, i1, i13, iO, i15, i14]|refine wki ?_|refine wqn ?_|refine vpx [] ?_)
      rw [hqv, hR0, lim_zero, wth_nil, lim_zero]
      exact ⟨rfl, rfl⟩
     ·have hRl : (lim (X % Y)).length <= ys.length := by
       have h1 : (lim Y).length <= ys.length := by rw [<- hY]; exact lim_length_le hy
       have h2 := Nat.mod_lt X h0
       have h3 := trimL_length (okL_lim (X % Y)) (okL_lim Y) (trimL_lim _) (by rw [wth_lim, wth_lim]; omega)
       omega
      repeat (first|simp only [go_sem, i0, i1, i13, iO, i15, i14]|simp (disch := first|exact oa|fail) only [AX, i0, i1, i13, iO, i15, i14]|refine wki ?_|refine wqn ?_|refine vpx [] ?_)
      refine vf_of (fn_natV (ref1_Trim q hqk (by omega)) hql) ?_; repeat (first|simp only [go_sem, i0, i1, i13, iO, i15, i14]|simp (disch := first|exact oa|fail) only [AX, i0, i1, i13, iO, i15, i14]|refine wki ?_|refine wqn ?_|refine vpx [] ?_)
      refine vf_of (ref1_Trim (lim (X % Y)) (okL_lim _) (by omega)) ?_; repeat (first|simp only [go_sem, i0, i1, i13, iO, i15, i14]|simp (disch := first|exact oa|fail) only [AX, i0, i1, i13, iO, i15, i14]|refine wki ?_|refine wqn ?_|refine vpx [] ?_)
      rw [hqv, wth_lim]
      exact ⟨rfl, rfl⟩
    ·obtain ⟨J, rfl⟩ : ∃ J, I = J + 1 := ⟨I - 1, by omega⟩
     have h5 : ((J + 1 : Nat) : Int) - 1 = (J : Int) := by omega
     rw [h5] at i15
     have hRY : R < Y := by rw [hRv]; exact Nat.mod_lt _ h0
     have hlY : (lim Y).length <= ys.length := by rw [<- hY]; exact lim_length_le hy
     have hRl : (lim R).length <= (lim Y).length := trimL_length (okL_lim _) (okL_lim _) (trimL_lim _) (by rw [wth_lim, wth_lim]; omega)
     have hS := ref1_shift_up (lim R) 1 (okL_lim R) (by omega) 1 rfl (by omega)
     rw [wth_lim, Nat.pow_one] at hS
     have hlen : ∀ z, z <= R * 2 + 1 -> (lim z).length <= ys.length + 1 := by
      intro z hz
      have h1 := trimL_length (xs := lim z) (ys := 0 :: lim Y) (okL_lim _) (okL_cons.2 ⟨by omega, okL_lim _⟩) (trimL_lim _) (by rw [wth_cons, wth_lim, wth_lim]; omega)
      rw [List.length_cons] at h1
      omega
     have hw : J / 32 < xs.length := by omega
     have hbg := bit_get xs hx J hw
     have hbs := bit_set q hqk J (X / 2 ^ (J + 1) / Y) (by omega) hqv
     rw [hX] at hbg
     obtain ⟨hst1, hst2⟩ := bit_step h0 hRv rfl
     have hb2 : X / 2 ^ J % 2 < 2 := Nat.mod_lt _ (by omega)
     have hx1 := getD_lt hx (J / 32)
     have hq1 := getD_lt hqk (J / 32)
     have hj : J % 32 < 32 := Nat.mod_lt _ (by omega)
     generalize hB : X / 2 ^ J % 2 = B at *
     generalize hxw : xs.getD (J / 32) 0 = x at *
     have hxj : x / 2 ^ (J % 32) < 4294967296 := Nat.lt_of_le_of_lt (Nat.div_le_self _ _) hx1
     have hand : bitsSV .and .u32 ((x / 2 ^ (J % 32) : Nat) : Int) 1 = some (.int .u32 (B : Int)) := by
      have := b_and32 (a := x / 2 ^ (J % 32)) (b := 1) hxj (by omega)
      rw [and_one, hbg] at this
      exact this
     have hmin : min (J % 32) 32 = J % 32 := Nat.min_eq_left (by omega)
     clear hbg hRv hI0
     rcases hR with ⟨i14, hR0⟩ | i14
     all_goals (first | (have hR1 : lim R = [] := by rw [hR0, lim_zero]); rw [hR1] at hS | skip)
     all_goals
      repeat (first|simp only [go_sem, i0, i1, i13, iO, i15, i14, tdiv32, tmod32, hxw, hmin, hand]|simp (disch := first|exact oa|fail) only [AX, i0, i1, i13, iO, i15, i14, tdiv32, tmod32, hxw, hmin, hand]|refine wki ?_|refine wqn ?_|refine vpx [] ?_|refine vf_of (by first|exact hS) ?_)
      refine vc_cut (Mid := fun s' => s'.tmp 0 = .sv (natV xs) /\ s'.tmp 1 = .sv (natV ys) /\ s'.tmp 13 = .ref 58 0 1 0 xs.length /\ s'.obj 58 0 = some (q.map limb) /\ s'.tmp 15 = .sv (.int .i64 (J : Int)) /\ s'.tmp 14 = .sv (natV (lim (R * 2 + B)))) ?_ ?_
      ·have hB01 : B = 0 \/ B = 1 := by omega
       rcases hB01 with hB0 | hB1
       ·have hbq : ((B : Int) == 1) = false := beqF (by omega)
        repeat (first|simp only [go_sem, i0, i1, i13, iO, i15, i14, hbq]|simp (disch := first|exact oa|fail) only [AX, i0, i1, i13, iO, i15, i14, hbq]|refine wki ?_|refine wqn ?_|refine vpx [] ?_)
        rw [hB0, Nat.add_zero]
       ·have hbq : ((B : Int) == 1) = true := beqT (by omega)
        have hA := ref1_Add (lim (R * 2)) [1] (okL_lim _) (by simp [okL]) (by have := hlen (R * 2) (by omega); omega) (by simp)
        rw [wth_lim, show wth [1] = B by rw [hB1]; rfl] at hA
        repeat (first|simp only [go_sem, i0, i1, i13, iO, i15, i14, hbq]|simp (disch := first|exact oa|fail) only [AX, i0, i1, i13, iO, i15, i14, hbq]|refine wki ?_|refine wqn ?_|refine vpx [] ?_|refine vf_of (by first|exact hA) ?_)
      rintro s' ⟨j0, j1, j13, jO, j15, j14⟩
      have hrl := hlen (R * 2 + B) (by omega)
      have hC := ref1_Cmp (lim (R * 2 + B)) ys (okL_lim _) hy (by omega) (by omega)
      have hSb := ref1_Sub (lim (R * 2 + B)) ys (okL_lim _) hy (by omega) (by omega)
      rw [wth_lim, hY] at hC hSb
      clear hlen hrl hS hand
      by_cases hYR : Y <= R * 2 + B
      ·have hc : decide (cmpN (R * 2 + B) Y >= 0) = true := by
        have := cmpN_ge hYR
        rw [decide_eq_false_iff_not] at this
        exact decide_eq_true (by omega)
       rw [if_pos hYR] at hst1 hst2
       obtain ⟨hb1, hb3, hb4⟩ := hbs
       have hp2 : 2 ^ (J % 32) < 4294967296 := show 2 ^ (J % 32) < 2 ^ 32 from Nat.pow_lt_pow_right (by omega) hj
       have hsh : IntKind.u32.wrap (1 * ((2 ^ (J % 32) : Nat) : Int)) = ((2 ^ (J % 32) : Nat) : Int) := by rw [Int.one_mul, u32_nat, Nat.mod_eq_of_lt hp2]
       first | (exfalso; omega) | skip
       all_goals
        repeat (first|simp only [go_sem, j0, j1, j13, jO, j15, j14, hc, tdiv32, tmod32, hmin, hsh, hb1]|simp (disch := first|exact oa|fail) only [AX, j0, j1, j13, jO, j15, j14, hc, tdiv32, tmod32, hmin, hsh, hb1]|refine wki ?_|refine wqn ?_|refine vpx [] ?_|refine vf_of (by first|exact hC|exact hSb) ?_)
        refine ⟨⟨q.set (J / 32) (q.getD (J / 32) 0 + 2 ^ (J % 32)), J, R * 2 + B - Y, rfl, rfl, .inr rfl, by rw [List.length_set]; exact hql, okL_set hqk _ _ hb3, by omega, hst1.symm, ?_⟩, by omega⟩
        rw [hb4, hst2]
      ·have hc : decide (cmpN (R * 2 + B) Y >= 0) = false := by
        rw [cmpN_lt (by omega)]; rfl
       rw [if_neg hYR] at hst1 hst2
       repeat (first|simp only [go_sem, j0, j1, j13, jO, j15, j14, hc]|simp (disch := first|exact oa|fail) only [AX, j0, j1, j13, jO, j15, j14, hc]|refine wki ?_|refine wqn ?_|refine vpx [] ?_|refine vf_of (by first|exact hC) ?_)
       refine ⟨⟨q, J, R * 2 + B, rfl, rfl, .inr rfl, hql, hqk, by omega, hst1.symm, ?_⟩, by omega⟩
       rw [hqv, hst2]
       show X / 2 ^ (J + 1) / Y * 2 ^ (J + 1) = 2 * (X / 2 ^ (J + 1) / Y) * 2 ^ J
       generalize X / 2 ^ (J + 1) / Y = Qv
       rw [Nat.pow_succ', <- Nat.mul_assoc, Nat.mul_comm Qv]
theorem ref1_Gcd (xs ys : List Nat) (hx : okL xs) (hy : okL ys) (hl : xs.length <= 16777216) (hm : ys.length <= 16777216) :
  Go.Ev.Fn CX 61 [natV xs, natV ys] (natV (lim (Nat.gcd (wth xs) (wth ys)))) := by
 refine fni Tryz.f61 ?_; unfold Tryz.f61; simp only [Option.get!_some]
 have lx := lim_length_le hx
 have ly := lim_length_le hy
 repeat (first|simp only [go_sem]|simp (disch := first|exact oa|fail) only [AX]|refine wki ?_|refine wqn ?_|refine vpx [] ?_)
 refine vf_of (ref1_Trim xs hx (by omega)) ?_; repeat (first|simp only [go_sem]|simp (disch := first|exact oa|fail) only [AX]|refine wki ?_|refine wqn ?_|refine vpx [] ?_)
 refine vf_of (ref1_Trim ys hy (by omega)) ?_; repeat (first|simp only [go_sem]|simp (disch := first|exact oa|fail) only [AX]|refine wki ?_|refine wqn ?_|refine vpx [] ?_)
 refine vp_loop_inv (fun s => ∃ a b : Nat, s.tmp 5 = .sv (natV (lim a)) /\ s.tmp 6 = .sv (natV (lim b)) /\ (lim a).length <= 16777216 /\ (lim b).length <= 16777216 /\ Nat.gcd a b = Nat.gcd (wth xs) (wth ys))
  (fun s => match s.tmp 6 with | .sv (.sl _ cs) => (match decL cs with | some l => wth l | none => 0) | _ => 0) ⟨_, _, rfl, rfl, by omega, by omega, rfl⟩ ?_
 rintro s ⟨a, b, i0, i1, la, lb, hg⟩
 by_cases hb : b = 0
 ·subst hb
  rw [lim_zero] at i1
  rw [<- hg, Nat.gcd_zero_right]
  repeat (first|simp only [go_sem, i0, i1]|simp (disch := first|exact oa|fail) only [AX, i0, i1]|refine wki ?_|refine wqn ?_|refine vpx [] ?_)
 ·have h1 : 0 < (lim b).length := List.length_pos_iff.2 (fun h => hb (lim_eq_nil.1 h))
  repeat (first|simp only [go_sem, i0, i1]|simp (disch := first|exact oa|fail) only [AX, i0, i1]|refine wki ?_|refine wqn ?_|refine vpx [] ?_)
  refine vf_of (ref1_DivMod (lim a) (lim b) (okL_lim a) (okL_lim b) la lb) ?_; repeat (first|simp only [go_sem, i0, i1]|simp (disch := first|exact oa|fail) only [AX, i0, i1]|refine wki ?_|refine wqn ?_|refine vpx [] ?_)
  have e1 : remN (wth (lim a)) (wth (lim b)) = a % b := by rw [wth_lim, wth_lim]; exact if_neg hb
  rw [e1, decL_map (okL_lim _), decL_map (okL_lim _)]
  dsimp only
  rw [wth_lim, wth_lim]
  have h2 : a % b < b := Nat.mod_lt _ (by omega)
  have h3 := trimL_length (okL_lim (a % b)) (okL_lim b) (trimL_lim _) (by rw [wth_lim, wth_lim]; omega)
  refine ⟨⟨b, a % b, rfl, rfl, lb, by omega, ?_⟩, h2⟩
  rw [<- hg, Nat.gcd_comm b, <- Nat.gcd_rec, Nat.gcd_comm]
end Go.Proofs.YtlojijllmadnoaaGreatDoor
namespace Go.Proofs.YtlojijllmadnoaaGreatDoor
open Go.Ev
attribute [go_sem] List.head?_cons List.head?_nil
theorem nat_GcdL {N D : Nat} (hl : (lim N).length <= 536870912) (hm : (lim D).length <= 536870912) : Go.Ev.Fn CX 83 [natV (lim N), natV (lim D)] (natV (lim (N.gcd D))) := by
 have h := nat_Gcd (lim N) (lim D) (okL_lim _) (okL_lim _) hl hm
 rwa [wth_lim, wth_lim] at h
theorem nat_DivL {N D : Nat} (hD : D ≠ 0) (hl : (lim N).length <= 536870912) (hm : (lim D).length <= 536870912) : Go.Ev.Fn CX 84 [natV (lim N), natV (lim D)] (.tup [natV (lim (N / D)), natV (lim (N % D)), .bool true]) := by
 have h := nat_DivMod (lim N) (lim D) (okL_lim _) (okL_lim _) hl hm
 rwa [wth_lim, wth_lim, show remN N D = N % D from if_neg hD, decide_eq_true hD] at h
theorem nat_MulL {N D : Nat} (hl : (lim N).length <= 536870912) (hm : (lim D).length <= 536870912) : Go.Ev.Fn CX 59 [natV (lim N), natV (lim D)] (natV (lim (N * D))) := by
 have h := nat_Mul (lim N) (lim D) (okL_lim _) (okL_lim _) (by omega) (by omega)
 rwa [wth_lim, wth_lim] at h
theorem nat_AddL {N D : Nat} (hl : (lim N).length <= 536870912) (hm : (lim D).length <= 536870912) : Go.Ev.Fn CX 54 [natV (lim N), natV (lim D)] (natV (lim (N + D))) := by
 have h := nat_Add (lim N) (lim D) (okL_lim _) (okL_lim _) (by omega) (by omega)
 rwa [wth_lim, wth_lim] at h
theorem nat_SubL {N D : Nat} (hl : (lim N).length <= 536870912) (hm : (lim D).length <= 536870912) : Go.Ev.Fn CX 79 [natV (lim N), natV (lim D)] (.tup [natV (lim (N - D)), .bool (decide (D <= N))]) := by
 have h := nat_Sub (lim N) (lim D) (okL_lim _) (okL_lim _) (by omega) (by omega)
 rw [wth_lim, wth_lim] at h
 by_cases hlt : N < D
 ·rw [if_pos hlt] at h
  rwa [show N - D = 0 by omega, lim_zero, decide_eq_false (by omega)]
 ·rw [if_neg hlt] at h
  rwa [decide_eq_true (by omega : D <= N)]
theorem ref1_GcdL {N D : Nat} (hl : (lim N).length <= 16777216) (hm : (lim D).length <= 16777216) : Go.Ev.Fn CX 61 [natV (lim N), natV (lim D)] (natV (lim (N.gcd D))) := by
 have h := ref1_Gcd (lim N) (lim D) (okL_lim _) (okL_lim _) hl hm
 rwa [wth_lim, wth_lim] at h
theorem ref1_DivL {N D : Nat} (hD : D ≠ 0) (hl : (lim N).length <= 16777216) (hm : (lim D).length <= 16777216) : Go.Ev.Fn CX 62 [natV (lim N), natV (lim D)] (.tup [natV (lim (N / D)), natV (lim (N % D)), .bool true]) := by
 have h := ref1_DivMod (lim N) (lim D) (okL_lim _) (okL_lim _) hl hm
 rwa [wth_lim, wth_lim, show remN N D = N % D from if_neg hD, decide_eq_true hD] at h
theorem ref1_MulL {N D : Nat} (hl : (lim N).length <= 16777216) (hm : (lim D).length <= 16777216) : Go.Ev.Fn CX 33 [natV (lim N), natV (lim D)] (natV (lim (N * D))) := by
 have h := ref1_Mul (lim N) (lim D) (okL_lim _) (okL_lim _) (by omega) (by omega)
 rwa [wth_lim, wth_lim] at h
theorem ref1_AddL {N D : Nat} (hl : (lim N).length <= 16777216) (hm : (lim D).length <= 16777216) : Go.Ev.Fn CX 19 [natV (lim N), natV (lim D)] (natV (lim (N + D))) := by
 have h := ref1_Add (lim N) (lim D) (okL_lim _) (okL_lim _) (by omega) (by omega)
 rwa [wth_lim, wth_lim] at h
theorem ref1_SubL {N D : Nat} (hl : (lim N).length <= 16777216) (hm : (lim D).length <= 16777216) : Go.Ev.Fn CX 42 [natV (lim N), natV (lim D)] (.tup [natV (lim (N - D)), .bool (decide (D <= N))]) := by
 have h := ref1_Sub (lim N) (lim D) (okL_lim _) (okL_lim _) (by omega) (by omega)
 rwa [wth_lim, wth_lim] at h
theorem ref1_CmpL {N D : Nat} (hl : (lim N).length <= 16777216) (hm : (lim D).length <= 16777216) : Go.Ev.Fn CX 34 [natV (lim N), natV (lim D)] (.int .i64 (cmpN N D)) := by
 have h := ref1_Cmp (lim N) (lim D) (okL_lim _) (okL_lim _) (by omega) (by omega)
 rwa [wth_lim, wth_lim] at h
theorem nat_CmpL {N D : Nat} (hl : (lim N).length <= 536870912) (hm : (lim D).length <= 536870912) : Go.Ev.Fn CX 120 [natV (lim N), natV (lim D)] (.int .i64 (cmpN N D)) := by
 have h := nat_Cmp (lim N) (lim D) (okL_lim _) (okL_lim _) (by omega) (by omega)
 rwa [wth_lim, wth_lim] at h
theorem lim_pos {N : Nat} (h : N ≠ 0) : 0 < (lim N).length := List.length_pos_iff.2 (fun e => h (lim_eq_nil.1 e))
theorem rat_Of (s : Bool) (n d : List Nat) (hn : okL n) (hd : okL d) (hl : n.length <= 536870912) (hm : d.length <= 536870912) :
  Go.Ev.Fn CX 55 [.bool s, natV n, natV d] (rv (mkRat (sgn s (wth n)) (wth d))) := by
 refine fni Tryz.f55 ?_; unfold Tryz.f55; simp only [Option.get!_some]
 have lx := lim_length_le hn
 have ly := lim_length_le hd
 repeat (first|simp only [go_sem]|simp (disch := first|exact oa|fail) only [AX]|refine wki ?_|refine wqn ?_|refine vpx [] ?_)
 refine vf_of (nat_Trim n hn (by omega)) ?_; repeat (first|simp only [go_sem]|simp (disch := first|exact oa|fail) only [AX]|refine wki ?_|refine wqn ?_|refine vpx [] ?_)
 refine vf_of (nat_Trim d hd (by omega)) ?_; repeat (first|simp only [go_sem]|simp (disch := first|exact oa|fail) only [AX]|refine wki ?_|refine wqn ?_|refine vpx [] ?_)
 generalize wth n = N at *
 generalize wth d = D at *
 have oN := okL_lim N
 have oD := okL_lim D
 by_cases h : N = 0 \/ D = 0
 ·rw [mk_zero s h, rv_zero]
  have o1 := nat_Of 1 (by omega)
  rw [lim_one] at o1
  by_cases hN : N = 0
  ·have h0 : (lim N).length = 0 := by rw [hN, lim_zero]; rfl
   repeat (first|simp only [go_sem]|simp (disch := first|exact oa|fail) only [AX]|refine wki ?_|refine wqn ?_|refine vpx [] ?_|refine vf_of (by first|exact o1) ?_)
   rfl
  ·have h0 : (lim D).length = 0 := by rw [h.resolve_left hN, lim_zero]; rfl
   have h1 := lim_pos hN
   repeat (first|simp only [go_sem]|simp (disch := first|exact oa|fail) only [AX]|refine wki ?_|refine wqn ?_|refine vpx [] ?_|refine vf_of (by first|exact o1) ?_)
   rfl
 ·have hN : N ≠ 0 := fun e => h (.inl e)
  have hD : D ≠ 0 := fun e => h (.inr e)
  rw [mk_parts s hN hD]
  have h1 := lim_pos hN
  have h2 := lim_pos hD
  have hg : N.gcd D ≠ 0 := Nat.ne_of_gt (Nat.gcd_pos_of_pos_left _ (by omega))
  have h3 := lim_len_mono (Nat.gcd_le_left D (by omega : 0 < N))
  repeat (first|simp only [go_sem]|simp (disch := first|exact oa|fail) only [AX]|refine wki ?_|refine wqn ?_|refine vpx [] ?_)
  refine vf_of (nat_GcdL (by omega) (by omega)) ?_; repeat (first|simp only [go_sem]|simp (disch := first|exact oa|fail) only [AX]|refine wki ?_|refine wqn ?_|refine vpx [] ?_)
  refine vf_of (nat_DivL hg (by omega) (by omega)) ?_; repeat (first|simp only [go_sem]|simp (disch := first|exact oa|fail) only [AX]|refine wki ?_|refine wqn ?_|refine vpx [] ?_)
  refine vf_of (nat_DivL hg (by omega) (by omega)) ?_; repeat (first|simp only [go_sem]|simp (disch := first|exact oa|fail) only [AX]|refine wki ?_|refine wqn ?_|refine vpx [] ?_)
theorem rat_Norm {v : SV} {q : Rat} {L : Nat} (h : RatA v q L) (hL : L <= 536870912) : Go.Ev.Fn CX 57 [v] (rv q) := by
 obtain ⟨s, n, d, rfl, hn, hd, hl, hm, rfl⟩ := h
 refine fni Tryz.f57 ?_; unfold Tryz.f57; simp only [Option.get!_some]
 repeat (first|simp only [go_sem]|simp (disch := first|exact oa|fail) only [AX]|refine wki ?_|refine wqn ?_|refine vpx [] ?_)
 refine vf_of (rat_Of s n d hn hd (by omega) (by omega)) ?_; repeat (first|simp only [go_sem]|simp (disch := first|exact oa|fail) only [AX]|refine wki ?_|refine wqn ?_|refine vpx [] ?_)
theorem int_u64 {n : Int} (h : -9223372036854775808 <= n /\ n < 9223372036854775808) : IntKind.u64.wrap n = ((if n < 0 then 18446744073709551616 - n.natAbs else n.natAbs : Nat) : Int) := by
 rw [IntKind.wrap_u64]
 split <;> omega
theorem rat_Int (n : Int) (h : -9223372036854775808 <= n /\ n < 9223372036854775808) : Go.Ev.Fn CX 11 [.int .i64 n] (rv (n : Rat)) := by
 refine fni Tryz.f11 ?_; unfold Tryz.f11; simp only [Option.get!_some]
 have o1 := nat_Of 1 (by omega)
 have oN := nat_Of n.natAbs (by omega)
 have e1 := int_u64 h
 show WP CX _ _ (RQ _ _ (ratV (decide (n < 0)) (lim n.natAbs) (lim 1)))
 by_cases h0 : n < 0
 ·rw [if_pos h0] at e1
  have e2 : IntKind.u64.wrap (0 - ((18446744073709551616 - n.natAbs : Nat) : Int)) = (n.natAbs : Int) := by rw [IntKind.wrap_u64]; omega
  repeat (first|simp only [go_sem, e1, e2]|simp (disch := first|exact oa|fail) only [AX, e1, e2]|refine wki ?_|refine wqn ?_|refine vpx [] ?_|refine vf_of (by first|exact oN|exact o1) ?_)
 ·rw [if_neg h0] at e1
  repeat (first|simp only [go_sem, e1]|simp (disch := first|exact oa|fail) only [AX, e1]|refine wki ?_|refine wqn ?_|refine vpx [] ?_|refine vf_of (by first|exact oN|exact o1) ?_)
end Go.Proofs.YtlojijllmadnoaaGreatDoor
namespace Go.Proofs.YtlojijllmadnoaaGreatDoor
open Go.Ev
theorem rat_OfL {s : Bool} {n d : Nat} (hl : (lim n).length <= 536870912) (hm : (lim d).length <= 536870912) :
  Go.Ev.Fn CX 55 [.bool s, natV (lim n), natV (lim d)] (rv (mkRat (sgn s n) d)) := by
 have h := rat_Of s (lim n) (lim d) (okL_lim _) (okL_lim _) hl hm
 rwa [wth_lim, wth_lim] at h
theorem mul_parts (q r : Rat) : mkRat (sgn (!(decide (q.num < 0) == decide (r.num < 0))) (q.num.natAbs * r.num.natAbs)) (q.den * r.den) = q * r := by
 have h := sgn_mul q.num r.num
 rw [show (!(decide (q.num < 0) == decide (r.num < 0))) = (decide (q.num < 0) != decide (r.num < 0)) from rfl, h, <- Rat.mkRat_mul_mkRat, Rat.mkRat_self, Rat.mkRat_self]
theorem rat_Mul {v w : SV} {q r : Rat} {L M : Nat} (hv : RatA v q L) (hw : RatA w r M) (hL : 1 <= L) (hM : 1 <= M) (h : L + M <= 268435456) : Go.Ev.Fn CX 203 [v, w] (rv (q * r)) := by
 have hnv := rat_Norm hv (by omega)
 have hnw := rat_Norm hw (by omega)
 obtain ⟨z1, z2⟩ := szR_of hv hL
 obtain ⟨y1, y2⟩ := szR_of hw hM
 have g1 := lim_len_mul (a := q.num.natAbs) (b := r.num.natAbs)
 have g2 := lim_len_mul (a := q.den) (b := r.den)
 have hOf := rat_OfL (s := !(decide (q.num < 0) == decide (r.num < 0))) (n := q.num.natAbs * r.num.natAbs) (d := q.den * r.den) (by omega) (by omega)
 rw [mul_parts] at hOf
 obtain ⟨s, n, d, rfl, -⟩ := hv
 obtain ⟨s', n', d', rfl, -⟩ := hw
 refine fni Tryz.f203 ?_; unfold Tryz.f203; simp only [Option.get!_some]
 repeat (first|simp only [go_sem]|simp (disch := first|exact oa|fail) only [AX]|refine wki ?_|refine wqn ?_|refine vpd 1 [] ?_|refine vpd 2 [15, 17, 20, 22, 18, 23] ?_|refine vf_of (by first|exact hnv|exact hnw) ?_)
 refine vf_of (nat_MulL (by omega) (by omega)) ?_; repeat (first|simp only [go_sem]|simp (disch := first|exact oa|fail) only [AX]|refine wki ?_|refine wqn ?_|refine vpd 1 [] ?_|refine vpd 2 [15, 17, 20, 22, 18, 23] ?_)
 refine vf_of (nat_MulL (by omega) (by omega)) ?_; repeat (first|simp only [go_sem]|simp (disch := first|exact oa|fail) only [AX]|refine wki ?_|refine wqn ?_|refine vpd 1 [] ?_|refine vpd 2 [15, 17, 20, 22, 18, 23] ?_)
 refine vf_of (hOf) ?_; repeat (first|simp only [go_sem]|simp (disch := first|exact oa|fail) only [AX]|refine wki ?_|refine wqn ?_|refine vpd 1 [] ?_|refine vpd 2 [15, 17, 20, 22, 18, 23] ?_)
theorem sgn_mul_nat (s : Bool) (a b : Nat) : sgn s a * (b : Int) = sgn s (a * b) := by
 unfold sgn
 split
 ·rw [Int.neg_mul, Int.natCast_mul]
 ·rw [Int.natCast_mul]
theorem add_parts (q r : Rat) : q + r = mkRat (sgn (decide (q.num < 0)) (q.num.natAbs * r.den) + sgn (decide (r.num < 0)) (r.num.natAbs * q.den)) (q.den * r.den) := by
 conv => lhs; rw [<- Rat.mkRat_self q, <- Rat.mkRat_self r, Rat.mkRat_add_mkRat _ _ q.den_nz r.den_nz]
 congr 1
 rw [<- sgn_mul_nat, <- sgn_mul_nat, sgn_self, sgn_self]
theorem add_same (q r : Rat) (h : decide (q.num < 0) = decide (r.num < 0)) : mkRat (sgn (decide (q.num < 0)) (q.num.natAbs * r.den + r.num.natAbs * q.den)) (q.den * r.den) = q + r := by
 rw [add_parts, <- h]
 congr 1
 unfold sgn
 split <;> omega
theorem add_ge (q r : Rat) (h : ¬ decide (q.num < 0) = decide (r.num < 0)) (h2 : r.num.natAbs * q.den <= q.num.natAbs * r.den) : mkRat (sgn (decide (q.num < 0)) (q.num.natAbs * r.den - r.num.natAbs * q.den)) (q.den * r.den) = q + r := by
 rw [add_parts]
 congr 1
 have e : decide (r.num < 0) = !decide (q.num < 0) := by
  revert h
  cases decide (q.num < 0) <;> cases decide (r.num < 0) <;> simp
 rw [e]
 generalize q.num.natAbs * r.den = X at *
 generalize r.num.natAbs * q.den = Y at *
 unfold sgn
 cases decide (q.num < 0)
 ·simp; omega
 ·simp; omega
theorem add_lt (q r : Rat) (h : ¬ decide (q.num < 0) = decide (r.num < 0)) (h2 : q.num.natAbs * r.den < r.num.natAbs * q.den) : mkRat (sgn (decide (r.num < 0)) (r.num.natAbs * q.den - q.num.natAbs * r.den)) (q.den * r.den) = q + r := by
 have h3 := add_ge r q (fun e => h e.symm) (Nat.le_of_lt h2)
 rw [Nat.mul_comm r.den, Rat.add_comm r q] at h3
 exact h3
theorem beq_bool (a b : Bool) : (a == b) = decide (a = b) := by cases a <;> cases b <;> rfl
theorem lim_len_add2 {a b L : Nat} (ha : (lim a).length <= L) (hb : (lim b).length <= L) : (lim (a + b)).length <= L + 1 := lim_len_add ha hb
theorem rat_Add {v w : SV} {q r : Rat} {L M : Nat} (hv : RatA v q L) (hw : RatA w r M) (hL : 1 <= L) (hM : 1 <= M) (h : L + M <= 268435456) : Go.Ev.Fn CX 51 [v, w] (rv (q + r)) := by
 have hnv := rat_Norm hv (by omega)
 have hnw := rat_Norm hw (by omega)
 obtain ⟨z1, z2⟩ := szR_of hv hL
 obtain ⟨y1, y2⟩ := szR_of hw hM
 have g1 := lim_len_mul (a := q.num.natAbs) (b := r.den)
 have g2 := lim_len_mul (a := r.num.natAbs) (b := q.den)
 have g3 := lim_len_mul (a := q.den) (b := r.den)
 have g4 := lim_len_add2 (a := q.num.natAbs * r.den) (b := r.num.natAbs * q.den) (L := L + M) (by omega) (by omega)
 have g5 := lim_len_mono (Nat.sub_le (q.num.natAbs * r.den) (r.num.natAbs * q.den))
 have g6 := lim_len_mono (Nat.sub_le (r.num.natAbs * q.den) (q.num.natAbs * r.den))
 obtain ⟨s, n, d, rfl, -⟩ := hv
 obtain ⟨s', n', d', rfl, -⟩ := hw
 have hbb := beq_bool (decide (q.num < 0)) (decide (r.num < 0))
 refine fni Tryz.f51 ?_; unfold Tryz.f51; simp only [Option.get!_some]
 repeat (first|simp only [go_sem]|simp (disch := first|exact oa|fail) only [AX]|refine wki ?_|refine wqn ?_|refine vpd 1 [] ?_|refine vpd 2 [17, 19, 22, 24, 27, 29] ?_|refine vpd 4 [5, 6, 40, 7] ?_|refine vf_of (by first|exact hnv|exact hnw) ?_)
 refine vf_of (nat_MulL (by omega) (by omega)) ?_; repeat (first|simp only [go_sem]|simp (disch := first|exact oa|fail) only [AX]|refine wki ?_|refine wqn ?_|refine vpd 1 [] ?_|refine vpd 2 [17, 19, 22, 24, 27, 29] ?_|refine vpd 4 [5, 6, 40, 7] ?_)
 refine vf_of (nat_MulL (by omega) (by omega)) ?_; repeat (first|simp only [go_sem]|simp (disch := first|exact oa|fail) only [AX]|refine wki ?_|refine wqn ?_|refine vpd 1 [] ?_|refine vpd 2 [17, 19, 22, 24, 27, 29] ?_|refine vpd 4 [5, 6, 40, 7] ?_)
 refine vf_of (nat_MulL (by omega) (by omega)) ?_; repeat (first|simp only [go_sem, hbb]|simp (disch := first|exact oa|fail) only [AX, hbb]|refine wki ?_|refine wqn ?_|refine vpd 1 [] ?_|refine vpd 2 [17, 19, 22, 24, 27, 29] ?_|refine vpd 4 [5, 6, 40, 7] ?_)
 by_cases hs : decide (q.num < 0) = decide (r.num < 0)
 ·have hOf := rat_OfL (s := decide (q.num < 0)) (n := q.num.natAbs * r.den + r.num.natAbs * q.den) (d := q.den * r.den) (by omega) (by omega)
  rw [add_same q r hs] at hOf
  rw [decide_eq_true hs]
  repeat (first|simp only [go_sem]|simp (disch := first|exact oa|fail) only [AX]|refine wki ?_|refine wqn ?_|refine vpd 1 [] ?_|refine vpd 2 [17, 19, 22, 24, 27, 29] ?_|refine vpd 4 [5, 6, 40, 7] ?_)
  refine vf_of (nat_AddL (by omega) (by omega)) ?_; repeat (first|simp only [go_sem]|simp (disch := first|exact oa|fail) only [AX]|refine wki ?_|refine wqn ?_|refine vpd 1 [] ?_|refine vpd 2 [17, 19, 22, 24, 27, 29] ?_|refine vpd 4 [5, 6, 40, 7] ?_)
  refine vf_of (hOf) ?_; repeat (first|simp only [go_sem]|simp (disch := first|exact oa|fail) only [AX]|refine wki ?_|refine wqn ?_|refine vpd 1 [] ?_|refine vpd 2 [17, 19, 22, 24, 27, 29] ?_|refine vpd 4 [5, 6, 40, 7] ?_)
 ·rw [decide_eq_false hs]
  repeat (first|simp only [go_sem]|simp (disch := first|exact oa|fail) only [AX]|refine wki ?_|refine wqn ?_|refine vpd 1 [] ?_|refine vpd 2 [17, 19, 22, 24, 27, 29] ?_|refine vpd 4 [5, 6, 40, 7] ?_)
  refine vf_of (nat_SubL (by omega) (by omega)) ?_; repeat (first|simp only [go_sem]|simp (disch := first|exact oa|fail) only [AX]|refine wki ?_|refine wqn ?_|refine vpd 1 [] ?_|refine vpd 2 [17, 19, 22, 24, 27, 29] ?_|refine vpd 4 [5, 6, 40, 7] ?_)
  by_cases h2 : r.num.natAbs * q.den <= q.num.natAbs * r.den
  ·have hOf := rat_OfL (s := decide (q.num < 0)) (n := q.num.natAbs * r.den - r.num.natAbs * q.den) (d := q.den * r.den) (by omega) (by omega)
   rw [add_ge q r hs h2] at hOf
   rw [decide_eq_true h2]
   repeat (first|simp only [go_sem]|simp (disch := first|exact oa|fail) only [AX]|refine wki ?_|refine wqn ?_|refine vpd 1 [] ?_|refine vpd 2 [17, 19, 22, 24, 27, 29] ?_|refine vpd 4 [5, 6, 40, 7] ?_|refine vf_of (by first|exact hOf) ?_)
  ·have hOf := rat_OfL (s := decide (r.num < 0)) (n := r.num.natAbs * q.den - q.num.natAbs * r.den) (d := q.den * r.den) (by omega) (by omega)
   rw [add_lt q r hs (by omega)] at hOf
   rw [decide_eq_false h2]
   repeat (first|simp only [go_sem]|simp (disch := first|exact oa|fail) only [AX]|refine wki ?_|refine wqn ?_|refine vpd 1 [] ?_|refine vpd 2 [17, 19, 22, 24, 27, 29] ?_|refine vpd 4 [5, 6, 40, 7] ?_)
   refine vf_of (nat_SubL (by omega) (by omega)) ?_; repeat (first|simp only [go_sem]|simp (disch := first|exact oa|fail) only [AX]|refine wki ?_|refine wqn ?_|refine vpd 1 [] ?_|refine vpd 2 [17, 19, 22, 24, 27, 29] ?_|refine vpd 4 [5, 6, 40, 7] ?_)
   refine vf_of (hOf) ?_; repeat (first|simp only [go_sem]|simp (disch := first|exact oa|fail) only [AX]|refine wki ?_|refine wqn ?_|refine vpd 1 [] ?_|refine vpd 2 [17, 19, 22, 24, 27, 29] ?_|refine vpd 4 [5, 6, 40, 7] ?_)
theorem neg_parts (q : Rat) : rv (-q) = ratV (!decide (q.num < 0) && decide (0 < (lim q.num.natAbs).length)) (lim q.num.natAbs) (lim q.den) := by
 show ratV (decide ((-q).num < 0)) (lim (-q).num.natAbs) (lim (-q).den) = _
 rw [Rat.neg_num, Rat.neg_den, Int.natAbs_neg]
 congr 3
 by_cases h : q.num = 0
 ·rw [h]; rfl
 ·have h1 := lim_pos (N := q.num.natAbs) (by omega)
  rw [decide_eq_true h1, Bool.and_true]
  by_cases h2 : q.num < 0
  ·rw [decide_eq_true h2, decide_eq_false (by omega)]; rfl
  ·rw [decide_eq_false h2, decide_eq_true (by omega)]; rfl
theorem rat_signed (s t : Bool) (n d : List Nat) (hn : n.length <= 1099511627776) : Go.Ev.Fn CX 80 [.bool s, ratV t n d] (ratV (s && decide (0 < n.length)) n d) := by
 refine fni Tryz.f80 ?_; unfold Tryz.f80; simp only [Option.get!_some]
 cases s
 ·repeat (first|simp only [go_sem]|simp (disch := first|exact oa|fail) only [AX]|refine wki ?_|refine wqn ?_)
  rfl
 ·by_cases h : 0 < n.length
  ·rw [decide_eq_true h]
   repeat (first|simp only [go_sem]|simp (disch := first|exact oa|fail) only [AX]|refine wki ?_|refine wqn ?_)
  ·rw [decide_eq_false h]
   repeat (first|simp only [go_sem]|simp (disch := first|exact oa|fail) only [AX]|refine wki ?_|refine wqn ?_)
theorem rat_Neg {v : SV} {q : Rat} {L : Nat} (hv : RatA v q L) (hL : 1 <= L) (h : L <= 268435456) : Go.Ev.Fn CX 52 [v] (rv (-q)) := by
 have hnv := rat_Norm hv (by omega)
 obtain ⟨z1, z2⟩ := szR_of hv hL
 have hs := rat_signed (!decide (q.num < 0)) (decide (q.num < 0)) (lim q.num.natAbs) (lim q.den) (by omega)
 rw [<- neg_parts] at hs
 obtain ⟨s, n, d, rfl, -⟩ := hv
 refine fni Tryz.f52 ?_; unfold Tryz.f52; simp only [Option.get!_some]
 repeat (first|simp only [go_sem]|simp (disch := first|exact oa|fail) only [AX]|refine wki ?_|refine wqn ?_|refine vf_of (by first|exact hnv|exact hs) ?_)
theorem szR_neg {q : Rat} {L : Nat} (h : szR q L) : szR (-q) L := by
 unfold szR
 rw [Rat.neg_num, Rat.neg_den, Int.natAbs_neg]
 exact h
theorem rat_Sub {v w : SV} {q r : Rat} {L M : Nat} (hv : RatA v q L) (hw : RatA w r M) (hL : 1 <= L) (hM : 1 <= M) (h : L + M <= 268435456) : Go.Ev.Fn CX 24 [v, w] (rv (q - r)) := by
 have hN := rat_Neg hw hM (by omega)
 have hA := rat_Add hv (RatA_rv (szR_neg (szR_of hw hM))) hL hM h
 rw [<- Rat.sub_eq_add_neg] at hA
 obtain ⟨s, n, d, rfl, -⟩ := hv
 obtain ⟨s', n', d', rfl, -⟩ := hw
 refine fni Tryz.f24 ?_; unfold Tryz.f24; simp only [Option.get!_some]
 repeat (first|simp only [go_sem]|simp (disch := first|exact oa|fail) only [AX]|refine wki ?_|refine wqn ?_|refine vpd 1 [] ?_|refine vf_of (by first|exact hN|exact hA) ?_)
theorem num_zero {q : Rat} : q.num = 0 ↔ q = 0 := Rat.num_eq_zero
theorem div_parts {q r : Rat} (hr : r ≠ 0) : q / r = q * mkRat (sgn (decide (r.num < 0)) r.den) r.num.natAbs := by
 rw [Rat.div_def]
 congr 1
 rw [Rat.inv_def]
 have h0 : r.num ≠ 0 := fun e => hr (num_zero.1 e)
 by_cases h : r.num < 0
 ·rw [decide_eq_true h]
  obtain ⟨k, hk⟩ : ∃ k : Nat, r.num = Int.negSucc k := ⟨r.num.natAbs - 1, by omega⟩
  rw [hk, show (Int.negSucc k).natAbs = k + 1 from rfl]
  show Rat.normalize (-(r.den : Int)) (k + 1) (Nat.succ_ne_zero k) = mkRat (-(r.den : Int)) (k + 1)
  rw [Rat.normalize_eq_mkRat]
 ·rw [decide_eq_false h]
  obtain ⟨m, hm⟩ : ∃ m : Nat, r.num = (m : Int) := ⟨r.num.natAbs, by omega⟩
  rw [hm, Int.natAbs_natCast, Rat.divInt_ofNat]
  rfl
theorem rat_Div {v w : SV} {q r : Rat} {L M : Nat} (hv : RatA v q L) (hw : RatA w r M) (hL : 1 <= L) (hM : 1 <= M) (h : L + M <= 268435456) : Go.Ev.Fn CX 201 [v, w] (.tup [rv (q / r), .bool (decide (r ≠ 0))]) := by
 have hnw := rat_Norm hw (by omega)
 obtain ⟨y1, y2⟩ := szR_of hw hM
 have h0 := rat_Int 0 (by omega)
 have hMul : r ≠ 0 -> _ := fun hr => rat_Mul (w := ratV (decide (r.num < 0)) (lim r.den) (lim r.num.natAbs)) hv ⟨_, _, _, rfl, okL_lim _, okL_lim _, y2, y1, by rw [wth_lim, wth_lim]⟩ hL hM h
 obtain ⟨s, n, d, rfl, -⟩ := hv
 obtain ⟨s', n', d', rfl, -⟩ := hw
 refine fni Tryz.f201 ?_; unfold Tryz.f201; simp only [Option.get!_some]
 by_cases hr : r = 0
 ·have hl : (lim r.num.natAbs).length = 0 := by rw [num_zero.2 hr]; simp [lim_zero]
  rw [decide_eq_false (fun e => e hr), hr, Rat.div_def, Rat.inv_zero, Rat.mul_zero]
  subst hr
  repeat (first|simp only [go_sem]|simp (disch := first|exact oa|fail) only [AX]|refine wki ?_|refine wqn ?_|refine vf_of (by first|exact hnw|exact h0) ?_)
  rfl
 ·have hl := lim_pos (N := r.num.natAbs) (fun e => hr (num_zero.1 (by omega)))
  have hMul := hMul hr
  rw [<- div_parts hr] at hMul
  rw [decide_eq_true hr]
  repeat (first|simp only [go_sem]|simp (disch := first|exact oa|fail) only [AX]|refine wki ?_|refine wqn ?_|refine vf_of (by first|exact hnw|exact hMul) ?_)
end Go.Proofs.YtlojijllmadnoaaGreatDoor
namespace Go.Proofs.YtlojijllmadnoaaGreatDoor
open Go.Ev
theorem ref2_Norm {v : SV} {q : Rat} {L : Nat} (h : RatA v q L) (hL : L <= 16777216) : Go.Ev.Fn CX 32 [v] (rv q) := by
 obtain ⟨s, n, d, rfl, hn, hd, hl, hm, rfl⟩ := h
 have lx := lim_length_le hn
 have ly := lim_length_le hd
 have tn := ref1_Trim n hn (by omega)
 have td := ref1_Trim d hd (by omega)
 refine fni Tryz.f32 ?_; unfold Tryz.f32; simp only [Option.get!_some]
 generalize wth n = N at *
 generalize wth d = D at *
 repeat (first|simp only [go_sem]|simp (disch := first|exact oa|fail) only [AX]|refine wki ?_|refine wqn ?_|refine vpd 1 [7, 10] ?_|refine vf_of (by first|exact tn|exact td) ?_)
 by_cases h : N = 0 \/ D = 0
 ·rw [mk_zero s h, rv_zero]
  by_cases hD : D = 0
  ·have h0 : (lim D).length = 0 := by rw [hD, lim_zero]; rfl
   repeat (first|simp only [go_sem]|simp (disch := first|exact oa|fail) only [AX]|refine wki ?_|refine wqn ?_|refine vpd 1 [7, 10] ?_)
   rfl
  ·have h0 : (lim N).length = 0 := by rw [h.resolve_right hD, lim_zero]; rfl
   have h1 := lim_pos hD
   repeat (first|simp only [go_sem]|simp (disch := first|exact oa|fail) only [AX]|refine wki ?_|refine wqn ?_|refine vpd 1 [7, 10] ?_)
   rfl
 ·have hN : N ≠ 0 := fun e => h (.inl e)
  have hD : D ≠ 0 := fun e => h (.inr e)
  rw [mk_parts s hN hD]
  have h1 := lim_pos hN
  have h2 := lim_pos hD
  have hg : N.gcd D ≠ 0 := Nat.ne_of_gt (Nat.gcd_pos_of_pos_left _ (by omega))
  have h3 := lim_len_mono (Nat.gcd_le_left D (by omega : 0 < N))
  repeat (first|simp only [go_sem]|simp (disch := first|exact oa|fail) only [AX]|refine wki ?_|refine wqn ?_|refine vpd 1 [7, 10] ?_)
  refine vf_of (ref1_GcdL (by omega) (by omega)) ?_; repeat (first|simp only [go_sem]|simp (disch := first|exact oa|fail) only [AX]|refine wki ?_|refine wqn ?_|refine vpd 1 [7, 10] ?_)
  refine vf_of (ref1_DivL hg (by omega) (by omega)) ?_; repeat (first|simp only [go_sem]|simp (disch := first|exact oa|fail) only [AX]|refine wki ?_|refine wqn ?_|refine vpd 1 [7, 10] ?_)
  refine vf_of (ref1_DivL hg (by omega) (by omega)) ?_; repeat (first|simp only [go_sem]|simp (disch := first|exact oa|fail) only [AX]|refine wki ?_|refine wqn ?_|refine vpd 1 [7, 10] ?_)
theorem ref2_Of (s : Bool) (n d : List Nat) (hn : okL n) (hd : okL d) (hl : n.length <= 16777216) (hm : d.length <= 16777216) :
  Go.Ev.Fn CX 20 [.bool s, natV n, natV d] (rv (mkRat (sgn s (wth n)) (wth d))) := by
 have hN := ref2_Norm (v := ratV s n d) (L := 16777216) ⟨s, n, d, rfl, hn, hd, hl, hm, rfl⟩ (by omega)
 refine fni Tryz.f20 ?_; unfold Tryz.f20; simp only [Option.get!_some]
 repeat (first|simp only [go_sem]|simp (disch := first|exact oa|fail) only [AX]|refine wki ?_|refine wqn ?_|refine vf_of (by first|exact hN) ?_)
theorem ref2_OfL {s : Bool} {n d : Nat} (hl : (lim n).length <= 16777216) (hm : (lim d).length <= 16777216) :
  Go.Ev.Fn CX 20 [.bool s, natV (lim n), natV (lim d)] (rv (mkRat (sgn s n) d)) := by
 have h := ref2_Of s (lim n) (lim d) (okL_lim _) (okL_lim _) hl hm
 rwa [wth_lim, wth_lim] at h
theorem ref2_Int (n : Int) (h : -9223372036854775808 <= n /\ n < 9223372036854775808) : Go.Ev.Fn CX 14 [.int .i64 n] (rv (n : Rat)) := by
 have oN := ref1_Of n.natAbs (by omega)
 have e1 := int_u64 h
 have hl := lim_two (v := n.natAbs) |>.2 (by omega)
 have hOf := ref2_OfL (s := decide (n < 0)) (n := n.natAbs) (d := 1) (by omega) (by rw [lim_one]; simp)
 rw [lim_one, sgn_self, show mkRat n 1 = (n : Rat) from Rat.mkRat_one n] at hOf
 refine fni Tryz.f14 ?_; unfold Tryz.f14; simp only [Option.get!_some]
 by_cases h0 : n < 0
 ·rw [if_pos h0] at e1
  rw [decide_eq_true h0] at hOf
  have e2 : IntKind.u64.wrap (0 - ((18446744073709551616 - n.natAbs : Nat) : Int)) = (n.natAbs : Int) := by rw [IntKind.wrap_u64]; omega
  repeat (first|simp only [go_sem, e1, e2]|simp (disch := first|exact oa|fail) only [AX, e1, e2]|refine wki ?_|refine wqn ?_|refine vf_of (by first|exact oN|exact hOf) ?_)
 ·rw [if_neg h0] at e1
  rw [decide_eq_false h0] at hOf
  repeat (first|simp only [go_sem, e1]|simp (disch := first|exact oa|fail) only [AX, e1]|refine wki ?_|refine wqn ?_|refine vf_of (by first|exact oN|exact hOf) ?_)
theorem ref2_Add {v w : SV} {q r : Rat} {L M : Nat} (hv : RatA v q L) (hw : RatA w r M) (hL : 1 <= L) (hM : 1 <= M) (h : L + M <= 8388608) : Go.Ev.Fn CX 47 [v, w] (rv (q + r)) := by
 have hnv := ref2_Norm hv (by omega)
 have hnw := ref2_Norm hw (by omega)
 obtain ⟨z1, z2⟩ := szR_of hv hL
 obtain ⟨y1, y2⟩ := szR_of hw hM
 have g1 := lim_len_mul (a := q.num.natAbs) (b := r.den)
 have g2 := lim_len_mul (a := r.num.natAbs) (b := q.den)
 have g3 := lim_len_mul (a := q.den) (b := r.den)
 have g4 := lim_len_add2 (a := q.num.natAbs * r.den) (b := r.num.natAbs * q.den) (L := L + M) (by omega) (by omega)
 have g5 := lim_len_mono (Nat.sub_le (q.num.natAbs * r.den) (r.num.natAbs * q.den))
 have g6 := lim_len_mono (Nat.sub_le (r.num.natAbs * q.den) (q.num.natAbs * r.den))
 obtain ⟨s, n, d, rfl, -⟩ := hv
 obtain ⟨s', n', d', rfl, -⟩ := hw
 have hbb := beq_bool (decide (q.num < 0)) (decide (r.num < 0))
 refine fni Tryz.f47 ?_; unfold Tryz.f47; simp only [Option.get!_some]
 repeat (first|simp only [go_sem]|simp (disch := first|exact oa|fail) only [AX]|refine wki ?_|refine wqn ?_|refine vpd 1 [] ?_|refine vpd 2 [19, 21, 24, 26] ?_|refine vpd 5 [7, 8, 42, 9] ?_|refine vf_of (by first|exact hnv|exact hnw) ?_)
 refine vf_of (ref1_MulL (by omega) (by omega)) ?_; repeat (first|simp only [go_sem]|simp (disch := first|exact oa|fail) only [AX]|refine wki ?_|refine wqn ?_|refine vpd 1 [] ?_|refine vpd 2 [19, 21, 24, 26] ?_|refine vpd 5 [7, 8, 42, 9] ?_)
 refine vf_of (ref1_MulL (by omega) (by omega)) ?_; repeat (first|simp only [go_sem]|simp (disch := first|exact oa|fail) only [AX]|refine wki ?_|refine wqn ?_|refine vpd 1 [] ?_|refine vpd 2 [19, 21, 24, 26] ?_|refine vpd 5 [7, 8, 42, 9] ?_)
 refine vf_of (ref1_MulL (by omega) (by omega)) ?_; repeat (first|simp only [go_sem, hbb]|simp (disch := first|exact oa|fail) only [AX, hbb]|refine wki ?_|refine wqn ?_|refine vpd 1 [] ?_|refine vpd 2 [19, 21, 24, 26] ?_|refine vpd 5 [7, 8, 42, 9] ?_)
 by_cases hs : decide (q.num < 0) = decide (r.num < 0)
 ·have hOf := ref2_OfL (s := decide (q.num < 0)) (n := q.num.natAbs * r.den + r.num.natAbs * q.den) (d := q.den * r.den) (by omega) (by omega)
  rw [add_same q r hs] at hOf
  rw [decide_eq_true hs]
  repeat (first|simp only [go_sem]|simp (disch := first|exact oa|fail) only [AX]|refine wki ?_|refine wqn ?_|refine vpd 1 [] ?_|refine vpd 2 [19, 21, 24, 26] ?_|refine vpd 5 [7, 8, 42, 9] ?_)
  refine vf_of (ref1_AddL (by omega) (by omega)) ?_; repeat (first|simp only [go_sem]|simp (disch := first|exact oa|fail) only [AX]|refine wki ?_|refine wqn ?_|refine vpd 1 [] ?_|refine vpd 2 [19, 21, 24, 26] ?_|refine vpd 5 [7, 8, 42, 9] ?_)
  refine vf_of (hOf) ?_; repeat (first|simp only [go_sem]|simp (disch := first|exact oa|fail) only [AX]|refine wki ?_|refine wqn ?_|refine vpd 1 [] ?_|refine vpd 2 [19, 21, 24, 26] ?_|refine vpd 5 [7, 8, 42, 9] ?_)
 ·rw [decide_eq_false hs]
  have hc := ref1_CmpL (N := q.num.natAbs * r.den) (D := r.num.natAbs * q.den) (by omega) (by omega)
  repeat (first|simp only [go_sem]|simp (disch := first|exact oa|fail) only [AX]|refine wki ?_|refine wqn ?_|refine vpd 1 [] ?_|refine vpd 2 [19, 21, 24, 26] ?_|refine vpd 5 [7, 8, 42, 9] ?_)
  by_cases h2 : r.num.natAbs * q.den <= q.num.natAbs * r.den
  ·have hOf := ref2_OfL (s := decide (q.num < 0)) (n := q.num.natAbs * r.den - r.num.natAbs * q.den) (d := q.den * r.den) (by omega) (by omega)
   rw [add_ge q r hs h2] at hOf
   have hcc : decide (cmpN (q.num.natAbs * r.den) (r.num.natAbs * q.den) >= 0) = true := by
    have := cmpN_ge h2
    rw [decide_eq_false_iff_not] at this
    exact decide_eq_true (by omega)
   refine vf_of (hc) ?_; repeat (first|simp only [go_sem, hcc]|simp (disch := first|exact oa|fail) only [AX, hcc]|refine wki ?_|refine wqn ?_|refine vpd 1 [] ?_|refine vpd 2 [19, 21, 24, 26] ?_|refine vpd 5 [7, 8, 42, 9] ?_)
   refine vf_of (ref1_SubL (by omega) (by omega)) ?_; repeat (first|simp only [go_sem]|simp (disch := first|exact oa|fail) only [AX]|refine wki ?_|refine wqn ?_|refine vpd 1 [] ?_|refine vpd 2 [19, 21, 24, 26] ?_|refine vpd 5 [7, 8, 42, 9] ?_)
   refine vf_of (hOf) ?_; repeat (first|simp only [go_sem]|simp (disch := first|exact oa|fail) only [AX]|refine wki ?_|refine wqn ?_|refine vpd 1 [] ?_|refine vpd 2 [19, 21, 24, 26] ?_|refine vpd 5 [7, 8, 42, 9] ?_)
  ·have hOf := ref2_OfL (s := decide (r.num < 0)) (n := r.num.natAbs * q.den - q.num.natAbs * r.den) (d := q.den * r.den) (by omega) (by omega)
   rw [add_lt q r hs (by omega)] at hOf
   rw [cmpN_lt (by omega)] at hc
   refine vf_of (hc) ?_; repeat (first|simp only [go_sem]|simp (disch := first|exact oa|fail) only [AX]|refine wki ?_|refine wqn ?_|refine vpd 1 [] ?_|refine vpd 2 [19, 21, 24, 26] ?_|refine vpd 5 [7, 8, 42, 9] ?_)
   refine vf_of (ref1_SubL (by omega) (by omega)) ?_; repeat (first|simp only [go_sem]|simp (disch := first|exact oa|fail) only [AX]|refine wki ?_|refine wqn ?_|refine vpd 1 [] ?_|refine vpd 2 [19, 21, 24, 26] ?_|refine vpd 5 [7, 8, 42, 9] ?_)
   refine vf_of (hOf) ?_; repeat (first|simp only [go_sem]|simp (disch := first|exact oa|fail) only [AX]|refine wki ?_|refine wqn ?_|refine vpd 1 [] ?_|refine vpd 2 [19, 21, 24, 26] ?_|refine vpd 5 [7, 8, 42, 9] ?_)
end Go.Proofs.YtlojijllmadnoaaGreatDoor
namespace Go.Proofs.YtlojijllmadnoaaGreatDoor
open Go.Ev
theorem szR_zero {L : Nat} (h : 1 <= L) : szR 0 L := ⟨by rw [show (0 : Rat).num.natAbs = 0 by rfl, lim_zero]; simp, by rw [show (0 : Rat).den = 1 by rfl, lim_one]; exact h⟩
theorem szR_mul {q r : Rat} {L M : Nat} (h1 : szR q L) (h2 : szR r M) (hL : 1 <= L) : szR (q * r) (L + M) := by
 rw [<- mul_parts]
 have g1 := lim_len_mul (a := q.num.natAbs) (b := r.num.natAbs)
 have g2 := lim_len_mul (a := q.den) (b := r.den)
 obtain ⟨a1, a2⟩ := h1
 obtain ⟨b1, b2⟩ := h2
 exact szR_mk (by omega) (by omega) (by omega)
theorem szR_add {q r : Rat} {L M : Nat} (h1 : szR q L) (h2 : szR r M) (hL : 1 <= L) : szR (q + r) (L + M + 1) := by
 have g1 := lim_len_mul (a := q.num.natAbs) (b := r.den)
 have g2 := lim_len_mul (a := r.num.natAbs) (b := q.den)
 have g3 := lim_len_mul (a := q.den) (b := r.den)
 obtain ⟨a1, a2⟩ := h1
 obtain ⟨b1, b2⟩ := h2
 have g4 := lim_len_add2 (a := q.num.natAbs * r.den) (b := r.num.natAbs * q.den) (L := L + M) (by omega) (by omega)
 have e : q + r = mkRat (sgn (decide (sgn (decide (q.num < 0)) (q.num.natAbs * r.den) + sgn (decide (r.num < 0)) (r.num.natAbs * q.den) < 0)) (sgn (decide (q.num < 0)) (q.num.natAbs * r.den) + sgn (decide (r.num < 0)) (r.num.natAbs * q.den)).natAbs) (q.den * r.den) := by
  rw [sgn_self]; exact add_parts q r
 rw [e]
 refine szR_mk (Nat.le_trans (lim_len_mono ?_) g4) (by omega) (by omega)
 have := Int.natAbs_add_le (sgn (decide (q.num < 0)) (q.num.natAbs * r.den)) (sgn (decide (r.num < 0)) (r.num.natAbs * q.den))
 rw [sgn_abs, sgn_abs] at this
 exact this
theorem szR_sub {q r : Rat} {L M : Nat} (h1 : szR q L) (h2 : szR r M) (hL : 1 <= L) : szR (q - r) (L + M + 1) := by
 rw [Rat.sub_eq_add_neg]
 exact szR_add h1 (szR_neg h2) hL
theorem szR_div {q r : Rat} {L M : Nat} (h1 : szR q L) (h2 : szR r M) (hL : 1 <= L) (hM : 1 <= M) : szR (q / r) (L + M) := by
 by_cases hr : r = 0
 ·rw [hr, Rat.div_def, Rat.inv_zero, Rat.mul_zero]
  exact szR_zero (by omega)
 ·rw [div_parts hr]
  exact szR_mul h1 (szR_mk h2.2 h2.1 hM) hL
theorem ref2_Neg {v : SV} {q : Rat} {L : Nat} (hv : RatA v q L) (hL : 1 <= L) (h : L <= 8388608) : Go.Ev.Fn CX 48 [v] (rv (-q)) := by
 have hnv := ref2_Norm hv (by omega)
 obtain ⟨z1, z2⟩ := szR_of hv hL
 rw [neg_parts]
 obtain ⟨s, n, d, rfl, -⟩ := hv
 refine fni Tryz.f48 ?_; unfold Tryz.f48; simp only [Option.get!_some]
 repeat (first|simp only [go_sem]|simp (disch := first|exact oa|fail) only [AX]|refine wki ?_|refine wqn ?_|refine vf_of (by first|exact hnv) ?_)
 cases hs : decide (q.num < 0)
 ·rcases Nat.eq_zero_or_pos (lim q.num.natAbs).length with h0 | h0
  ·rw [decide_eq_false (show ¬ 0 < (lim q.num.natAbs).length by omega)]
   repeat (first|simp only [go_sem, Bool.not_true, Bool.not_false]|simp (disch := first|exact oa|fail) only [AX, Bool.not_true, Bool.not_false]|refine wki ?_|refine wqn ?_)
  ·rw [decide_eq_true h0]
   repeat (first|simp only [go_sem, Bool.not_true, Bool.not_false]|simp (disch := first|exact oa|fail) only [AX, Bool.not_true, Bool.not_false]|refine wki ?_|refine wqn ?_)
 ·repeat (first|simp only [go_sem, Bool.not_true, Bool.not_false]|simp (disch := first|exact oa|fail) only [AX, Bool.not_true, Bool.not_false]|refine wki ?_|refine wqn ?_)
  rfl
end Go.Proofs.YtlojijllmadnoaaGreatDoor
namespace Go.Proofs.YtlojijllmadnoaaGreatDoor
open Go.Ev
def cmpR (q r : Rat) : Int := if q < r then -1 else if q = r then 0 else 1
theorem sub_num {q r : Rat} : (q - r).num < 0 ↔ q < r := by
 have h : (q - r).num < 0 ↔ q - r < 0 := by
  have := Rat.num_nonneg (q := q - r)
  constructor
  ·intro h
   have h1 : ¬ 0 <= q - r := fun g => absurd (this.2 g) (by omega)
   grind
  ·intro h
   rcases Int.lt_or_le (q - r).num 0 with h1 | h1
   ·exact h1
   ·exact absurd (this.1 h1) (by grind)
 rw [h]
 constructor <;> intro h <;> grind
theorem sub_zero' {q r : Rat} : (q - r).num = 0 ↔ q = r := by
 rw [Rat.num_eq_zero]
 constructor <;> intro h <;> grind
theorem int_szR {n : Int} (h : -9223372036854775808 <= n /\ n <= 9223372036854775808) : szR (n : Rat) 2 := by
 refine ⟨?_, ?_⟩
 ·show (lim n.natAbs).length <= 2
  exact lim_two.2 (by omega)
 ·show (lim 1).length <= 2
  rw [lim_one]; simp
theorem rat_Cmp {v w : SV} {q r : Rat} {L M : Nat} (hv : RatA v q L) (hw : RatA w r M) (hL : 1 <= L) (hM : 1 <= M) (h : L + M <= 268435456) : Go.Ev.Fn CX 10 [v, w] (.int .i64 (cmpR q r)) := by
 have hs := rat_Sub hv hw hL hM h
 have hz := szR_sub (szR_of hv hL) (szR_of hw hM) hL
 obtain ⟨s, n, d, rfl, -⟩ := hv
 obtain ⟨s', n', d', rfl, -⟩ := hw
 obtain ⟨y1, -⟩ := hz
 refine fni Tryz.f10 ?_; unfold Tryz.f10; simp only [Option.get!_some]
 by_cases h1 : q < r
 ·have e : decide ((q - r).num < 0) = true := decide_eq_true (sub_num.2 h1)
  rw [show cmpR q r = -1 from if_pos h1]
  repeat (first|simp only [go_sem, e]|simp (disch := first|exact oa|fail) only [AX, e]|refine wki ?_|refine wqn ?_|refine vf_of (by first|exact hs) ?_)
 ·have e : decide ((q - r).num < 0) = false := decide_eq_false (fun h => h1 (sub_num.1 h))
  by_cases h2 : q = r
  ·have e2 : (lim (q - r).num.natAbs).length = 0 := by rw [sub_zero'.2 h2]; simp [lim_zero]
   rw [show cmpR q r = 0 by unfold cmpR; rw [if_neg h1, if_pos h2]]
   repeat (first|simp only [go_sem, e]|simp (disch := first|exact oa|fail) only [AX, e]|refine wki ?_|refine wqn ?_|refine vf_of (by first|exact hs) ?_)
  ·have e2 := lim_pos (N := (q - r).num.natAbs) (fun h => h2 (sub_zero'.1 (by omega)))
   rw [show cmpR q r = 1 by unfold cmpR; rw [if_neg h1, if_neg h2]]
   repeat (first|simp only [go_sem, e]|simp (disch := first|exact oa|fail) only [AX, e]|refine wki ?_|refine wqn ?_|refine vf_of (by first|exact hs) ?_)
theorem ref2_Sub {v w : SV} {q r : Rat} {L M : Nat} (hv : RatA v q L) (hw : RatA w r M) (hL : 1 <= L) (hM : 1 <= M) (h : L + M <= 8388608) : Go.Ev.Fn CX 21 [v, w] (rv (q - r)) := by
 have hN := ref2_Neg hw hM (by omega)
 have hA := ref2_Add hv (RatA_rv (szR_neg (szR_of hw hM))) hL hM h
 rw [<- Rat.sub_eq_add_neg] at hA
 obtain ⟨s, n, d, rfl, -⟩ := hv
 obtain ⟨s', n', d', rfl, -⟩ := hw
 refine fni Tryz.f21 ?_; unfold Tryz.f21; simp only [Option.get!_some]
 repeat (first|simp only [go_sem]|simp (disch := first|exact oa|fail) only [AX]|refine wki ?_|refine wqn ?_|refine vpd 1 [] ?_|refine vf_of (by first|exact hN|exact hA) ?_)
theorem ref2_Cmp {v w : SV} {q r : Rat} {L M : Nat} (hv : RatA v q L) (hw : RatA w r M) (hL : 1 <= L) (hM : 1 <= M) (h : L + M <= 8388608) : Go.Ev.Fn CX 8 [v, w] (.int .i64 (cmpR q r)) := by
 have hs := ref2_Sub hv hw hL hM h
 have hz := szR_sub (szR_of hv hL) (szR_of hw hM) hL
 obtain ⟨s, n, d, rfl, -⟩ := hv
 obtain ⟨s', n', d', rfl, -⟩ := hw
 obtain ⟨y1, -⟩ := hz
 refine fni Tryz.f8 ?_; unfold Tryz.f8; simp only [Option.get!_some]
 by_cases h2 : q = r
 ·have e2 : (lim (q - r).num.natAbs).length = 0 := by rw [sub_zero'.2 h2]; simp [lim_zero]
  have h1 : ¬ q < r := by grind
  rw [show cmpR q r = 0 by unfold cmpR; rw [if_neg h1, if_pos h2]]
  repeat (first|simp only [go_sem]|simp (disch := first|exact oa|fail) only [AX]|refine wki ?_|refine wqn ?_|refine vf_of (by first|exact hs) ?_)
 ·have e2 := lim_pos (N := (q - r).num.natAbs) (fun h => h2 (sub_zero'.1 (by omega)))
  by_cases h1 : q < r
  ·have e : decide ((q - r).num < 0) = true := decide_eq_true (sub_num.2 h1)
   rw [show cmpR q r = -1 from if_pos h1]
   repeat (first|simp only [go_sem, e]|simp (disch := first|exact oa|fail) only [AX, e]|refine wki ?_|refine wqn ?_|refine vf_of (by first|exact hs) ?_)
  ·have e : decide ((q - r).num < 0) = false := decide_eq_false (fun h => h1 (sub_num.1 h))
   rw [show cmpR q r = 1 by unfold cmpR; rw [if_neg h1, if_neg h2]]
   repeat (first|simp only [go_sem, e]|simp (disch := first|exact oa|fail) only [AX, e]|refine wki ?_|refine wqn ?_|refine vf_of (by first|exact hs) ?_)
theorem cmpR_gt {q r : Rat} : decide (cmpR q r > 0) = decide (r < q) := by
 unfold cmpR
 by_cases h1 : q < r
 ·rw [if_pos h1, decide_eq_false (by decide), decide_eq_false (by grind)]
 ·rw [if_neg h1]
  by_cases h2 : q = r
  ·rw [if_pos h2, decide_eq_false (by decide), decide_eq_false (by grind)]
  ·rw [if_neg h2, decide_eq_true (by decide), decide_eq_true (by grind)]
theorem cmpR_lt {q r : Rat} : decide (cmpR q r < 0) = decide (q < r) := by
 unfold cmpR
 by_cases h1 : q < r
 ·rw [if_pos h1, decide_eq_true (by decide), decide_eq_true h1]
 ·rw [if_neg h1, decide_eq_false h1]
  by_cases h2 : q = r
  ·rw [if_pos h2, decide_eq_false (by decide)]
  ·rw [if_neg h2, decide_eq_false (by decide)]
theorem cmpR_ge {q r : Rat} : decide (cmpR q r >= 0) = decide (r <= q) := by
 unfold cmpR
 by_cases h1 : q < r
 ·rw [if_pos h1, decide_eq_false (by decide), decide_eq_false (by grind)]
 ·rw [if_neg h1, decide_eq_true (show r <= q by grind)]
  by_cases h2 : q = r
  ·rw [if_pos h2, decide_eq_true (by decide)]
  ·rw [if_neg h2, decide_eq_true (by decide)]
theorem cmpR_le {q r : Rat} : decide (cmpR q r <= 0) = decide (q <= r) := by
 unfold cmpR
 by_cases h1 : q < r
 ·rw [if_pos h1, decide_eq_true (by decide), decide_eq_true (show q <= r by grind)]
 ·rw [if_neg h1]
  by_cases h2 : q = r
  ·rw [if_pos h2, decide_eq_true (by decide), decide_eq_true (show q <= r by grind)]
  ·rw [if_neg h2, decide_eq_false (by decide), decide_eq_false (show ¬ q <= r by grind)]
theorem b_and64i {a b : Nat} (ha : a < 9223372036854775808) (hb : b < 9223372036854775808) : bitsSV .and .i64 (a : Int) (b : Int) = some (.int .i64 ((a &&& b : Nat) : Int)) := by
 have h : a &&& b < 2 ^ 63 := Nat.lt_of_le_of_lt Nat.and_le_left ha
 have e : IntKind.i64.wrap ((BitVec.ofInt IntKind.i64.bits (a : Int) &&& BitVec.ofInt IntKind.i64.bits (b : Int)).toNat : Int) = ((a &&& b : Nat) : Int) := by
  show IntKind.i64.wrap ((BitVec.ofInt 64 (a : Int) &&& BitVec.ofInt 64 (b : Int)).toNat : Int) = _
  rw [ofInt_nat, ofInt_nat, BitVec.toNat_and, BitVec.toNat_ofNat, BitVec.toNat_ofNat, Nat.mod_eq_of_lt (show a < 2 ^ 64 by omega), Nat.mod_eq_of_lt (show b < 2 ^ 64 by omega), wI64 (by omega)]
 show some (SV.int _ _) = _
 rw [e]
theorem and_one64 {a : Nat} (ha : a < 9223372036854775808) : bitsSV .and .i64 (a : Int) 1 = some (.int .i64 ((a % 2 : Nat) : Int)) := by
 have := b_and64i ha (b := 1) (by omega)
 rw [and_one] at this
 exact this
theorem lim_len1 : (lim 1).length <= 1 := lim_len_one (by decide)
end Go.Proofs.YtlojijllmadnoaaGreatDoor
namespace Go.Ev
def prodN (a by' : Nat) : Nat -> Nat
 | 0 => 1
 | c + 1 => prodN a by' c * (a + c * by')
theorem prodN_pos {a b : Nat} (ha : 0 < a) : ∀ c, 0 < prodN a b c := by
 intro c
 induction c with
 | zero => exact Nat.one_pos
 | succ c ih => exact Nat.mul_pos ih (by omega)
theorem prodN_len {a b c : Nat} (h : ∀ i, i < c -> a + i * b < 4294967296) : (lim (prodN a b c)).length <= c + 1 := by
 induction c with
 | zero => exact lim_len_one (show 1 < 4294967296 by decide)
 | succ c ih =>
  have h1 := ih fun i hi => h i (by omega)
  have h2 := lim_len_mul (a := prodN a b c) (b := a + c * b)
  have h3 := lim_len_one (h c (by omega))
  show (lim (prodN a b c * (a + c * b))).length <= _
  omega
theorem prodN_front (a b : Nat) : ∀ c, prodN a b (c + 1) = a * prodN (a + b) b c := by
 intro c
 induction c with
 | zero => simp [prodN]
 | succ c ih =>
  show prodN a b (c + 1) * (a + (c + 1) * b) = a * (prodN (a + b) b c * (a + b + c * b))
  rw [ih, Nat.mul_assoc, Nat.add_mul c 1 b, Nat.one_mul, Nat.add_comm (c * b) b, <- Nat.add_assoc]
def cc : Nat -> Nat -> Nat
 | 0, _ => 1
 | _ + 1, 0 => 1
 | m + 1, k + 1 => cc m (k + 1) + cc (m + 1) k
theorem cc_zero (m : Nat) : cc m 0 = 1 := by cases m <;> simp [cc]
theorem cc_succ (m k : Nat) : cc (m + 1) (k + 1) = cc m (k + 1) + cc (m + 1) k := by rw [cc]
theorem cc_symm : ∀ m k, cc m k = cc k m := by
 intro m
 induction m with
 | zero => intro k; rw [cc_zero]; simp [cc]
 | succ m ih =>
  intro k
  induction k with
  | zero => rw [cc_zero]; simp [cc]
  | succ k ihk =>
   rw [cc_succ, cc_succ, ih (k + 1), ihk, Nat.add_comm]
def facN (k : Nat) : Nat := prodN 1 1 k
theorem facN_succ (k : Nat) : facN (k + 1) = facN k * (k + 1) := by
 show prodN 1 1 k * (1 + k * 1) = _
 rw [Nat.mul_one, Nat.add_comm 1 k]
 rfl
theorem facN_pos (k : Nat) : 0 < facN k := prodN_pos (by decide) k
theorem prod_cc : ∀ m k, prodN (m + 1) 1 k = cc m k * facN k := by
 intro m
 induction m with
 | zero => intro k; simp [cc, facN]
 | succ m ih =>
  intro k
  induction k with
  | zero => rw [cc_zero]; rfl
  | succ k ihk =>
   have h1 := ih (k + 1)
   have h2 := prodN_front (m + 1) 1 k
   rw [cc_succ, Nat.add_mul, <- h1, h2, facN_succ, <- Nat.mul_assoc, <- ihk]
   show prodN (m + 1 + 1) 1 k * (m + 1 + 1 + k * 1) = _
   rw [Nat.mul_comm (m + 1), <- Nat.mul_add]
   congr 1
   omega
theorem cc_step (m k : Nat) : cc m (k + 1) * (k + 1) = cc m k * (m + (k + 1)) := by
 have h1 := prod_cc m (k + 1)
 have h2 := prod_cc m k
 have h3 : prodN (m + 1) 1 (k + 1) = prodN (m + 1) 1 k * (m + 1 + k * 1) := rfl
 rw [h3, h2, facN_succ] at h1
 have h4 := facN_pos k
 refine Nat.eq_of_mul_eq_mul_right h4 ?_
 rw [Nat.mul_assoc, Nat.mul_comm (k + 1), <- h1, Nat.mul_right_comm]
 congr 1
 congr 1
 omega
theorem cc_le {m k : Nat} : cc m k <= prodN (m + 1) 1 k := by
 rw [prod_cc]
 exact Nat.le_mul_of_pos_right _ (facN_pos k)
def chR (n k : Int) : Nat := if 0 <= n /\ n <= 512 /\ 0 <= k /\ k <= n then cc (n - k).toNat k.toNat else 0
end Go.Ev
namespace Go.Ev
def termN (p f n j : Nat) : Nat := cc (n - j) j * p ^ j * f ^ (n - j)
def sumN (p f n : Nat) : Nat -> Nat
 | 0 => 0
 | k + 1 => sumN p f n k + termN p f n k
theorem cc_move (m j : Nat) : cc (m + 1) j * (m + 1) = cc m (j + 1) * (j + 1) := by
 rw [cc_step, cc_symm (m + 1) j, cc_step, cc_symm j m]
 congr 1
 omega
theorem ways_step {p n j : Nat} (h : j < n) : cc (n - j) j * p ^ j * p * (n - j) / (j + 1) = cc (n - (j + 1)) (j + 1) * p ^ (j + 1) := by
 obtain ⟨m, hm⟩ : ∃ m, n - j = m + 1 := ⟨n - j - 1, by omega⟩
 rw [hm, show n - (j + 1) = m by omega]
 have h1 := cc_move m j
 have e : cc (m + 1) j * p ^ j * p * (m + 1) = cc m (j + 1) * p ^ (j + 1) * (j + 1) := by
  rw [Nat.mul_assoc (cc (m + 1) j), <- Nat.pow_succ, Nat.mul_right_comm, h1, Nat.mul_right_comm]
 rw [e, Nat.mul_div_cancel _ (by omega)]
theorem sumN_all : ∀ (p f n : Nat), sumN p f n (n + 1) = (p + f) ^ n := by
 have hz : ∀ p f n k, (∀ j, j < k -> n < j -> termN p f n j = 0) -> True := fun _ _ _ _ _ => trivial
 intro p f n
 have key : ∀ n k, k <= n -> sumN p f (n + 1) (k + 1) = f * sumN p f n (k + 1) + p * sumN p f n k := by
  intro n k hk
  induction k with
  | zero =>
   show 0 + termN p f (n + 1) 0 = f * (0 + termN p f n 0) + p * 0
   unfold termN
   simp only [Nat.sub_zero, cc_zero, Nat.pow_zero, Nat.mul_one, Nat.one_mul, Nat.zero_add, Nat.mul_zero, Nat.add_zero]
   rw [Nat.pow_succ, Nat.mul_comm]
  | succ k ih =>
   have h1 := ih (by omega)
   have h2 : termN p f (n + 1) (k + 1) = f * termN p f n (k + 1) + p * termN p f n k := by
    unfold termN
    obtain ⟨m, rfl⟩ : ∃ m, n = m + (k + 1) := ⟨n - (k + 1), by omega⟩
    rw [show m + (k + 1) + 1 - (k + 1) = m + 1 by omega, show m + (k + 1) - (k + 1) = m by omega, show m + (k + 1) - k = m + 1 by omega, cc_succ, Nat.add_mul, Nat.add_mul]
    rw [Nat.pow_succ f m, Nat.pow_succ p k]
    have e1 : cc m (k + 1) * (p ^ k * p) * (f ^ m * f) = f * (cc m (k + 1) * (p ^ k * p) * f ^ m) := by
     rw [<- Nat.mul_assoc, Nat.mul_comm]
    have e2 : cc (m + 1) k * (p ^ k * p) * (f ^ m * f) = p * (cc (m + 1) k * p ^ k * (f ^ m * f)) := by
     rw [<- Nat.mul_assoc (cc (m + 1) k), Nat.mul_comm (cc (m + 1) k * p ^ k) p, Nat.mul_assoc p]
    rw [e1, e2]
   show sumN p f (n + 1) (k + 1) + termN p f (n + 1) (k + 1) = f * (sumN p f n (k + 1) + termN p f n (k + 1)) + p * (sumN p f n k + termN p f n k)
   rw [h1, h2, Nat.mul_add, Nat.mul_add]
   omega
 induction n with
 | zero => show 0 + termN p f 0 0 = 1; simp [termN, cc]
 | succ n ih =>
  have h1 := key n n (Nat.le_refl _)
  have h2 : termN p f (n + 1) (n + 1) = p * termN p f n n := by
   unfold termN
   simp only [Nat.sub_self, Nat.pow_zero, Nat.mul_one]
   rw [show cc 0 (n + 1) = 1 by simp [cc], show cc 0 n = 1 by simp [cc], Nat.one_mul, Nat.one_mul, Nat.pow_succ, Nat.mul_comm]
  show sumN p f (n + 1) (n + 1) + termN p f (n + 1) (n + 1) = _
  rw [h1, h2, Nat.add_assoc, <- Nat.mul_add]
  show f * sumN p f n (n + 1) + p * sumN p f n (n + 1) = _
  rw [ih, <- Nat.add_mul, Nat.pow_succ, Nat.mul_comm, Nat.add_comm f p]
theorem sumN_mono (p f n : Nat) {a b : Nat} (h : a <= b) : sumN p f n a <= sumN p f n b := by
 induction b with
 | zero => have : a = 0 := (by omega); subst this; exact Nat.le_refl _
 | succ b ih =>
  rcases Nat.lt_or_ge b a with h1 | h1
  ·have : a = b + 1 := by omega
   subst this; exact Nat.le_refl _
  ·exact Nat.le_trans (ih h1) (Nat.le_add_right _ _)
end Go.Ev
namespace Go.Proofs.YtlojijllmadnoaaGreatDoor
open Go.Ev
theorem fix_Less {N D : Nat} (hl : (lim N).length <= 536870912) (hm : (lim D).length <= 536870912) : Go.Ev.Fn CX 58 [natV (lim N), natV (lim D)] (natV (lim (N - D))) := by
 have h := nat_SubL hl hm
 refine fni Tryz.f58 ?_; unfold Tryz.f58; simp only [Option.get!_some]
 repeat (first|simp only [go_sem]|simp (disch := first|exact oa|fail) only [AX]|refine wki ?_|refine wqn ?_|refine vf_of (by first|exact h) ?_)
theorem fix_Over {N D : Nat} (hD : D ≠ 0) (hl : (lim N).length <= 536870912) (hm : (lim D).length <= 536870912) : Go.Ev.Fn CX 60 [natV (lim N), natV (lim D)] (natV (lim (N / D))) := by
 have h := nat_DivL hD hl hm
 refine fni Tryz.f60 ?_; unfold Tryz.f60; simp only [Option.get!_some]
 repeat (first|simp only [go_sem]|simp (disch := first|exact oa|fail) only [AX]|refine wki ?_|refine wqn ?_|refine vf_of (by first|exact h) ?_)
def tryD (n : Int) (x : Rat) : Bool := decide (0 <= n) && (decide (n <= 256) && (decide (0 <= x) && decide (x <= 1)))
theorem disc_isTry {v : SV} {x : Rat} {L : Nat} {n : Int} (hv : RatA v x L) (hL : 1 <= L) (h : L <= 1048576) : Go.Ev.Fn CX 26 [.int .i64 n, v] (.bool (tryD n x)) := by
 have r0 := rat_Int 0 (by omega)
 have r1 := rat_Int 1 (by omega)
 have c0 := rat_Cmp hv (RatA_rv (int_szR (n := 0) (by omega))) hL (by omega) (by omega)
 have c1 := rat_Cmp hv (RatA_rv (int_szR (n := 1) (by omega))) hL (by omega) (by omega)
 have e0 : decide (cmpR x ((0 : Int) : Rat) >= 0) = decide (0 <= x) := cmpR_ge
 have e1 : decide (cmpR x ((1 : Int) : Rat) <= 0) = decide (x <= 1) := cmpR_le
 unfold tryD
 obtain ⟨s, y, d, rfl, -⟩ := hv
 refine fni Tryz.f26 ?_; unfold Tryz.f26; simp only [Option.get!_some]
 by_cases h1 : 0 <= n
 ·rw [decide_eq_true h1, Bool.true_and]
  by_cases h2 : n <= 256
  ·rw [decide_eq_true h2, Bool.true_and]
   generalize decide (0 <= x) = b at *
   cases b
   ·rw [Bool.false_and]
    repeat (first|simp only [go_sem, e0]|simp (disch := first|exact oa|fail) only [AX, e0]|refine wki ?_|refine wqn ?_|refine vpd 1 [] ?_|refine vf_of (by first|exact r0|exact c0) ?_)
   ·rw [Bool.true_and]
    repeat (first|simp only [go_sem, e0, e1]|simp (disch := first|exact oa|fail) only [AX, e0, e1]|refine wki ?_|refine wqn ?_|refine vpd 1 [] ?_|refine vf_of (by first|exact r0|exact c0|exact r1|exact c1) ?_)
  ·rw [decide_eq_false h2, Bool.false_and]
   repeat (first|simp only [go_sem]|simp (disch := first|exact oa|fail) only [AX]|refine wki ?_|refine wqn ?_|refine vpd 1 [] ?_)
 ·rw [decide_eq_false h1, Bool.false_and]
  repeat (first|simp only [go_sem]|simp (disch := first|exact oa|fail) only [AX]|refine wki ?_|refine wqn ?_|refine vpd 1 [] ?_)
theorem pow_lim_len (x n : Nat) : (lim (x ^ n)).length <= (lim x).length * n + 1 := by
 induction n with
 | zero => rw [Nat.pow_zero]; have := lim_len_one (a := 1) (by decide); omega
 | succ n ih =>
  have := lim_len_mul (a := x ^ n) (b := x)
  rw [Nat.pow_succ, Nat.mul_succ]
  omega
theorem disc_power (x : Nat) (n : Nat) (hn : n <= 256) (hx : (lim x).length <= 1000) : Go.Ev.Fn CX 56 [natV (lim x), .int .i64 (n : Int)] (natV (lim (x ^ n))) := by
 have o1 := nat_Of 1 (by omega)
 refine fni Tryz.f56 ?_; unfold Tryz.f56; simp only [Option.get!_some]
 repeat (first|simp only [go_sem]|simp (disch := first|exact oa|fail) only [AX]|refine wki ?_|refine wqn ?_|refine vf_of (by first|exact o1) ?_)
 refine vp_loop_inv (fun s => ∃ e A N : Nat, s.tmp 0 = .sv (natV (lim (x ^ e))) /\ s.tmp 1 = .sv (.int .i64 (N : Int)) /\ s.tmp 5 = .sv (natV (lim (x ^ A))) /\ A + e * N = n /\ (N = 0 \/ e <= n) /\ e <= 512 /\ 1 <= e)
  (fun s => match s.tmp 1 with | .sv (.int _ n) => n.toNat | _ => 0) ⟨1, 0, n, by rw [Nat.pow_one]; rfl, rfl, by rw [Nat.pow_zero]; rfl, by omega, by omega, by omega, by omega⟩ ?_
 rintro s ⟨e, A, N, i0, i1, i5, hs, he, he2, he1⟩
 rcases Nat.eq_zero_or_pos N with rfl | h0
 ·rw [show A = n by omega] at i5
  repeat (first|simp only [go_sem, i0, i1, i5]|simp (disch := first|exact oa|fail) only [AX, i0, i1, i5]|refine wki ?_|refine wqn ?_)
 ·have heN : e <= n := by omega
  have hA : A <= n := by omega
  have hNe : 1 * N <= e * N := Nat.mul_le_mul_right _ he1
  have l1 := pow_lim_len x e
  have l2 := pow_lim_len x A
  have k1 : (lim x).length * e <= 1000 * 256 := Nat.mul_le_mul hx (by omega)
  have k2 : (lim x).length * A <= 1000 * 256 := Nat.mul_le_mul hx (by omega)
  have m1 := nat_MulL (N := x ^ A) (D := x ^ e) (by omega) (by omega)
  have m2 := nat_MulL (N := x ^ e) (D := x ^ e) (by omega) (by omega)
  rw [<- Nat.pow_add] at m1 m2
  have ha := and_one64 (a := N) (by omega)
  have hN2 : N = 2 * (N / 2) + N % 2 := by omega
  have hs2 : e * N = (e + e) * (N / 2) + e * (N % 2) := by
   conv => lhs; rw [hN2]
   rw [Nat.mul_add, Nat.add_mul, <- Nat.mul_assoc, Nat.mul_comm e 2, Nat.two_mul, Nat.add_mul]
  have hshr : (N : Int).fdiv 2 = ((N / 2 : Nat) : Int) := fdiv_nat N 2
  have hbig : N / 2 = 0 \/ e + e <= n := by
   rcases Nat.eq_zero_or_pos (N / 2) with h | h
   ·exact .inl h
   ·right
    have : (e + e) * 1 <= (e + e) * (N / 2) := Nat.mul_le_mul_left _ h
    omega
  rcases Nat.mod_two_eq_zero_or_one N with hp | hp
  ·rw [hp] at ha hs2
   clear hN2
   repeat (first|simp only [go_sem, i0, i1, i5, ha, hshr]|simp (disch := first|exact oa|fail) only [AX, i0, i1, i5, ha, hshr]|refine wki ?_|refine wqn ?_|refine vf_of (by first|exact m2) ?_)
   exact ⟨⟨e + e, A, N / 2, rfl, rfl, rfl, by omega, by omega, by omega, by omega⟩, by omega⟩
  ·rw [hp] at ha hs2
   clear hN2
   repeat (first|simp only [go_sem, i0, i1, i5, ha, hshr]|simp (disch := first|exact oa|fail) only [AX, i0, i1, i5, ha, hshr]|refine wki ?_|refine wqn ?_|refine vf_of (by first|exact m1|exact m2) ?_)
   exact ⟨⟨e + e, A + e, N / 2, rfl, rfl, rfl, by omega, by omega, by omega, by omega⟩, by omega⟩
end Go.Proofs.YtlojijllmadnoaaGreatDoor
namespace Go.Ev
theorem mk_mul (a : Int) {D : Nat} (hD : D ≠ 0) : mkRat a D * ((D : Nat) : Rat) = (a : Rat) := by
 rw [Rat.mkRat_eq_div]
 exact Rat.div_mul_cancel (by exact_mod_cast hD)
theorem le_mul_iff {x y c : Rat} (hc : 0 < c) : x <= y ↔ x * c <= y * c := by
 constructor
 ·intro h
  exact Rat.mul_le_mul_of_nonneg_right h (by grind)
 ·intro h
  rcases Rat.le_total (a := x) (b := y) with h1 | h1
  ·exact h1
  ·have h2 := Rat.mul_le_mul_of_nonneg_right h1 (by grind : (0 : Rat) <= c)
   have h3 : (x - y) * c = 0 := by grind
   rcases Rat.mul_eq_zero.1 h3 with h4 | h4 <;> grind
theorem mk_le {a b : Int} {D : Nat} (hD : 0 < D) : mkRat a D <= mkRat b D ↔ a <= b := by
 have hc : (0 : Rat) < ((D : Nat) : Rat) := by exact_mod_cast hD
 rw [le_mul_iff hc, mk_mul _ (by omega), mk_mul _ (by omega)]
 exact Rat.intCast_le_intCast
theorem mk_self {D : Nat} (hD : 0 < D) : mkRat (D : Int) D = 1 := by
 rw [Rat.mkRat_eq_div]
 have hc : ((D : Nat) : Rat) ≠ 0 := by exact_mod_cast (show D ≠ 0 by omega)
 have e : (((D : Nat) : Int) : Rat) = ((D : Nat) : Rat) := rfl
 rw [e]
 rw [Rat.div_def]
 exact Rat.mul_inv_cancel _ hc
def cdfB (n : Nat) (k : Int) (x : Rat) : Rat := if k < 0 then 0 else if (n : Int) <= k then 1 else mkRat (sumN x.num.natAbs (x.den - x.num.natAbs) n (k.toNat + 1) : Nat) (x.den ^ n)
theorem unit_num {x : Rat} (h0 : 0 <= x) (h1 : x <= 1) : x.num.natAbs <= x.den /\ (x.num.natAbs : Int) = x.num := by
 have h2 := Rat.num_nonneg.2 h0
 have h3 := (Rat.le_iff x 1).1 h1
 rw [show (1 : Rat).den = 1 from rfl, show (1 : Rat).num = 1 from rfl] at h3
 omega
theorem den_pos (x : Rat) (n : Nat) : 0 < x.den ^ n := Nat.pow_pos (Nat.pos_of_ne_zero x.den_nz)
theorem cdfB_mono {n : Nat} {x : Rat} (h0 : 0 <= x) (h1 : x <= 1) {i j : Nat} (h : i <= j) : cdfB n i x <= cdfB n j x := by
 obtain ⟨hle, -⟩ := unit_num h0 h1
 unfold cdfB
 rw [if_neg (show ¬ ((i : Nat) : Int) < 0 by omega), if_neg (show ¬ ((j : Nat) : Int) < 0 by omega)]
 by_cases hj : (n : Int) <= j
 ·rw [if_pos hj]
  by_cases hi : (n : Int) <= i
  ·rw [if_pos hi]
   exact Rat.le_refl
  ·rw [if_neg hi, <- mk_self (den_pos x n), mk_le (den_pos x n)]
   have h2 := sumN_mono x.num.natAbs (x.den - x.num.natAbs) n (show i + 1 <= n + 1 by omega)
   rw [sumN_all, show x.num.natAbs + (x.den - x.num.natAbs) = x.den by omega] at h2
   rw [Int.toNat_natCast]
   exact Int.ofNat_le.2 h2
 ·rw [if_neg hj, if_neg (show ¬ (n : Int) <= i by omega), mk_le (den_pos x n)]
  have h2 := sumN_mono x.num.natAbs (x.den - x.num.natAbs) n (show i + 1 <= j + 1 by omega)
  rw [Int.toNat_natCast, Int.toNat_natCast]
  exact Int.ofNat_le.2 h2
def isLeast (n : Nat) (x q : Rat) (k : Nat) : Prop := k <= n /\ (∀ j : Nat, j < k -> cdfB n j x < q) /\ (k = n \/ q <= cdfB n k x)
theorem isLeast_unique {n : Nat} {x q : Rat} {k l : Nat} (hk : isLeast n x q k) (hl : isLeast n x q l) : k = l := by
 obtain ⟨k1, k2, k3⟩ := hk
 obtain ⟨l1, l2, l3⟩ := hl
 rcases Nat.lt_trichotomy k l with h | h | h
 ·have := l2 k h
  rcases k3 with h3 | h3
  ·omega
  ·exfalso; grind
 ·exact h
 ·have := k2 l h
  rcases l3 with h3 | h3
  ·omega
  ·exfalso; grind
theorem cdfB_ge {n k : Nat} {x q : Rat} (hk : k < n) : q <= cdfB n k x ↔ q.num * ((x.den ^ n : Nat) : Int) <= ((sumN x.num.natAbs (x.den - x.num.natAbs) n (k + 1) * q.den : Nat) : Int) := by
 unfold cdfB
 rw [if_neg (by omega), if_neg (by omega), Int.toNat_natCast]
 have hD := den_pos x n
 generalize x.den ^ n = D at *
 generalize sumN x.num.natAbs (x.den - x.num.natAbs) n (k + 1) = S
 have hc : (0 : Rat) < ((D : Nat) : Rat) := by exact_mod_cast hD
 have hq : (0 : Rat) < ((q.den : Nat) : Rat) := by exact_mod_cast Nat.pos_of_ne_zero q.den_nz
 rw [le_mul_iff hc, mk_mul _ (by omega), le_mul_iff hq]
 have e1 : q * ((D : Nat) : Rat) * ((q.den : Nat) : Rat) = ((q.num * ((D : Nat) : Int) : Int) : Rat) := by
  have h := mk_mul q.num q.den_nz
  rw [Rat.mkRat_self] at h
  rw [Rat.intCast_mul, <- h, Rat.intCast_natCast]
  grind
 have e2 : (((S : Nat) : Int) : Rat) * ((q.den : Nat) : Rat) = (((S * q.den : Nat) : Int) : Rat) := by
  rw [Int.natCast_mul, Rat.intCast_mul]
  rfl
 rw [e1, e2]
 exact Rat.intCast_le_intCast
end Go.Ev
namespace Go.Proofs.YtlojijllmadnoaaGreatDoor
open Go.Ev
abbrev rowsC (g : Nat -> Nat) (i : Nat) : List SV := (List.range i).map fun j => natV (lim (g j))
theorem rows_len (g : Nat -> Nat) (i : Nat) : (rowsC g i).length = i := by simp [rowsC]
theorem rows_at (g : Nat -> Nat) {i j : Nat} (h : j < i) : ((rowsC g i).drop j).head? = some (natV (lim (g j))) := by
 rw [List.head?_drop]
 simp [rowsC, h]
theorem rows_snoc (g : Nat -> Nat) (i : Nat) : rowsC g i ++ [natV (lim (g i))] = rowsC g (i + 1) := by simp [rowsC, List.range_succ]
theorem cc_lim {m k : Nat} (h : m + k <= 1048576) : (lim (cc m k)).length <= k + 1 :=
 Nat.le_trans (lim_len_mono cc_le) (prodN_len fun i hi => by omega)
theorem disc_tries {v : SV} {x : Rat} {L : Nat} {n k : Nat} (hv : RatA v x L) (hL : 1 <= L) (hL2 : L <= 100) (hn : n <= 256) (hk : k <= n) (hx : x.num.natAbs <= x.den) :
  Go.Ev.Fn CX 28 [.int .i64 (n : Int), .int .i64 (k : Int), v] (.sl (k + 1) (rowsC (termN x.num.natAbs (x.den - x.num.natAbs) n) (k + 1))) := by
 have hN := rat_Norm hv (by omega)
 obtain ⟨z1, z2⟩ := szR_of hv hL
 have o1 := nat_Of 1 (by omega)
 have l1 := lim_len1
 have hf := lim_len_mono (Nat.sub_le x.den x.num.natAbs)
 obtain ⟨s, y, d, rfl, -⟩ := hv
 generalize hp : x.num.natAbs = p at *
 generalize hd : x.den = D at *
 have hLess := fix_Less (N := D) (D := p) (by omega) (by omega)
 generalize hff : D - p = f at *
 refine fni Tryz.f28 ?_; unfold Tryz.f28; simp only [Option.get!_some]
 repeat (first|simp only [go_sem, hp, hd]|simp (disch := first|exact oa|fail) only [AX, hp, hd]|refine wki ?_|refine wqn ?_|refine vf_of (by first|exact hN|exact hLess|exact o1) ?_)
 have lfp : ∀ i, i <= n -> (lim (f ^ i)).length <= 25601 := by
  intro i hi
  have h1 := pow_lim_len f i
  have h2 : (lim f).length * i <= 100 * 256 := Nat.mul_le_mul (by omega) (by omega)
  omega
 have lpp : ∀ i, i <= n -> (lim (p ^ i)).length <= 25601 := by
  intro i hi
  have h1 := pow_lim_len p i
  have h2 : (lim p).length * i <= 100 * 256 := Nat.mul_le_mul (by omega) (by omega)
  omega
 have lw : ∀ j, j <= n -> (lim (cc (n - j) j * p ^ j)).length <= 26000 := by
  intro j hj
  have h1 := lim_len_mul (a := cc (n - j) j) (b := p ^ j)
  have h2 := cc_lim (m := n - j) (k := j) (by omega)
  have h3 := lpp j hj
  omega
 refine vp_loop_inv (fun s' => s'.tmp 0 = .sv (.int .i64 (n : Int)) /\ s'.tmp 1 = .sv (.int .i64 (k : Int)) /\ s'.tmp 7 = .sv (natV (lim p)) /\ s'.tmp 8 = .sv (natV (lim f)) /\ s'.gen 54 = 0 /\
   ∃ i : Nat, 1 <= i /\ i <= n + 1 /\ s'.tmp 9 = .ref 22 0 1 0 i /\ s'.obj 22 0 = some (rowsC (fun j => f ^ j) i))
  (fun s => match s.tmp 9 with | .ref _ _ _ _ i => n + 1 - i | _ => 0) ⟨rfl, rfl, rfl, rfl, rfl, 1, by omega, by omega, rfl, rfl⟩ ?_
 rintro s' ⟨i0, i1, i7, i8, ig, i, hi1, hi2, i9, iO⟩
 have hlen := rows_len (fun j => f ^ j) i
 by_cases hend : i = n + 1
 ·subst hend
  repeat (first|simp only [go_sem, i0, i1, i7, i8, i9, iO]|simp (disch := first|exact oa|fail) only [AX, i0, i1, i7, i8, i9, iO]|refine wki ?_|refine wqn ?_|refine vf_of (by first|exact o1) ?_)
  refine vp_loop_inv (fun s2 => s2.tmp 0 = .sv (.int .i64 (n : Int)) /\ s2.tmp 1 = .sv (.int .i64 (k : Int)) /\ s2.tmp 7 = .sv (natV (lim p)) /\ s2.tmp 9 = .ref 22 0 1 0 (n + 1) /\ s2.obj 22 0 = some (rowsC (fun j => f ^ j) (n + 1)) /\
    ∃ j W : Nat, s2.tmp 12 = .sv (.int .i64 (j : Int)) /\ s2.tmp 10 = .sv (natV (lim W)) /\ (j <= n -> W = cc (n - j) j * p ^ j) /\ j <= k + 1 /\ (lim W).length <= 60000 /\
     ((j = 0 /\ s2.tmp 11 = .nil /\ s2.gen 54 = 0) \/ (0 < j /\ s2.tmp 11 = .ref 54 0 1 0 j /\ s2.obj 54 0 = some (rowsC (termN p f n) j))))
   (fun s => match s.tmp 12 with | .sv (.int _ i) => k + 1 - i.toNat | _ => 0) ⟨i0, i1, i7, i9, iO, 0, 1, rfl, rfl, fun _ => by rw [cc_zero, Nat.pow_zero], by omega, by omega, .inl ⟨rfl, rfl, ig⟩⟩ ?_
  rintro s2 ⟨j0, j1, j7, j9, jO, j, W, j12, j10, hW, hj, hlW, hl⟩
  by_cases hend2 : j = k + 1
  ·subst hend2
   rcases hl with ⟨h0, _⟩ | ⟨_, j11, jL⟩
   ·omega
   ·repeat (first|simp only [go_sem, j0, j1, j7, j9, jO, j12, j10, j11, jL]|simp (disch := first|exact oa|fail) only [AX, j0, j1, j7, j9, jO, j12, j10, j11, jL]|refine wki ?_|refine wqn ?_)
    refine ro_ref (cs := rowsC (termN p f n) (k + 1)) (by decide) ?_ ?_
    ·simp only [go_sem, j11, jL]
    ·rw [List.drop_zero, Nat.mul_one, List.take_of_length_le (Nat.le_of_eq (rows_len _ _))]
  ·have hjn : j <= n := by omega
   have hWj := hW hjn
   have hat := rows_at (fun j => f ^ j) (i := n + 1) (j := n - j) (by omega)
   have hle2 := rows_len (fun j => f ^ j) (n + 1)
   have hsn := rows_snoc (termN p f n) j
   have hrl := rows_len (termN p f n) j
   have hl2 := lfp (n - j) (by omega)
   have hM1 := nat_MulL (N := W) (D := f ^ (n - j)) (by omega) (by omega)
   have hterm : W * f ^ (n - j) = termN p f n j := by rw [hWj]; rfl
   rw [hterm] at hM1
   have hM2 := nat_MulL (N := W) (D := p) (by omega) (by omega)
   have g2 := lim_len_mul (a := W) (b := p)
   have oN := nat_Of (n - j) (by omega)
   have lN := lim_len_one (a := n - j) (by omega)
   have hM3 := nat_MulL (N := W * p) (D := n - j) (by omega) (by omega)
   have g3 := lim_len_mul (a := W * p) (b := n - j)
   have oJ := nat_Of (j + 1) (by omega)
   have lJ := lim_len_one (a := j + 1) (by omega)
   have hO := fix_Over (N := W * p * (n - j)) (D := j + 1) (by omega) (by omega) (by omega)
   have hnew : j + 1 <= n -> W * p * (n - j) / (j + 1) = cc (n - (j + 1)) (j + 1) * p ^ (j + 1) := fun h => by rw [hWj, ways_step (by omega)]
   have hWl : (lim (W * p * (n - j) / (j + 1))).length <= 60000 := by
    rcases Nat.lt_or_ge j n with h | h
    ·rw [hnew h]
     have := lw (j + 1) h
     omega
    ·rw [show n - j = 0 by omega, Nat.mul_zero, Nat.zero_div, lim_zero]
     simp
   generalize W * p * (n - j) / (j + 1) = W2 at *
   have e3 : ((n - j : Nat) : Int) % 18446744073709551616 = ((n - j : Nat) : Int) := by omega
   rcases hl with ⟨h0, j11, jg⟩ | ⟨hj0, j11, jL⟩
   ·subst h0
    simp only [Nat.sub_zero] at hat hM1 oN hM3 hO
    repeat (first|simp only [go_sem, j0, j1, j7, j9, jO, j12, j10, j11, jg, N0, hat, hsn, hrl]|simp (disch := first|exact oa|fail) only [AX, j0, j1, j7, j9, jO, j12, j10, j11, jg, N0, hat, hsn, hrl]|refine wki ?_|refine wqn ?_|refine vf_of (by first|exact hM1|exact hM2|exact oN|exact hM3|exact oJ|exact hO) ?_)
    exact ⟨⟨1, W2, rfl, rfl, hnew, by omega, hWl, .inr ⟨by omega, rfl, rfl⟩⟩, by omega⟩
   ·repeat (first|simp only [go_sem, j0, j1, j7, j9, jO, j12, j10, j11, jL, N0, hat]|simp (disch := first|exact oa|fail) only [AX, j0, j1, j7, j9, jO, j12, j10, j11, jL, N0, hat]|refine wki ?_|refine wqn ?_)
    repeat (first|simp only [go_sem, j0, j1, j7, j9, jO, j12, j10, j11, jL, N0, hat, hsn, hrl]|simp (disch := first|exact oa|fail) only [AX, j0, j1, j7, j9, jO, j12, j10, j11, jL, N0, hat, hsn, hrl]|refine wki ?_|refine wqn ?_|refine vf_of (by first|exact hM1|exact hM2|exact oN|exact hM3|exact oJ|exact hO) ?_)
    exact ⟨⟨j + 1, W2, rfl, rfl, hnew, by omega, hWl, .inr ⟨by omega, rfl, rfl⟩⟩, by omega⟩
 ·have hat := rows_at (fun j => f ^ j) (i := i) (j := i - 1) (by omega)
  have hsn := rows_snoc (fun j => f ^ j) i
  have hl1 := lfp (i - 1) (by omega)
  have hM := nat_MulL (N := f ^ (i - 1)) (D := f) (by omega) (by omega)
  rw [<- Nat.pow_succ, show (i - 1).succ = i by omega] at hM
  repeat (first|simp only [go_sem, i0, i1, i7, i8, i9, iO, N0, hat, hsn, hlen]|simp (disch := first|exact oa|fail) only [AX, i0, i1, i7, i8, i9, iO, N0, hat, hsn, hlen]|refine wki ?_|refine wqn ?_|refine vf_of (by first|exact hM) ?_)
  exact ⟨⟨ig, i + 1, by omega, by omega, rfl, rfl⟩, by omega⟩
theorem term_len {p f n : Nat} (hn : n <= 256) (hp : (lim p).length <= 100) (hf : (lim f).length <= 100) (j : Nat) (hj : j <= n) : (lim (termN p f n j)).length <= 90000 := by
 have h1 := pow_lim_len p j
 have h2 : (lim p).length * j <= 100 * 256 := Nat.mul_le_mul hp (by omega)
 have h3 := pow_lim_len f (n - j)
 have h4 : (lim f).length * (n - j) <= 100 * 256 := Nat.mul_le_mul hf (by omega)
 have h5 := cc_lim (m := n - j) (k := j) (by omega)
 have h6 := lim_len_mul (a := cc (n - j) j) (b := p ^ j)
 have h7 := lim_len_mul (a := cc (n - j) j * p ^ j) (b := f ^ (n - j))
 unfold termN
 omega
theorem disc_sum {v : SV} {x : Rat} {L : Nat} {n k : Nat} {g : Nat -> Nat} {S : Nat -> Nat} (hv : RatA v x L) (hL : 1 <= L) (hL2 : L <= 100) (hn : n <= 256) (hk : k <= 1000) (hS0 : S 0 = 0) (hS : ∀ j, S (j + 1) = S j + g j) (hg : ∀ j, j < k -> (lim (g j)).length <= 90000) (hSl : ∀ j, j <= k -> (lim (S j)).length <= 100000) :
  Go.Ev.Fn CX 27 [.int .i64 (n : Int), v, .sl k (rowsC g k)] (rv (mkRat (S k : Nat) (x.den ^ n))) := by
 have hN := rat_Norm hv (by omega)
 obtain ⟨z1, z2⟩ := szR_of hv hL
 obtain ⟨s, y, d, rfl, -⟩ := hv
 have hpw := disc_power x.den n hn (by omega)
 have hpl := pow_lim_len x.den n
 have hpl2 : (lim x.den).length * n <= 100 * 256 := Nat.mul_le_mul (by omega) hn
 have hOf := rat_OfL (s := false) (n := S k) (d := x.den ^ n) (by have := hSl k (Nat.le_refl k); omega) (by omega)
 rw [show sgn false (S k) = ((S k : Nat) : Int) from rfl] at hOf
 refine fni Tryz.f27 ?_; unfold Tryz.f27; simp only [Option.get!_some]
 repeat (first|simp only [go_sem]|simp (disch := first|exact oa|fail) only [AX]|refine wki ?_|refine wqn ?_)
 refine vp_loop_inv (fun s' => s'.tmp 0 = .sv (.int .i64 (n : Int)) /\ s'.tmp 4 = .ptr 4 0 0 /\ s'.obj 4 0 = some [.bool s, natV y, natV d] /\ s'.tmp 6 = .ptr 6 0 0 /\ s'.obj 6 0 = some [.bool false, .sl 0 [], .sl 0 []] /\ s'.tmp 10 = .sv (.sl k (rowsC g k)) /\ s'.tmp 11 = .sv (.int .i64 (k : Int)) /\
   ∃ i : Nat, s'.tmp 12 = .sv (.int .i64 (i : Int)) /\ i <= k /\ ((i = 0 /\ s'.tmp 7 = .nil) \/ s'.tmp 7 = .sv (natV (lim (S i)))))
  (fun s => match s.tmp 12 with | .sv (.int _ i) => k - i.toNat | _ => 0) ⟨rfl, rfl, rfl, rfl, rfl, rfl, rfl, 0, rfl, by omega, .inl ⟨rfl, rfl⟩⟩ ?_
 rintro s' ⟨i0, i4, iP, i6, iR, i10, i11, i, i12, hi, h7⟩
 by_cases hend : i = k
 ·subst hend
  rcases h7 with ⟨h0, i7⟩ | i7
  ·rw [h0, hS0, lim_zero] at hOf
   rw [h0, hS0]
   repeat (first|simp only [go_sem, i0, i4, iP, i6, iR, i10, i11, i12, i7]|simp (disch := first|exact oa|fail) only [AX, i0, i4, iP, i6, iR, i10, i11, i12, i7]|refine wki ?_|refine wqn ?_|refine vf_of (by first|exact hN|exact hpw|exact hOf) ?_)
  ·repeat (first|simp only [go_sem, i0, i4, iP, i6, iR, i10, i11, i12, i7]|simp (disch := first|exact oa|fail) only [AX, i0, i4, iP, i6, iR, i10, i11, i12, i7]|refine wki ?_|refine wqn ?_)
   repeat (first|simp only [go_sem, i0, i4, iP, i6, iR, i7]|simp (disch := first|exact oa|fail) only [AX, i0, i4, iP, i6, iR, i7]|refine wki ?_|refine wqn ?_|refine vf_of (by first|exact hN|exact hpw|exact hOf) ?_)
 ·have hat := rows_at g (i := k) (j := i) (by omega)
  have hrl := rows_len g k
  have hl1 := hg i (by omega)
  have hl2 := hSl i (by omega)
  have hA := nat_AddL (N := S i) (D := g i) (by omega) (by omega)
  rw [<- hS] at hA
  rcases h7 with ⟨h0, i7⟩ | i7
  ·subst h0
   rw [hS0, lim_zero] at hA
   rw [List.drop_zero] at hat
   repeat (first|simp only [go_sem, i0, i4, iP, i6, iR, i10, i11, i12, i7, hat, hrl]|simp (disch := first|exact oa|fail) only [AX, i0, i4, iP, i6, iR, i10, i11, i12, i7, hat, hrl]|refine wki ?_|refine wqn ?_|refine vf_of (by first|exact hA) ?_)
   exact ⟨⟨1, rfl, by omega, .inr rfl⟩, by omega⟩
  ·repeat (first|simp only [go_sem, i0, i4, iP, i6, iR, i10, i11, i12, i7, hat, hrl]|simp (disch := first|exact oa|fail) only [AX, i0, i4, iP, i6, iR, i10, i11, i12, i7, hat, hrl]|refine wki ?_|refine wqn ?_)
   refine vf_of (hA) ?_; repeat (first|simp only [go_sem, i0, i4, iP, i6, iR, i10, i11, i12, i7, hat, hrl]|simp (disch := first|exact oa|fail) only [AX, i0, i4, iP, i6, iR, i10, i11, i12, i7, hat, hrl]|refine wki ?_|refine wqn ?_)
   exact ⟨⟨i + 1, rfl, by omega, .inr rfl⟩, by omega⟩
theorem disc_BinomCdf {v : SV} {x : Rat} {L : Nat} {n : Nat} {k : Int} (hv : RatA v x L) (hL : 1 <= L) (hL2 : L <= 100) (hn : n <= 256) (hx0 : 0 <= x) (hx1 : x <= 1) (hk : -9223372036854775808 <= k /\ k < 9223372036854775808) :
  Go.Ev.Fn CX 12 [.int .i64 (n : Int), .int .i64 k, v] (.tup [rv (cdfB n k x), .bool true]) := by
 have hT := disc_isTry (n := (n : Int)) hv hL (by omega)
 have ht : tryD (n : Int) x = true := by
  unfold tryD
  rw [decide_eq_true (show (0 : Int) <= (n : Int) by omega), decide_eq_true (show (n : Int) <= 256 by omega), decide_eq_true hx0, decide_eq_true hx1]
  rfl
 rw [ht] at hT
 have r0 := rat_Int 0 (by omega)
 have r1 := rat_Int 1 (by omega)
 obtain ⟨z1, z2⟩ := szR_of hv hL
 obtain ⟨hle, -⟩ := unit_num hx0 hx1
 have hvv := hv
 obtain ⟨s, y, d, rfl, -⟩ := hv
 refine fni Tryz.f12 ?_; unfold Tryz.f12; simp only [Option.get!_some]
 by_cases h1 : k < 0
 ·rw [show cdfB n k x = ((0 : Int) : Rat) from if_pos h1]
  repeat (first|simp only [go_sem, Bool.not_true]|simp (disch := first|exact oa|fail) only [AX, Bool.not_true]|refine wki ?_|refine wqn ?_|refine vpd 2 [] ?_|refine vpd 5 [31] ?_|refine vf_of (by first|exact hT|exact r0) ?_)
 ·by_cases h2 : (n : Int) <= k
  ·rw [show cdfB n k x = ((1 : Int) : Rat) by unfold cdfB; rw [if_neg h1, if_pos h2]; rfl]
   repeat (first|simp only [go_sem, Bool.not_true]|simp (disch := first|exact oa|fail) only [AX, Bool.not_true]|refine wki ?_|refine wqn ?_|refine vpd 2 [] ?_|refine vpd 5 [31] ?_|refine vf_of (by first|exact hT|exact r1) ?_)
  ·obtain ⟨K, rfl⟩ : ∃ K : Nat, k = (K : Int) := ⟨k.toNat, by omega⟩
   rw [show cdfB n (K : Int) x = mkRat (sumN x.num.natAbs (x.den - x.num.natAbs) n (K + 1) : Nat) (x.den ^ n) by unfold cdfB; rw [if_neg h1, if_neg h2, Int.toNat_natCast]]
   have hf := lim_len_mono (Nat.sub_le x.den x.num.natAbs)
   have t1 := disc_tries (n := n) (k := K) hvv hL hL2 hn (by omega) hle
   have tl := fun j (hj : j < K + 1) => term_len (p := x.num.natAbs) (f := x.den - x.num.natAbs) (n := n) hn (by omega) (by omega) j (by omega)
   have sl : ∀ j, j <= K + 1 -> (lim (sumN x.num.natAbs (x.den - x.num.natAbs) n j)).length <= 100000 := by
    intro j hj
    have : ∀ j, j <= K + 1 -> (lim (sumN x.num.natAbs (x.den - x.num.natAbs) n j)).length <= 90000 + j := by
     intro j
     induction j with
     | zero => intro _; rw [show sumN x.num.natAbs (x.den - x.num.natAbs) n 0 = 0 from rfl, lim_zero]; simp
     | succ j ih =>
      intro hj
      exact lim_len_add2 (L := 90000 + j) (ih (by omega)) (Nat.le_trans (tl j (by omega)) (Nat.le_add_right _ _))
    have := this j hj
    omega
   have s1 := disc_sum (n := n) (k := K + 1) (g := termN x.num.natAbs (x.den - x.num.natAbs) n) (S := sumN x.num.natAbs (x.den - x.num.natAbs) n) hvv hL hL2 hn (by omega) rfl (fun _ => rfl) tl sl
   repeat (first|simp only [go_sem, Bool.not_true]|simp (disch := first|exact oa|fail) only [AX, Bool.not_true]|refine wki ?_|refine wqn ?_|refine vpd 2 [] ?_|refine vpd 5 [31] ?_|refine vf_of (by first|exact hT|exact t1|exact s1) ?_)
end Go.Proofs.YtlojijllmadnoaaGreatDoor
namespace Go.Proofs.YtlojijllmadnoaaGreatDoor
open Go.Ev
def RowL (s : St) (t d v : Nat) : Prop := s.tmp t = .sv (natV (lim v)) \/ (v = 1 /\ s.tmp t = .ref d 0 1 0 1 /\ s.obj d 0 = some [.int .u32 1])
theorem cc_len {m k : Nat} (h : m + k <= 1048576) : (lim (cc m k)).length <= k + 1 :=
 Nat.le_trans (lim_len_mono cc_le) (prodN_len fun i hi => by omega)
theorem cc_quot (m k : Nat) : cc m k * (m + (k + 1)) / (k + 1) = cc m (k + 1) := by
 rw [<- cc_step, Nat.mul_div_cancel _ (by omega)]
theorem ref9_Choose (n k : Int) (hn : -9223372036854775808 <= n /\ n < 9223372036854775808) (hk : -9223372036854775808 <= k /\ k < 9223372036854775808) : Go.Ev.Fn CX 44 [.int .i64 n, .int .i64 k] (rv (chR n k : Rat)) := by
 have h0 := ref2_Int 0 (by omega)
 refine fni Tryz.f44 ?_; unfold Tryz.f44; simp only [Option.get!_some]
 by_cases hc : 0 <= n /\ n <= 512 /\ 0 <= k /\ k <= n
 ·obtain ⟨c1, c2, c3, c4⟩ := hc
  obtain ⟨K, rfl⟩ : ∃ K : Nat, k = (K : Int) := ⟨k.toNat, by omega⟩
  obtain ⟨M, hM⟩ : ∃ M : Nat, n - K = (M : Int) := ⟨(n - K).toNat, by omega⟩
  have hn' : n = ((M + K : Nat) : Int) := by omega
  subst hn'
  have e : chR ((M + K : Nat) : Int) (K : Int) = cc M K := by
   unfold chR
   rw [if_pos ⟨by omega, by omega, by omega, by omega⟩, show (((M + K : Nat) : Int) - (K : Int)).toNat = M by omega, Int.toNat_natCast]
  rw [e]
  have lc := cc_len (m := M) (k := K) (by omega)
  have hOf := ref2_OfL (s := false) (n := cc M K) (d := 1) (by omega) (by have := lim_len1; omega)
  rw [show mkRat (sgn false (cc M K)) 1 = (cc M K : Rat) from Rat.mkRat_one _, lim_one] at hOf
  have e1 : ((M + K : Nat) : Int) - (K : Int) = (M : Int) := by omega
  repeat (first|simp only [go_sem]|simp (disch := first|exact oa|fail) only [AX]|refine wki ?_|refine wqn ?_)
  refine vp_loop_inv (fun s => s.tmp 4 = .ptr 4 0 0 /\ s.obj 4 0 = some [.bool false, .sl 0 [], .sl 0 []] /\ s.tmp 0 = .sv (.int .i64 ((M + K : Nat) : Int)) /\ s.tmp 1 = .sv (.int .i64 (K : Int)) /\ ∃ i : Nat, s.tmp 6 = .sv (.int .i64 ((i + 1 : Nat) : Int)) /\ RowL s 5 23 (cc M i) /\ i <= K)
   (fun s => match s.tmp 6 with | .sv (.int _ n) => ((K : Int) + 1 - n).toNat | _ => 0) ⟨rfl, rfl, rfl, rfl, 0, rfl, .inr ⟨cc_zero _, rfl, rfl⟩, by omega⟩ ?_
  rintro s ⟨i4, iP, i0, i1, i, i6, hR, hi⟩
  by_cases hend : i = K
  ·subst hend
   rcases hR with i5 | ⟨hv, i5, iO⟩
   ·repeat (first|simp only [go_sem, i4, iP, i0, i1, i6, i5]|simp (disch := first|exact oa|fail) only [AX, i4, iP, i0, i1, i6, i5]|refine wki ?_|refine wqn ?_)
    refine vf_of (hOf) ?_; repeat (first|simp only [go_sem, i4, iP, i0, i1, i6, i5]|simp (disch := first|exact oa|fail) only [AX, i4, iP, i0, i1, i6, i5]|refine wki ?_|refine wqn ?_)
   ·rw [hv, lim_one] at hOf
    rw [hv]
    repeat (first|simp only [go_sem, i4, iP, i0, i1, i6, i5, iO]|simp (disch := first|exact oa|fail) only [AX, i4, iP, i0, i1, i6, i5, iO]|refine wki ?_|refine wqn ?_|refine vf_of (by first|exact hOf) ?_)
  ·have l1 := cc_len (m := M) (k := i) (by omega)
   have oN := ref1_Of (M + (i + 1)) (by omega)
   have oI := ref1_Of (i + 1) (by omega)
   have l2 := lim_len_one (a := M + (i + 1)) (by omega)
   have l3 := lim_len_one (a := i + 1) (by omega)
   have hM2 := ref1_MulL (N := cc M i) (D := M + (i + 1)) (by omega) (by omega)
   have l4 := lim_len_mul (a := cc M i) (b := M + (i + 1))
   have hD := ref1_DivL (N := cc M i * (M + (i + 1))) (D := i + 1) (by omega) (by omega) (by omega)
   rw [cc_quot] at hD
   rcases hR with i5 | ⟨hv, i5, iO⟩
   ·repeat (first|simp only [go_sem, i4, iP, i0, i1, i6, i5, e1]|simp (disch := first|exact oa|fail) only [AX, i4, iP, i0, i1, i6, i5, e1]|refine wki ?_|refine wqn ?_)
    repeat (first|simp only [go_sem, i4, iP, i0, i1, i6, i5, e1]|simp (disch := first|exact oa|fail) only [AX, i4, iP, i0, i1, i6, i5, e1]|refine wki ?_|refine wqn ?_|refine vf_of (by first|exact oN|exact hM2|exact oI|exact hD) ?_)
    refine ⟨⟨i + 1, rfl, .inl rfl, by omega⟩, by omega⟩
   ·rw [hv, lim_one] at hM2
    rw [hv] at hD
    repeat (first|simp only [go_sem, i4, iP, i0, i1, i6, i5, iO, e1, N0]|simp (disch := first|exact oa|fail) only [AX, i4, iP, i0, i1, i6, i5, iO, e1, N0]|refine wki ?_|refine wqn ?_|refine vf_of (by first|exact oN|exact hM2|exact oI|exact hD) ?_)
    refine ⟨⟨i + 1, rfl, .inl rfl, by omega⟩, by omega⟩
 ·have e : chR n k = 0 := if_neg hc
  rw [e]
  by_cases c1 : n < 0
  ·repeat (first|simp only [go_sem]|simp (disch := first|exact oa|fail) only [AX]|refine wki ?_|refine wqn ?_)
   refine vf_of (h0) ?_; repeat (first|simp only [go_sem]|simp (disch := first|exact oa|fail) only [AX]|refine wki ?_|refine wqn ?_)
   rfl
  ·by_cases c2 : 512 < n
   ·repeat (first|simp only [go_sem]|simp (disch := first|exact oa|fail) only [AX]|refine wki ?_|refine wqn ?_)
    refine vf_of (h0) ?_; repeat (first|simp only [go_sem]|simp (disch := first|exact oa|fail) only [AX]|refine wki ?_|refine wqn ?_)
    rfl
   ·by_cases c3 : k < 0
    ·repeat (first|simp only [go_sem]|simp (disch := first|exact oa|fail) only [AX]|refine wki ?_|refine wqn ?_)
     refine vf_of (h0) ?_; repeat (first|simp only [go_sem]|simp (disch := first|exact oa|fail) only [AX]|refine wki ?_|refine wqn ?_)
     rfl
    ·have c4 : n < k := by omega
     repeat (first|simp only [go_sem]|simp (disch := first|exact oa|fail) only [AX]|refine wki ?_|refine wqn ?_|refine vf_of (by first|exact h0) ?_)
     rfl
end Go.Proofs.YtlojijllmadnoaaGreatDoor
namespace Go.Proofs.YtlojijllmadnoaaGreatDoor
open Go.Ev
theorem not_lt_dec' {q r : Rat} : (!decide (q < r)) = decide (r <= q) := by
 by_cases h : q < r
 ·rw [decide_eq_true h, decide_eq_false (show ¬ r <= q by grind)]; rfl
 ·rw [decide_eq_false h, decide_eq_true (show r <= q by grind)]; rfl
theorem ref13_bad {v : SV} {x : Rat} {L : Nat} {n : Int} (hv : RatA v x L) (hL : 1 <= L) (h : L <= 524288) : Go.Ev.Fn CX 17 [.int .i64 n, v] (.bool (!tryD n x)) := by
 have r0 := ref2_Int 0 (by omega)
 have r1 := ref2_Int 1 (by omega)
 have c0 := ref2_Cmp hv (RatA_rv (int_szR (n := 0) (by omega))) hL (by omega) (by omega)
 have c1 := ref2_Cmp hv (RatA_rv (int_szR (n := 1) (by omega))) hL (by omega) (by omega)
 have e0 : decide (cmpR x ((0 : Int) : Rat) < 0) = decide (x < ((0 : Int) : Rat)) := cmpR_lt
 have e1 : decide (cmpR x ((1 : Int) : Rat) > 0) = decide (((1 : Int) : Rat) < x) := cmpR_gt
 have d0 : decide (0 <= x) = !decide (x < ((0 : Int) : Rat)) := not_lt_dec'.symm
 have d1 : decide (x <= 1) = !decide (((1 : Int) : Rat) < x) := not_lt_dec'.symm
 unfold tryD
 rw [d0, d1]
 obtain ⟨s, y, d, rfl, -⟩ := hv
 generalize decide (x < ((0 : Int) : Rat)) = b at *
 generalize decide (((1 : Int) : Rat) < x) = c at *
 clear d0 d1
 by_cases h1 : 0 <= n
 ·rw [decide_eq_true h1, Bool.true_and]
  by_cases h2 : n <= 256
  ·rw [decide_eq_true h2, Bool.true_and]
   cases b
   ·cases c
    all_goals
     refine fni Tryz.f17 ?_; unfold Tryz.f17; simp only [Option.get!_some]
     repeat (first|simp only [go_sem, e0, e1]|simp (disch := first|exact oa|fail) only [AX, e0, e1]|refine wki ?_|refine wqn ?_|refine vpd 1 [] ?_|refine vf_of (by first|exact r0|exact c0|exact r1|exact c1) ?_)
     rfl
   ·rw [show (!(!true && !c)) = true from rfl]
    refine fni Tryz.f17 ?_; unfold Tryz.f17; simp only [Option.get!_some]
    repeat (first|simp only [go_sem, e0]|simp (disch := first|exact oa|fail) only [AX, e0]|refine wki ?_|refine wqn ?_|refine vpd 1 [] ?_|refine vf_of (by first|exact r0|exact c0) ?_)
  ·rw [decide_eq_false h2, Bool.false_and]
   refine fni Tryz.f17 ?_; unfold Tryz.f17; simp only [Option.get!_some]
   repeat (first|simp only [go_sem]|simp (disch := first|exact oa|fail) only [AX]|refine wki ?_|refine wqn ?_|refine vpd 1 [] ?_)
   rfl
 ·rw [decide_eq_false h1, Bool.false_and]
  refine fni Tryz.f17 ?_; unfold Tryz.f17; simp only [Option.get!_some]
  repeat (first|simp only [go_sem]|simp (disch := first|exact oa|fail) only [AX]|refine wki ?_|refine wqn ?_|refine vpd 1 [] ?_)
  rfl
theorem rows_first (g : Nat -> Nat) (h : g 0 = 1) : [natV [1]] = rowsC g 1 := by
 show [natV [1]] = [natV (lim (g 0))]
 rw [h, lim_one]
theorem ref13_powers {X n : Nat} (hn : n <= 256) (hX : (lim X).length <= 100) : Go.Ev.Fn CX 43 [natV (lim X), .int .i64 (n : Int)] (.sl (n + 1) (rowsC (fun j => X ^ j) (n + 1))) := by
 have h1 := rows_first (fun j => X ^ j) (Nat.pow_zero X)
 have lp : ∀ i, i <= n -> (lim (X ^ i)).length <= 25601 := by
  intro i hi
  have h1 := pow_lim_len X i
  have h2 : (lim X).length * i <= 100 * 256 := Nat.mul_le_mul (by omega) (by omega)
  omega
 refine fni Tryz.f43 ?_; unfold Tryz.f43; simp only [Option.get!_some]
 repeat (first|simp only [go_sem]|simp (disch := first|exact oa|fail) only [AX]|refine wki ?_|refine wqn ?_)
 refine vp_loop_inv (fun s => s.tmp 0 = .sv (natV (lim X)) /\ s.tmp 1 = .sv (.int .i64 (n : Int)) /\
   ∃ i : Nat, i <= n /\ s.tmp 6 = .sv (.int .i64 (i : Int)) /\ s.tmp 5 = .ref 8 0 1 0 (i + 1) /\ s.obj 8 0 = some (rowsC (fun j => X ^ j) (i + 1)))
  (fun s => match s.tmp 6 with | .sv (.int _ i) => n - i.toNat | _ => 0) ⟨rfl, rfl, 0, by omega, rfl, rfl, by first | exact congrArg some h1 | skip⟩ ?_
 rintro s ⟨i0, i1, i, hi, i6, i5, iO⟩
 have hlen := rows_len (fun j => X ^ j) (i + 1)
 by_cases hend : i = n
 ·subst hend
  repeat (first|simp only [go_sem, i0, i1, i6, i5, iO]|simp (disch := first|exact oa|fail) only [AX, i0, i1, i6, i5, iO]|refine wki ?_|refine wqn ?_)
  refine ro_ref (cs := rowsC (fun j => X ^ j) (i + 1)) (by decide) ?_ ?_
  ·simp only [go_sem, i5, iO]
  ·rw [List.drop_zero, Nat.mul_one, List.take_of_length_le (Nat.le_of_eq (rows_len _ _))]
 ·have hat := rows_at (fun j => X ^ j) (i := i + 1) (j := i) (by omega)
  have hsn := rows_snoc (fun j => X ^ j) (i + 1)
  have hl1 := lp i (by omega)
  have hM := ref1_MulL (N := X ^ i) (D := X) (by omega) (by omega)
  rw [<- Nat.pow_succ] at hM
  repeat (first|simp only [go_sem, i0, i1, i6, i5, iO, N0, hat, hsn, hlen]|simp (disch := first|exact oa|fail) only [AX, i0, i1, i6, i5, iO, N0, hat, hsn, hlen]|refine wki ?_|refine wqn ?_|refine vf_of (by first|exact hM) ?_)
  exact ⟨⟨i + 1, by omega, rfl, rfl, rfl⟩, by omega⟩
end Go.Proofs.YtlojijllmadnoaaGreatDoor
namespace Go.Proofs.YtlojijllmadnoaaGreatDoor
open Go.Ev
theorem rv_nat (c : Nat) : rv ((c : Nat) : Rat) = ratV false (lim c) (lim 1) := by
 show ratV (decide (((c : Nat) : Rat).num < 0)) (lim ((c : Nat) : Rat).num.natAbs) (lim ((c : Nat) : Rat).den) = _
 rw [Rat.num_natCast, Rat.den_natCast, Int.natAbs_natCast, decide_eq_false (by omega)]
theorem chR_in {n j : Nat} (h : j <= n) (hn : n <= 512) : chR (n : Int) (j : Int) = cc (n - j) j := by
 unfold chR
 rw [if_pos ⟨by omega, by omega, by omega, by omega⟩, show ((n : Int) - (j : Int)).toNat = n - j by omega, Int.toNat_natCast]
theorem ref13_parts {v : SV} {x : Rat} {L : Nat} {n : Nat} (hv : RatA v x L) (hL : 1 <= L) (hL2 : L <= 100) (hn : n <= 256) :
  Go.Ev.Fn CX 18 [.int .i64 (n : Int), v] (.tup [.sl (n + 1) (rowsC (termN x.num.natAbs (x.den - x.num.natAbs) n) (n + 1)), natV (lim (x.den ^ n))]) := by
 have hN := ref2_Norm hv (by omega)
 obtain ⟨z1, z2⟩ := szR_of hv hL
 obtain ⟨s, y, d, rfl, -⟩ := hv
 generalize hp : x.num.natAbs = p at *
 generalize hd : x.den = D at *
 have hS := ref1_SubL (N := D) (D := p) (by omega) (by omega)
 have hf := lim_len_mono (Nat.sub_le D p)
 generalize hff : D - p = f at *
 have p1 := ref13_powers (X := p) (n := n) hn (by omega)
 have p2 := ref13_powers (X := f) (n := n) hn (by omega)
 have p3 := ref13_powers (X := D) (n := n) hn (by omega)
 have tlast := rows_at (fun j => D ^ j) (i := n + 1) (j := n) (by omega)
 have l1 := rows_len (fun j => p ^ j) (n + 1)
 have l2 := rows_len (fun j => f ^ j) (n + 1)
 have l3 := rows_len (fun j => D ^ j) (n + 1)
 have pl : ∀ (X : Nat) (i : Nat), (lim X).length <= 100 -> i <= n -> (lim (X ^ i)).length <= 25601 := by
  intro X i hX hi
  have h1 := pow_lim_len X i
  have h2 : (lim X).length * i <= 100 * 256 := Nat.mul_le_mul hX (by omega)
  omega
 refine fni Tryz.f18 ?_; unfold Tryz.f18; simp only [Option.get!_some]
 repeat (first|simp only [go_sem, hp, hd]|simp (disch := first|exact oa|fail) only [AX, hp, hd]|refine wki ?_|refine wqn ?_|refine vpd 3 [25, 7, 32] ?_|refine vpd 8 [48, 54, 44, 55] ?_|refine vpd 9 [] ?_|refine vf_of (by first|exact hN|exact hS|exact p1|exact p2|exact p3) ?_)
 refine vp_loop_inv (fun s => s.tmp 0 = .sv (.int .i64 (n : Int)) /\ s.tmp 9 = .sv (.sl (n + 1) (rowsC (fun j => p ^ j) (n + 1))) /\ s.tmp 10 = .sv (.sl (n + 1) (rowsC (fun j => f ^ j) (n + 1))) /\ s.tmp 11 = .sv (.sl (n + 1) (rowsC (fun j => D ^ j) (n + 1))) /\
   ∃ j : Nat, s.tmp 13 = .sv (.int .i64 (j : Int)) /\ j <= n + 1 /\ ((j = 0 /\ s.tmp 12 = .nil /\ s.gen 58 = 0 /\ s.tmp 44 = .undef /\ s.tmp 48 = .undef /\ s.tmp 54 = .undef /\ s.tmp 55 = .undef) \/
    (0 < j /\ s.tmp 12 = .ref 58 0 1 0 j /\ s.obj 58 0 = some (rowsC (termN p f n) j) /\ ∃ w x y z, s.tmp 44 = .sv w /\ s.tmp 48 = .sv x /\ s.tmp 54 = .sv y /\ s.tmp 55 = .sv z)))
  (fun s => match s.tmp 13 with | .sv (.int _ i) => n + 1 - i.toNat | _ => 0) ⟨rfl, rfl, rfl, rfl, 0, rfl, by omega, .inl ⟨rfl, rfl, rfl, rfl, rfl, rfl, rfl⟩⟩ ?_
 rintro s2 ⟨i0, i9, i10, i11, j, i13, hj, hl⟩
 by_cases hend : j = n + 1
 ·subst hend
  rcases hl with ⟨h0, _⟩ | ⟨_, j12, jL, -⟩
  ·omega
  ·repeat (first|simp only [go_sem, i0, i9, i10, i11, i13, j12, jL, tlast, l3]|simp (disch := first|exact oa|fail) only [AX, i0, i9, i10, i11, i13, j12, jL, tlast, l3]|refine wki ?_|refine wqn ?_|refine vpd 3 [25, 7, 32] ?_|refine vpd 8 [48, 54, 44, 55] ?_|refine vpd 9 [] ?_)
   refine ro_ref (cs := rowsC (termN p f n) (n + 1)) (by decide) ?_ ?_
   ·simp only [go_sem, j12, jL]
   ·rw [List.drop_zero, Nat.mul_one, List.take_of_length_le (Nat.le_of_eq (rows_len _ _))]
 ·have hjn : j <= n := by omega
  have a1 := rows_at (fun j => p ^ j) (i := n + 1) (j := j) (by omega)
  have a2 := rows_at (fun j => f ^ j) (i := n + 1) (j := n - j) (by omega)
  have hsn := rows_snoc (termN p f n) j
  have hrl := rows_len (termN p f n) j
  have lp := pl p j (by omega) hjn
  have lf := pl f (n - j) (by omega) (by omega)
  have hCh := ref9_Choose (n : Int) (j : Int) (by omega) (by omega)
  rw [chR_in hjn (by omega), rv_nat] at hCh
  have lc := cc_lim (m := n - j) (k := j) (by omega)
  have m1 := ref1_MulL (N := p ^ j) (D := f ^ (n - j)) (by omega) (by omega)
  have lm := lim_len_mul (a := p ^ j) (b := f ^ (n - j))
  have m2 := ref1_MulL (N := cc (n - j) j) (D := p ^ j * f ^ (n - j)) (by omega) (by omega)
  rw [<- Nat.mul_assoc, show cc (n - j) j * p ^ j * f ^ (n - j) = termN p f n j from rfl] at m2
  clear lc lm lp lf pl
  rcases hl with ⟨h0, j12, jg, k1, k2, k3, k4⟩ | ⟨hj0, j12, jL, w, x', y', z, k1, k2, k3, k4⟩
  ·subst h0
   rw [List.drop_zero] at a1
   simp only [Nat.sub_zero] at a2 m1 m2 hCh
   repeat (first|simp only [go_sem, i0, i9, i10, i11, i13, j12, jg, N0, a1, a2, l1, l2, k1, k2, k3, k4, hsn, hrl]|simp (disch := first|exact oa|fail) only [AX, i0, i9, i10, i11, i13, j12, jg, N0, a1, a2, l1, l2, k1, k2, k3, k4, hsn, hrl]|refine wki ?_|refine wqn ?_|refine vpd 3 [25, 7, 32] ?_|refine vpd 8 [48, 54, 44, 55] ?_|refine vpd 9 [] ?_|refine vf_of (by first|exact hCh|exact m1|exact m2) ?_)
   exact ⟨⟨1, rfl, by omega, .inr ⟨by omega, rfl, rfl, _, _, _, _, rfl, rfl, rfl, rfl⟩⟩, by omega⟩
  ·repeat (first|simp only [go_sem, i0, i9, i10, i11, i13, j12, jL, N0, a1, a2, l1, l2, k1, k2, k3, k4]|simp (disch := first|exact oa|fail) only [AX, i0, i9, i10, i11, i13, j12, jL, N0, a1, a2, l1, l2, k1, k2, k3, k4]|refine wki ?_|refine wqn ?_|refine vpd 3 [25, 7, 32] ?_|refine vpd 8 [48, 54, 44, 55] ?_|refine vpd 9 [] ?_)
   repeat (first|simp only [go_sem, i0, i9, i10, i11, i13, j12, jL, N0, a1, a2, l1, l2, hsn, hrl]|simp (disch := first|exact oa|fail) only [AX, i0, i9, i10, i11, i13, j12, jL, N0, a1, a2, l1, l2, hsn, hrl]|refine wki ?_|refine wqn ?_|refine vpd 3 [25, 7, 32] ?_|refine vpd 8 [48, 54, 44, 55] ?_|refine vpd 9 [] ?_|refine vf_of (by first|exact hCh|exact m1|exact m2) ?_)
   exact ⟨⟨j + 1, rfl, by omega, .inr ⟨by omega, rfl, rfl, _, _, _, _, rfl, rfl, rfl, rfl⟩⟩, by omega⟩
theorem sum_lens {p f n : Nat} (hn : n <= 256) (hp : (lim p).length <= 100) (hf : (lim f).length <= 100) : ∀ j, j <= n + 1 -> (lim (sumN p f n j)).length <= 90000 + j := by
 intro j
 induction j with
 | zero => intro _; rw [show sumN p f n 0 = 0 from rfl, lim_zero]; simp
 | succ j ih =>
  intro hj
  exact lim_len_add2 (L := 90000 + j) (ih (by omega)) (Nat.le_trans (term_len hn hp hf j (by omega)) (Nat.le_add_right _ _))
theorem cmpN_ge' {a b : Nat} : decide (cmpN a b >= 0) = decide (b <= a) := by
 unfold cmpN
 by_cases h : a < b
 ·rw [if_pos h, decide_eq_false (show ¬ b <= a by omega)]; rfl
 ·rw [if_neg h, decide_eq_true (show b <= a by omega)]; split <;> rfl
theorem ref13_Least {v w : SV} {x q : Rat} {L : Nat} {n K : Nat} (hv : RatA v x L) (hw : RatA w q L) (hL : 1 <= L) (hL2 : L <= 100) (hn : n <= 256) (hx0 : 0 <= x) (hx1 : x <= 1) (hq : 0 <= q) (hK : isLeast n x q K) :
  Go.Ev.Fn CX 15 [.int .i64 (n : Int), w, v] (.int .i64 (K : Int)) := by
 have hP := ref13_parts hv hL hL2 hn
 have hN := ref2_Norm hw (by omega)
 have hge := fun {k : Nat} (hk : k < n) => cdfB_ge (q := q) (x := x) hk
 obtain ⟨z1, z2⟩ := szR_of hv hL
 obtain ⟨y1, y2⟩ := szR_of hw hL
 have hqn : (q.num.natAbs : Int) = q.num := by have := Rat.num_nonneg.2 hq; omega
 have hf := lim_len_mono (Nat.sub_le x.den x.num.natAbs)
 have sl := sum_lens (p := x.num.natAbs) (f := x.den - x.num.natAbs) (n := n) hn (by omega) (by omega)
 have tl := fun j (hj : j <= n) => term_len (p := x.num.natAbs) (f := x.den - x.num.natAbs) (n := n) hn (by omega) (by omega) j hj
 have dl := pow_lim_len x.den n
 have dl2 : (lim x.den).length * n <= 100 * 256 := Nat.mul_le_mul (by omega) hn
 have hM := ref1_MulL (N := q.num.natAbs) (D := x.den ^ n) (by omega) (by omega)
 have ml := lim_len_mul (a := q.num.natAbs) (b := x.den ^ n)
 have hge2 : ∀ k : Nat, k < n -> (q <= cdfB n k x ↔ q.num.natAbs * x.den ^ n <= sumN x.num.natAbs (x.den - x.num.natAbs) n (k + 1) * q.den) := by
  intro k hk
  rw [hge hk, <- hqn]
  exact_mod_cast Iff.rfl
 clear hge hqn
 obtain ⟨s, y, d, rfl, -⟩ := hv
 obtain ⟨s', y', d', rfl, -⟩ := hw
 have hlen := rows_len (termN x.num.natAbs (x.den - x.num.natAbs) n) (n + 1)
 have hall := fun j (hj : j < n) => rows_at (termN x.num.natAbs (x.den - x.num.natAbs) n) (i := n + 1) (j := j) (by omega)
 have hstep := fun j => (show sumN x.num.natAbs (x.den - x.num.natAbs) n (j + 1) = sumN x.num.natAbs (x.den - x.num.natAbs) n j + termN x.num.natAbs (x.den - x.num.natAbs) n j from rfl)
 have hzero : sumN x.num.natAbs (x.den - x.num.natAbs) n 0 = 0 := rfl
 generalize hT : termN x.num.natAbs (x.den - x.num.natAbs) n = T at *
 generalize hS : sumN x.num.natAbs (x.den - x.num.natAbs) n = S at *
 generalize hDn : x.den ^ n = E at *
 generalize hqd : q.den = qd at *
 generalize hqp : q.num.natAbs = qp at *
 refine fni Tryz.f15 ?_; unfold Tryz.f15; simp only [Option.get!_some]
 repeat (first|simp only [go_sem, hqd, hqp]|simp (disch := first|exact oa|fail) only [AX, hqd, hqp]|refine wki ?_|refine wqn ?_|refine vf_of (by first|exact hP|exact hN|exact hM) ?_)
 refine vp_loop_inv (fun s => s.tmp 0 = .sv (.int .i64 (n : Int)) /\ s.tmp 7 = .sv (.sl (n + 1) (rowsC T (n + 1))) /\ s.tmp 9 = .ptr 9 0 0 /\ s.obj 9 0 = some [.bool (decide (q.num < 0)), natV (lim qp), natV (lim qd)] /\ s.tmp 10 = .sv (natV (lim (qp * E))) /\
   ∃ i : Nat, s.tmp 12 = .sv (.int .i64 (i : Int)) /\ i <= n /\ (∀ j : Nat, j < i -> cdfB n j x < q) /\ ((i = 0 /\ s.tmp 11 = .nil) \/ s.tmp 11 = .sv (natV (lim (S i)))))
  (fun s => match s.tmp 12 with | .sv (.int _ i) => n - i.toNat | _ => 0) ⟨rfl, rfl, rfl, rfl, rfl, 0, rfl, by omega, fun j hj => absurd hj (by omega), .inl ⟨rfl, rfl⟩⟩ ?_
 rintro s2 ⟨i0, i7, i9, iO, i10, i, i12, hi, hlo, h11⟩
 by_cases hend : i = n
 ·have hKK : i = K := isLeast_unique ⟨hi, hlo, .inl hend⟩ hK
  subst hend
  subst hKK
  repeat (first|simp only [go_sem, i0, i7, i9, iO, i10, i12]|simp (disch := first|exact oa|fail) only [AX, i0, i7, i9, iO, i10, i12]|refine wki ?_|refine wqn ?_)
 ·have hin : i < n := by omega
  have hat := hall i hin
  have lS := sl i (by omega)
  have lS1 := sl (i + 1) (by omega)
  have lT := tl i (by omega)
  have hA := ref1_AddL (N := S i) (D := T i) (by omega) (by omega)
  rw [<- hstep] at hA
  have hM2 := ref1_MulL (N := S (i + 1)) (D := qd) (by omega) (by omega)
  have lM2 := lim_len_mul (a := S (i + 1)) (b := qd)
  have hC := ref1_CmpL (N := S (i + 1) * qd) (D := qp * E) (by omega) (by omega)
  have ec : decide (cmpN (S (i + 1) * qd) (qp * E) >= 0) = decide (qp * E <= S (i + 1) * qd) := cmpN_ge'
  have hg := hge2 i hin
  generalize S (i + 1) * qd = A at *
  generalize qp * E = B at *
  clear sl tl hge2 hall
  by_cases h5 : B <= A
  ·have hKK : i = K := isLeast_unique ⟨hi, hlo, .inr (hg.2 h5)⟩ hK
   subst hKK
   rw [decide_eq_true h5] at ec
   clear hg hlo hstep
   rcases h11 with ⟨h0, i11⟩ | i11
   ·subst h0
    rw [hzero, lim_zero] at hA
    rw [List.drop_zero] at hat
    repeat (first|simp only [go_sem, i0, i7, i9, iO, i10, i12, i11, hat, hlen, ec]|simp (disch := first|exact oa|fail) only [AX, i0, i7, i9, iO, i10, i12, i11, hat, hlen, ec]|refine wki ?_|refine wqn ?_|refine vf_of (by first|exact hA|exact hM2|exact hC) ?_)
   ·repeat (first|simp only [go_sem, i0, i7, i9, iO, i10, i12, i11, hat, hlen]|simp (disch := first|exact oa|fail) only [AX, i0, i7, i9, iO, i10, i12, i11, hat, hlen]|refine wki ?_|refine wqn ?_)
    repeat (first|simp only [go_sem, i0, i7, i9, iO, i10, i12, i11, hat, hlen, ec]|simp (disch := first|exact oa|fail) only [AX, i0, i7, i9, iO, i10, i12, i11, hat, hlen, ec]|refine wki ?_|refine wqn ?_|refine vf_of (by first|exact hA|exact hM2|exact hC) ?_)
  ·rw [decide_eq_false h5] at ec
   have hlo2 : ∀ j : Nat, j < i + 1 -> cdfB n j x < q := by
    intro j hj
    by_cases h6 : j = i
    ·subst h6
     have := fun h => h5 (hg.1 h)
     grind
    ·exact hlo j (by omega)
   clear hg hlo hstep
   rcases h11 with ⟨h0, i11⟩ | i11
   ·subst h0
    rw [hzero, lim_zero] at hA
    rw [List.drop_zero] at hat
    repeat (first|simp only [go_sem, i0, i7, i9, iO, i10, i12, i11, hat, hlen, ec]|simp (disch := first|exact oa|fail) only [AX, i0, i7, i9, iO, i10, i12, i11, hat, hlen, ec]|refine wki ?_|refine wqn ?_|refine vf_of (by first|exact hA|exact hM2|exact hC) ?_)
    exact ⟨⟨1, rfl, by omega, hlo2, .inr rfl⟩, by omega⟩
   ·repeat (first|simp only [go_sem, i0, i7, i9, iO, i10, i12, i11, hat, hlen]|simp (disch := first|exact oa|fail) only [AX, i0, i7, i9, iO, i10, i12, i11, hat, hlen]|refine wki ?_|refine wqn ?_)
    repeat (first|simp only [go_sem, i0, i7, i9, iO, i10, i12, i11, hat, hlen, ec]|simp (disch := first|exact oa|fail) only [AX, i0, i7, i9, iO, i10, i12, i11, hat, hlen, ec]|refine wki ?_|refine wqn ?_|refine vf_of (by first|exact hA|exact hM2|exact hC) ?_)
    exact ⟨⟨i + 1, rfl, by omega, hlo2, .inr rfl⟩, by omega⟩
theorem ref13_BinomCdf {v : SV} {x : Rat} {L : Nat} {n : Nat} {k : Int} (hv : RatA v x L) (hL : 1 <= L) (hL2 : L <= 100) (hn : n <= 256) (hx0 : 0 <= x) (hx1 : x <= 1) (hk : -9223372036854775808 <= k /\ k < 9223372036854775808) :
  Go.Ev.Fn CX 7 [.int .i64 (n : Int), .int .i64 k, v] (.tup [rv (cdfB n k x), .bool true]) := by
 have hT := ref13_bad (n := (n : Int)) hv hL (by omega)
 have ht : tryD (n : Int) x = true := by
  unfold tryD
  rw [decide_eq_true (show (0 : Int) <= (n : Int) by omega), decide_eq_true (show (n : Int) <= 256 by omega), decide_eq_true hx0, decide_eq_true hx1]
  rfl
 rw [ht, Bool.not_true] at hT
 have r1 := ref2_Int 1 (by omega)
 have hP := ref13_parts hv hL hL2 hn
 obtain ⟨z1, z2⟩ := szR_of hv hL
 have hf := lim_len_mono (Nat.sub_le x.den x.num.natAbs)
 have sl := sum_lens (p := x.num.natAbs) (f := x.den - x.num.natAbs) (n := n) hn (by omega) (by omega)
 have tl := fun j (hj : j <= n) => term_len (p := x.num.natAbs) (f := x.den - x.num.natAbs) (n := n) hn (by omega) (by omega) j hj
 have dl := pow_lim_len x.den n
 have dl2 : (lim x.den).length * n <= 100 * 256 := Nat.mul_le_mul (by omega) hn
 have hlen := rows_len (termN x.num.natAbs (x.den - x.num.natAbs) n) (n + 1)
 obtain ⟨s, y, d, rfl, -⟩ := hv
 by_cases h2 : (n : Int) <= k
 ·rw [show cdfB n k x = ((1 : Int) : Rat) by unfold cdfB; rw [if_neg (show ¬ k < 0 by omega), if_pos h2]; rfl]
  clear sl tl
  refine fni Tryz.f7 ?_; unfold Tryz.f7; simp only [Option.get!_some]
  repeat (first|simp only [go_sem]|simp (disch := first|exact oa|fail) only [AX]|refine wki ?_|refine wqn ?_|refine vf_of (by first|exact hT|exact r1) ?_)
 ·obtain ⟨K, hK0, hK1, hc⟩ : ∃ K : Nat, K <= n /\ (K : Int) = (if k < 0 then 0 else k + 1) /\ cdfB n k x = mkRat (sumN x.num.natAbs (x.den - x.num.natAbs) n K : Nat) (x.den ^ n) := by
   by_cases h1 : k < 0
   ·refine ⟨0, by omega, by rw [if_pos h1]; rfl, ?_⟩
    unfold cdfB
    rw [if_pos h1, show sumN x.num.natAbs (x.den - x.num.natAbs) n 0 = 0 from rfl]
    exact (Rat.zero_mkRat _).symm
   ·refine ⟨k.toNat + 1, by omega, by rw [if_neg h1]; omega, ?_⟩
    unfold cdfB
    rw [if_neg h1, if_neg h2]
  rw [hc]
  have lK := sl K (by omega)
  have hOf := ref2_OfL (s := false) (n := sumN x.num.natAbs (x.den - x.num.natAbs) n K) (d := x.den ^ n) (by omega) (by omega)
  rw [show sgn false (sumN x.num.natAbs (x.den - x.num.natAbs) n K) = ((sumN x.num.natAbs (x.den - x.num.natAbs) n K : Nat) : Int) from rfl] at hOf
  have hall := fun j (hj : j < n) => rows_at (termN x.num.natAbs (x.den - x.num.natAbs) n) (i := n + 1) (j := j) (by omega)
  have hstep := fun j => (show sumN x.num.natAbs (x.den - x.num.natAbs) n (j + 1) = sumN x.num.natAbs (x.den - x.num.natAbs) n j + termN x.num.natAbs (x.den - x.num.natAbs) n j from rfl)
  have hzero : sumN x.num.natAbs (x.den - x.num.natAbs) n 0 = 0 := rfl
  generalize hTT : termN x.num.natAbs (x.den - x.num.natAbs) n = T at *
  generalize hS : sumN x.num.natAbs (x.den - x.num.natAbs) n = S at *
  generalize hDn : x.den ^ n = E at *
  have hk2 : (K = 0 /\ k < 0) \/ (0 <= k /\ (K : Int) = k + 1) := by
   by_cases h1 : k < 0
   ·rw [if_pos h1] at hK1; exact .inl ⟨by omega, h1⟩
   ·rw [if_neg h1] at hK1; exact .inr ⟨by omega, hK1⟩
  clear hK1 hc
  refine fni Tryz.f7 ?_; unfold Tryz.f7; simp only [Option.get!_some]
  repeat (first|simp only [go_sem]|simp (disch := first|exact oa|fail) only [AX]|refine wki ?_|refine wqn ?_|refine vf_of (by first|exact hT|exact hP) ?_)
  refine vp_loop_inv (fun s => s.tmp 0 = .sv (.int .i64 (n : Int)) /\ s.tmp 1 = .sv (.int .i64 k) /\ s.tmp 6 = .ptr 6 0 0 /\ s.obj 6 0 = some [.bool false, .sl 0 [], .sl 0 []] /\ s.tmp 8 = .sv (.sl (n + 1) (rowsC T (n + 1))) /\ s.tmp 9 = .sv (natV (lim E)) /\
    ∃ i : Nat, s.tmp 11 = .sv (.int .i64 (i : Int)) /\ i <= K /\ ((i = 0 /\ s.tmp 10 = .nil) \/ s.tmp 10 = .sv (natV (lim (S i)))))
   (fun s => match s.tmp 11 with | .sv (.int _ i) => K - i.toNat | _ => 0) ⟨rfl, rfl, rfl, rfl, rfl, rfl, 0, rfl, by omega, .inl ⟨rfl, rfl⟩⟩ ?_
  rintro s2 ⟨i0, i1, i6, iR, i8, i9, i, i11, hi, h10⟩
  by_cases hend : i = K
  ·subst hend
   clear hall hstep sl tl
   rcases h10 with ⟨h0, i10⟩ | i10
   ·rw [h0, hzero, lim_zero] at hOf
    rw [h0, hzero]
    repeat (first|simp only [go_sem, i0, i1, i6, iR, i8, i9, i11, i10]|simp (disch := first|exact oa|fail) only [AX, i0, i1, i6, iR, i8, i9, i11, i10]|refine wki ?_|refine wqn ?_|refine vf_of (by first|exact hOf) ?_)
   ·repeat (first|simp only [go_sem, i0, i1, i6, iR, i8, i9, i11, i10]|simp (disch := first|exact oa|fail) only [AX, i0, i1, i6, iR, i8, i9, i11, i10]|refine wki ?_|refine wqn ?_)
    refine vf_of (hOf) ?_; repeat (first|simp only [go_sem, i0, i1, i6, iR, i8, i9, i11, i10]|simp (disch := first|exact oa|fail) only [AX, i0, i1, i6, iR, i8, i9, i11, i10]|refine wki ?_|refine wqn ?_)
  ·have hik : (i : Int) <= k := by omega
   have hat := hall i (by omega)
   have lS := sl i (by omega)
   have lT := tl i (by omega)
   have hA := ref1_AddL (N := S i) (D := T i) (by omega) (by omega)
   rw [<- hstep] at hA
   clear hall hstep sl tl hOf
   rcases h10 with ⟨h0, i10⟩ | i10
   ·subst h0
    rw [hzero, lim_zero] at hA
    rw [List.drop_zero] at hat
    repeat (first|simp only [go_sem, i0, i1, i6, iR, i8, i9, i11, i10, hat, hlen]|simp (disch := first|exact oa|fail) only [AX, i0, i1, i6, iR, i8, i9, i11, i10, hat, hlen]|refine wki ?_|refine wqn ?_|refine vf_of (by first|exact hA) ?_)
    exact ⟨⟨1, rfl, by omega, .inr rfl⟩, by omega⟩
   ·repeat (first|simp only [go_sem, i0, i1, i6, iR, i8, i9, i11, i10, hat, hlen]|simp (disch := first|exact oa|fail) only [AX, i0, i1, i6, iR, i8, i9, i11, i10, hat, hlen]|refine wki ?_|refine wqn ?_)
    refine vf_of (hA) ?_; repeat (first|simp only [go_sem, i0, i1, i6, iR, i8, i9, i11, i10, hat, hlen]|simp (disch := first|exact oa|fail) only [AX, i0, i1, i6, iR, i8, i9, i11, i10, hat, hlen]|refine wki ?_|refine wqn ?_)
    exact ⟨⟨i + 1, rfl, by omega, .inr rfl⟩, by omega⟩
end Go.Proofs.YtlojijllmadnoaaGreatDoor
namespace Go.Proofs.YtlojijllmadnoaaGreatDoor
open Go.Ev
abbrev distV (k n m : Int) (sa : Bool) (na da : List Nat) (sb : Bool) (nb db : List Nat) : SV :=
 .agg [.int .i64 k, .int .i64 n, .int .i64 m, .bool sa, natV na, natV da, .bool sb, natV nb, natV db]
def inD (k n m : Int) (a b : Rat) : Bool :=
 if k = 1 then decide (0 < b) else if k = 2 then decide (0 < a) else if k = 3 then decide (1 <= n) && decide (0 < a)
 else if k = 4 then decide (1 <= n) else if k = 5 then decide (1 <= n) else if k = 6 then decide (1 <= n) && decide (1 <= m) else if k = 7 then decide (1 <= n) && decide (1 <= m)
 else if k = 8 then decide (0 <= n) && (decide (0 <= a) && decide (a <= 1)) else if k = 9 then decide (0 <= a) else false
def gtD (k n m : Int) (a : Rat) : Bool :=
 if k = 3 then decide (256 < n) else if k = 4 then decide (256 < n) else if k = 5 then decide (256 < n) else if k = 6 then decide (256 < n) || decide (256 < m) else if k = 7 then decide (256 < n) || decide (256 < m)
 else if k = 8 then decide (256 < n) else if k = 9 then decide (64 < a) else false
def chkD (k n m : Int) (a b : Rat) : Int := if inD k n m a b then (if gtD k n m a then 7 else 0) else 4
section
variable {k n m : Int} {sa sb : Bool} {na da nb db : List Nat} {a b : Rat} {L : Nat}
theorem dist_above {v : SV} {q : Rat} {L : Nat} (hv : RatA v q L) (hL : 1 <= L) (h : L <= 1048576) (n : Int) (hn : -9223372036854775808 <= n /\ n < 9223372036854775808) : Go.Ev.Fn CX 49 [v, .int .i64 n] (.bool (decide ((n : Rat) < q))) := by
 have hI := rat_Int n hn
 have hC := rat_Cmp hv (RatA_rv (int_szR (n := n) (by omega))) hL (by omega) (by omega)
 obtain ⟨s, x, d, rfl, -⟩ := hv
 refine fni Tryz.f49 ?_; unfold Tryz.f49; simp only [Option.get!_some]
 repeat (first|simp only [go_sem, cmpR_gt]|simp (disch := first|exact oa|fail) only [AX, cmpR_gt]|refine wki ?_|refine wqn ?_|refine vpd 1 [] ?_|refine vf_of (by first|exact hI|exact hC) ?_)
theorem dist_below {v : SV} {q : Rat} {L : Nat} (hv : RatA v q L) (hL : 1 <= L) (h : L <= 1048576) (n : Int) (hn : -9223372036854775808 <= n /\ n < 9223372036854775808) : Go.Ev.Fn CX 50 [v, .int .i64 n] (.bool (decide (q < (n : Rat)))) := by
 have hI := rat_Int n hn
 have hC := rat_Cmp hv (RatA_rv (int_szR (n := n) (by omega))) hL (by omega) (by omega)
 obtain ⟨s, x, d, rfl, -⟩ := hv
 refine fni Tryz.f50 ?_; unfold Tryz.f50; simp only [Option.get!_some]
 repeat (first|simp only [go_sem, cmpR_lt]|simp (disch := first|exact oa|fail) only [AX, cmpR_lt]|refine wki ?_|refine wqn ?_|refine vpd 1 [] ?_|refine vf_of (by first|exact hI|exact hC) ?_)
theorem kinds (k : Int) : k = 1 \/ k = 2 \/ k = 3 \/ k = 4 \/ k = 5 \/ k = 6 \/ k = 7 \/ k = 8 \/ k = 9 \/ (k ≠ 1 /\ k ≠ 2 /\ k ≠ 3 /\ k ≠ 4 /\ k ≠ 5 /\ k ≠ 6 /\ k ≠ 7 /\ k ≠ 8 /\ k ≠ 9) := by omega
theorem not_lt_dec {q r : Rat} : (!decide (q < r)) = decide (r <= q) := by
 by_cases h : q < r
 ·rw [decide_eq_true h, decide_eq_false (show ¬ r <= q by grind)]; rfl
 ·rw [decide_eq_false h, decide_eq_true (show r <= q by grind)]; rfl
theorem dist_isDomain (hA : RatA (ratV sa na da) a L) (hB : RatA (ratV sb nb db) b L) (hL : 1 <= L) (h : L <= 1048576) : Go.Ev.Fn CX 22 [distV k n m sa na da sb nb db] (.bool (inD k n m a b)) := by
 have a0 := dist_above hA hL h 0 (by omega)
 have a1 := dist_above hA hL h 1 (by omega)
 have b0 := dist_above hB hL h 0 (by omega)
 have l0 := dist_below hA hL h 0 (by omega)
 rw [show ((0 : Int) : Rat) = 0 from rfl] at a0 b0 l0
 rw [show ((1 : Int) : Rat) = 1 from rfl] at a1
 refine fni Tryz.f22 ?_; unfold Tryz.f22; simp only [Option.get!_some]
 rcases kinds k with rfl | rfl | rfl | rfl | rfl | rfl | rfl | rfl | rfl | ⟨k1, k2, k3, k4, k5, k6, k7, k8, k9⟩
 ·repeat (first|simp only [go_sem]|simp (disch := first|exact oa|fail) only [AX]|refine wki ?_|refine wqn ?_)
  refine vf_of (b0) ?_; repeat (first|simp only [go_sem]|simp (disch := first|exact oa|fail) only [AX]|refine wki ?_|refine wqn ?_)
  rfl
 ·repeat (first|simp only [go_sem]|simp (disch := first|exact oa|fail) only [AX]|refine wki ?_|refine wqn ?_)
  refine vf_of (a0) ?_; repeat (first|simp only [go_sem]|simp (disch := first|exact oa|fail) only [AX]|refine wki ?_|refine wqn ?_)
  rfl
 ·rw [show inD 3 n m a b = (decide (1 <= n) && decide (0 < a)) from rfl]
  by_cases hn : 1 <= n
  ·rw [decide_eq_true hn, Bool.true_and]
   repeat (first|simp only [go_sem]|simp (disch := first|exact oa|fail) only [AX]|refine wki ?_|refine wqn ?_|refine vf_of (by first|exact a0) ?_)
  ·rw [decide_eq_false hn, Bool.false_and]
   repeat (first|simp only [go_sem]|simp (disch := first|exact oa|fail) only [AX]|refine wki ?_|refine wqn ?_)
 ·rw [show inD 4 n m a b = decide (1 <= n) from rfl]
  repeat (first|simp only [go_sem]|simp (disch := first|exact oa|fail) only [AX]|refine wki ?_|refine wqn ?_)
 ·rw [show inD 5 n m a b = decide (1 <= n) from rfl]
  repeat (first|simp only [go_sem]|simp (disch := first|exact oa|fail) only [AX]|refine wki ?_|refine wqn ?_)
 ·rw [show inD 6 n m a b = (decide (1 <= n) && decide (1 <= m)) from rfl]
  by_cases hn : 1 <= n
  ·rw [decide_eq_true hn, Bool.true_and]
   repeat (first|simp only [go_sem]|simp (disch := first|exact oa|fail) only [AX]|refine wki ?_|refine wqn ?_)
  ·rw [decide_eq_false hn, Bool.false_and]
   repeat (first|simp only [go_sem]|simp (disch := first|exact oa|fail) only [AX]|refine wki ?_|refine wqn ?_)
 ·rw [show inD 7 n m a b = (decide (1 <= n) && decide (1 <= m)) from rfl]
  by_cases hn : 1 <= n
  ·rw [decide_eq_true hn, Bool.true_and]
   repeat (first|simp only [go_sem]|simp (disch := first|exact oa|fail) only [AX]|refine wki ?_|refine wqn ?_)
  ·rw [decide_eq_false hn, Bool.false_and]
   repeat (first|simp only [go_sem]|simp (disch := first|exact oa|fail) only [AX]|refine wki ?_|refine wqn ?_)
 ·rw [show inD 8 n m a b = (decide (0 <= n) && (decide (0 <= a) && decide (a <= 1))) from rfl]
  by_cases hn : 0 <= n
  ·rw [decide_eq_true hn, Bool.true_and]
   by_cases ha : a < 0
   ·rw [decide_eq_true ha] at l0
    rw [decide_eq_false (show ¬ 0 <= a by grind), Bool.false_and]
    repeat (first|simp only [go_sem, Bool.not_true]|simp (disch := first|exact oa|fail) only [AX, Bool.not_true]|refine wki ?_|refine wqn ?_|refine vf_of (by first|exact l0) ?_)
   ·rw [decide_eq_false ha] at l0
    rw [decide_eq_true (show 0 <= a by grind), Bool.true_and]
    repeat (first|simp only [go_sem, Bool.not_false, not_lt_dec]|simp (disch := first|exact oa|fail) only [AX, Bool.not_false, not_lt_dec]|refine wki ?_|refine wqn ?_|refine vf_of (by first|exact l0|exact a1) ?_)
  ·rw [decide_eq_false hn, Bool.false_and]
   repeat (first|simp only [go_sem]|simp (disch := first|exact oa|fail) only [AX]|refine wki ?_|refine wqn ?_)
 ·rw [show inD 9 n m a b = decide (0 <= a) from rfl]
  repeat (first|simp only [go_sem, not_lt_dec]|simp (disch := first|exact oa|fail) only [AX, not_lt_dec]|refine wki ?_|refine wqn ?_|refine vf_of (by first|exact l0) ?_)
 ·have e : inD k n m a b = false := by
   unfold inD
   rw [if_neg k1, if_neg k2, if_neg k3, if_neg k4, if_neg k5, if_neg k6, if_neg k7, if_neg k8, if_neg k9]
  rw [e]
  repeat (first|simp only [go_sem]|simp (disch := first|exact oa|fail) only [AX]|refine wki ?_|refine wqn ?_)
theorem max_gt (n m : Int) : decide ((if m > n then m else n) > 256) = (decide (256 < n) || decide (256 < m)) := by
 rw [<- Bool.decide_or]
 congr 1
 split <;> (apply propext; omega)
theorem dist_isGreat (hA : RatA (ratV sa na da) a L) (hL : 1 <= L) (h : L <= 1048576) : Go.Ev.Fn CX 23 [distV k n m sa na da sb nb db] (.bool (gtD k n m a)) := by
 have a64 := dist_above hA hL h 64 (by omega)
 rw [show ((64 : Int) : Rat) = 64 from rfl] at a64
 refine fni Tryz.f23 ?_; unfold Tryz.f23; simp only [Option.get!_some]
 rcases kinds k with rfl | rfl | rfl | rfl | rfl | rfl | rfl | rfl | rfl | ⟨k1, k2, k3, k4, k5, k6, k7, k8, k9⟩
 ·repeat (first|simp only [go_sem]|simp (disch := first|exact oa|fail) only [AX]|refine wki ?_|refine wqn ?_)
  rfl
 ·repeat (first|simp only [go_sem]|simp (disch := first|exact oa|fail) only [AX]|refine wki ?_|refine wqn ?_)
  rfl
 ·repeat (first|simp only [go_sem]|simp (disch := first|exact oa|fail) only [AX]|refine wki ?_|refine wqn ?_)
  rfl
 ·repeat (first|simp only [go_sem]|simp (disch := first|exact oa|fail) only [AX]|refine wki ?_|refine wqn ?_)
  rfl
 ·repeat (first|simp only [go_sem]|simp (disch := first|exact oa|fail) only [AX]|refine wki ?_|refine wqn ?_)
  rfl
 ·repeat (first|simp only [go_sem, max_gt]|simp (disch := first|exact oa|fail) only [AX, max_gt]|refine wki ?_|refine wqn ?_)
  rfl
 ·repeat (first|simp only [go_sem, max_gt]|simp (disch := first|exact oa|fail) only [AX, max_gt]|refine wki ?_|refine wqn ?_)
  rfl
 ·repeat (first|simp only [go_sem]|simp (disch := first|exact oa|fail) only [AX]|refine wki ?_|refine wqn ?_)
  rfl
 ·repeat (first|simp only [go_sem]|simp (disch := first|exact oa|fail) only [AX]|refine wki ?_|refine wqn ?_)
  refine vf_of (a64) ?_; repeat (first|simp only [go_sem]|simp (disch := first|exact oa|fail) only [AX]|refine wki ?_|refine wqn ?_)
  rfl
 ·have e : gtD k n m a = false := by
   unfold gtD
   rw [if_neg k3, if_neg k4, if_neg k5, if_neg k6, if_neg k7, if_neg k8, if_neg k9]
  rw [e]
  repeat (first|simp only [go_sem]|simp (disch := first|exact oa|fail) only [AX]|refine wki ?_|refine wqn ?_)
theorem dist_Check (hA : RatA (ratV sa na da) a L) (hB : RatA (ratV sb nb db) b L) (hL : 1 <= L) (h : L <= 1048576) : Go.Ev.Fn CX 9 [distV k n m sa na da sb nb db] (.int .i64 (chkD k n m a b)) := by
 have h1 := dist_isDomain (k := k) (n := n) (m := m) hA hB hL h
 have h2 := dist_isGreat (k := k) (n := n) (m := m) (sb := sb) (nb := nb) (db := db) hA hL h
 unfold chkD
 refine fni Tryz.f9 ?_; unfold Tryz.f9; simp only [Option.get!_some]
 generalize inD k n m a b = i at *
 generalize gtD k n m a = g at *
 cases i
 ·repeat (first|simp only [go_sem]|simp (disch := first|exact oa|fail) only [AX]|refine wki ?_|refine wqn ?_)
  refine vf_of (h1) ?_; repeat (first|simp only [go_sem, Bool.not_false]|simp (disch := first|exact oa|fail) only [AX, Bool.not_false]|refine wki ?_|refine wqn ?_)
 ·cases g
  ·repeat (first|simp only [go_sem]|simp (disch := first|exact oa|fail) only [AX]|refine wki ?_|refine wqn ?_)
   repeat (first|simp only [go_sem, Bool.not_true]|simp (disch := first|exact oa|fail) only [AX, Bool.not_true]|refine wki ?_|refine wqn ?_|refine vf_of (by first|exact h1|exact h2) ?_)
  ·repeat (first|simp only [go_sem]|simp (disch := first|exact oa|fail) only [AX]|refine wki ?_|refine wqn ?_)
   repeat (first|simp only [go_sem, Bool.not_true]|simp (disch := first|exact oa|fail) only [AX, Bool.not_true]|refine wki ?_|refine wqn ?_|refine vf_of (by first|exact h1|exact h2) ?_)
theorem ref14_positive {v : SV} {q : Rat} {L : Nat} (hv : RatA v q L) (hL : 1 <= L) (h : L <= 1048576) : Go.Ev.Fn CX 30 [v] (.bool (decide (0 < q))) := by
 have hI := ref2_Int 0 (by omega)
 have hC := ref2_Cmp hv (RatA_rv (int_szR (n := 0) (by omega))) hL (by omega) (by omega)
 rw [show ((0 : Int) : Rat) = 0 from rfl] at hI hC
 obtain ⟨s, x, d, rfl, -⟩ := hv
 refine fni Tryz.f30 ?_; unfold Tryz.f30; simp only [Option.get!_some]
 repeat (first|simp only [go_sem, cmpR_gt]|simp (disch := first|exact oa|fail) only [AX, cmpR_gt]|refine wki ?_|refine wqn ?_|refine vpd 1 [] ?_|refine vf_of (by first|exact hI|exact hC) ?_)
theorem ref14_in (hA : RatA (ratV sa na da) a L) (hB : RatA (ratV sb nb db) b L) (hL : 1 <= L) (h : L <= 524288) : Go.Ev.Fn CX 29 [distV k n m sa na da sb nb db] (.bool (inD k n m a b)) := by
 have pA := ref14_positive hA hL (by omega)
 have pB := ref14_positive hB hL (by omega)
 have hN := ref2_Neg hA hL (by omega)
 have zA := szR_of hA hL
 have pN := ref14_positive (RatA_rv (szR_neg zA)) hL (by omega)
 have hI := ref2_Int 1 (by omega)
 have z1 := int_szR (n := 1) (by omega)
 have hS := ref2_Sub hA (RatA_rv z1) hL (by omega) (by omega)
 have pS := ref14_positive (RatA_rv (szR_sub zA z1 hL)) (by omega) (by omega)
 rw [show ((1 : Int) : Rat) = 1 from rfl] at hI hS pS
 have eN : (!decide (0 < -a)) = decide (0 <= a) := by
  rw [not_lt_dec]; exact decide_eq_decide.2 ⟨fun h => by grind, fun h => by grind⟩
 have eS : (!decide (0 < a - 1)) = decide (a <= 1) := by
  rw [not_lt_dec]; exact decide_eq_decide.2 ⟨fun h => by grind, fun h => by grind⟩
 refine fni Tryz.f29 ?_; unfold Tryz.f29; simp only [Option.get!_some]
 rcases kinds k with rfl | rfl | rfl | rfl | rfl | rfl | rfl | rfl | rfl | ⟨k1, k2, k3, k4, k5, k6, k7, k8, k9⟩
 ·repeat (first|simp only [go_sem]|simp (disch := first|exact oa|fail) only [AX]|refine wki ?_|refine wqn ?_|refine vpd 15 [] ?_)
  refine vf_of (pB) ?_; repeat (first|simp only [go_sem]|simp (disch := first|exact oa|fail) only [AX]|refine wki ?_|refine wqn ?_|refine vpd 15 [] ?_)
  rfl
 ·repeat (first|simp only [go_sem]|simp (disch := first|exact oa|fail) only [AX]|refine wki ?_|refine wqn ?_|refine vpd 15 [] ?_)
  refine vf_of (pA) ?_; repeat (first|simp only [go_sem]|simp (disch := first|exact oa|fail) only [AX]|refine wki ?_|refine wqn ?_|refine vpd 15 [] ?_)
  rfl
 ·rw [show inD 3 n m a b = (decide (1 <= n) && decide (0 < a)) from rfl, Bool.and_comm]
  by_cases ha : 0 < a
  ·rw [decide_eq_true ha] at pA ⊢
   rw [Bool.true_and]
   repeat (first|simp only [go_sem]|simp (disch := first|exact oa|fail) only [AX]|refine wki ?_|refine wqn ?_|refine vpd 15 [] ?_|refine vf_of (by first|exact pA) ?_)
  ·rw [decide_eq_false ha] at pA ⊢
   rw [Bool.false_and]
   repeat (first|simp only [go_sem]|simp (disch := first|exact oa|fail) only [AX]|refine wki ?_|refine wqn ?_|refine vpd 15 [] ?_|refine vf_of (by first|exact pA) ?_)
 ·rw [show inD 4 n m a b = decide (1 <= n) from rfl]
  repeat (first|simp only [go_sem]|simp (disch := first|exact oa|fail) only [AX]|refine wki ?_|refine wqn ?_|refine vpd 15 [] ?_)
 ·rw [show inD 5 n m a b = decide (1 <= n) from rfl]
  repeat (first|simp only [go_sem]|simp (disch := first|exact oa|fail) only [AX]|refine wki ?_|refine wqn ?_|refine vpd 15 [] ?_)
 ·rw [show inD 6 n m a b = (decide (1 <= n) && decide (1 <= m)) from rfl]
  by_cases hn : 1 <= n
  ·rw [decide_eq_true hn, Bool.true_and]
   repeat (first|simp only [go_sem]|simp (disch := first|exact oa|fail) only [AX]|refine wki ?_|refine wqn ?_|refine vpd 15 [] ?_)
  ·rw [decide_eq_false hn, Bool.false_and]
   repeat (first|simp only [go_sem]|simp (disch := first|exact oa|fail) only [AX]|refine wki ?_|refine wqn ?_|refine vpd 15 [] ?_)
 ·rw [show inD 7 n m a b = (decide (1 <= n) && decide (1 <= m)) from rfl]
  by_cases hn : 1 <= n
  ·rw [decide_eq_true hn, Bool.true_and]
   repeat (first|simp only [go_sem]|simp (disch := first|exact oa|fail) only [AX]|refine wki ?_|refine wqn ?_|refine vpd 15 [] ?_)
  ·rw [decide_eq_false hn, Bool.false_and]
   repeat (first|simp only [go_sem]|simp (disch := first|exact oa|fail) only [AX]|refine wki ?_|refine wqn ?_|refine vpd 15 [] ?_)
 ·rw [show inD 8 n m a b = (decide (0 <= n) && (decide (0 <= a) && decide (a <= 1))) from rfl, <- eN, <- eS]
  by_cases hn : 0 <= n
  ·rw [decide_eq_true hn, Bool.true_and]
   cases hp : decide (0 < -a)
   ·rw [hp] at pN
    repeat (first|simp only [go_sem, Bool.not_false]|simp (disch := first|exact oa|fail) only [AX, Bool.not_false]|refine wki ?_|refine wqn ?_|refine vpd 15 [] ?_|refine vf_of (by first|exact hN|exact pN|exact hI|exact hS|exact pS) ?_)
   ·rw [hp] at pN
    repeat (first|simp only [go_sem, Bool.not_true]|simp (disch := first|exact oa|fail) only [AX, Bool.not_true]|refine wki ?_|refine wqn ?_|refine vpd 15 [] ?_|refine vf_of (by first|exact hN|exact pN) ?_)
    rfl
  ·rw [decide_eq_false hn, Bool.false_and]
   repeat (first|simp only [go_sem]|simp (disch := first|exact oa|fail) only [AX]|refine wki ?_|refine wqn ?_|refine vpd 15 [] ?_)
 ·rw [show inD 9 n m a b = decide (0 <= a) from rfl]
  repeat (first|simp only [go_sem, eN]|simp (disch := first|exact oa|fail) only [AX, eN]|refine wki ?_|refine wqn ?_|refine vpd 15 [] ?_|refine vf_of (by first|exact hN|exact pN) ?_)
 ·have e : inD k n m a b = false := by
   unfold inD
   rw [if_neg k1, if_neg k2, if_neg k3, if_neg k4, if_neg k5, if_neg k6, if_neg k7, if_neg k8, if_neg k9]
  rw [e]
  repeat (first|simp only [go_sem]|simp (disch := first|exact oa|fail) only [AX]|refine wki ?_|refine wqn ?_|refine vpd 15 [] ?_)
theorem ref14_Check (hA : RatA (ratV sa na da) a L) (hB : RatA (ratV sb nb db) b L) (hL : 1 <= L) (h : L <= 524288) : Go.Ev.Fn CX 13 [distV k n m sa na da sb nb db] (.int .i64 (chkD k n m a b)) := by
 have h1 := ref14_in (k := k) (n := n) (m := m) hA hB hL h
 have hI := ref2_Int 64 (by omega)
 have z1 := int_szR (n := 64) (by omega)
 have zA := szR_of hA hL
 have hS := ref2_Sub hA (RatA_rv z1) hL (by omega) (by omega)
 have pS := ref14_positive (RatA_rv (szR_sub zA z1 hL)) (by omega) (by omega)
 rw [show ((64 : Int) : Rat) = 64 from rfl] at hI hS pS
 have eS : decide (0 < a - 64) = decide (64 < a) := decide_eq_decide.2 ⟨fun h => by grind, fun h => by grind⟩
 rw [eS] at pS
 unfold chkD
 refine fni Tryz.f13 ?_; unfold Tryz.f13; simp only [Option.get!_some]
 generalize inD k n m a b = i at *
 cases i
 ·repeat (first|simp only [go_sem]|simp (disch := first|exact oa|fail) only [AX]|refine wki ?_|refine wqn ?_|refine vpd 17 [] ?_)
  refine vf_of (h1) ?_; repeat (first|simp only [go_sem, Bool.not_false]|simp (disch := first|exact oa|fail) only [AX, Bool.not_false]|refine wki ?_|refine wqn ?_|refine vpd 17 [] ?_)
 rw [if_pos rfl]
 rcases kinds k with rfl | rfl | rfl | rfl | rfl | rfl | rfl | rfl | rfl | ⟨k1, k2, k3, k4, k5, k6, k7, k8, k9⟩
 ·repeat (first|simp only [go_sem]|simp (disch := first|exact oa|fail) only [AX]|refine wki ?_|refine wqn ?_|refine vpd 17 [] ?_)
  refine vf_of (h1) ?_; repeat (first|simp only [go_sem, Bool.not_true]|simp (disch := first|exact oa|fail) only [AX, Bool.not_true]|refine wki ?_|refine wqn ?_|refine vpd 17 [] ?_)
  rfl
 ·repeat (first|simp only [go_sem]|simp (disch := first|exact oa|fail) only [AX]|refine wki ?_|refine wqn ?_|refine vpd 17 [] ?_)
  refine vf_of (h1) ?_; repeat (first|simp only [go_sem, Bool.not_true]|simp (disch := first|exact oa|fail) only [AX, Bool.not_true]|refine wki ?_|refine wqn ?_|refine vpd 17 [] ?_)
  rfl
 ·rw [show gtD 3 n m a = decide (256 < n) from rfl]
  by_cases hn : 256 < n
  ·repeat (first|simp only [go_sem]|simp (disch := first|exact oa|fail) only [AX]|refine wki ?_|refine wqn ?_|refine vpd 17 [] ?_)
   refine vf_of (h1) ?_; repeat (first|simp only [go_sem, Bool.not_true]|simp (disch := first|exact oa|fail) only [AX, Bool.not_true]|refine wki ?_|refine wqn ?_|refine vpd 17 [] ?_)
  ·repeat (first|simp only [go_sem]|simp (disch := first|exact oa|fail) only [AX]|refine wki ?_|refine wqn ?_|refine vpd 17 [] ?_)
   refine vf_of (h1) ?_; repeat (first|simp only [go_sem, Bool.not_true]|simp (disch := first|exact oa|fail) only [AX, Bool.not_true]|refine wki ?_|refine wqn ?_|refine vpd 17 [] ?_)
 ·rw [show gtD 4 n m a = decide (256 < n) from rfl]
  by_cases hn : 256 < n
  ·repeat (first|simp only [go_sem]|simp (disch := first|exact oa|fail) only [AX]|refine wki ?_|refine wqn ?_|refine vpd 17 [] ?_)
   refine vf_of (h1) ?_; repeat (first|simp only [go_sem, Bool.not_true]|simp (disch := first|exact oa|fail) only [AX, Bool.not_true]|refine wki ?_|refine wqn ?_|refine vpd 17 [] ?_)
  ·repeat (first|simp only [go_sem]|simp (disch := first|exact oa|fail) only [AX]|refine wki ?_|refine wqn ?_|refine vpd 17 [] ?_)
   refine vf_of (h1) ?_; repeat (first|simp only [go_sem, Bool.not_true]|simp (disch := first|exact oa|fail) only [AX, Bool.not_true]|refine wki ?_|refine wqn ?_|refine vpd 17 [] ?_)
 ·rw [show gtD 5 n m a = decide (256 < n) from rfl]
  by_cases hn : 256 < n
  ·repeat (first|simp only [go_sem]|simp (disch := first|exact oa|fail) only [AX]|refine wki ?_|refine wqn ?_|refine vpd 17 [] ?_)
   refine vf_of (h1) ?_; repeat (first|simp only [go_sem, Bool.not_true]|simp (disch := first|exact oa|fail) only [AX, Bool.not_true]|refine wki ?_|refine wqn ?_|refine vpd 17 [] ?_)
  ·repeat (first|simp only [go_sem]|simp (disch := first|exact oa|fail) only [AX]|refine wki ?_|refine wqn ?_|refine vpd 17 [] ?_)
   refine vf_of (h1) ?_; repeat (first|simp only [go_sem, Bool.not_true]|simp (disch := first|exact oa|fail) only [AX, Bool.not_true]|refine wki ?_|refine wqn ?_|refine vpd 17 [] ?_)
 ·rw [show gtD 6 n m a = (decide (256 < n) || decide (256 < m)) from rfl]
  by_cases hn : 256 < n
  ·repeat (first|simp only [go_sem]|simp (disch := first|exact oa|fail) only [AX]|refine wki ?_|refine wqn ?_|refine vpd 17 [] ?_)
   refine vf_of (h1) ?_; repeat (first|simp only [go_sem, Bool.not_true]|simp (disch := first|exact oa|fail) only [AX, Bool.not_true]|refine wki ?_|refine wqn ?_|refine vpd 17 [] ?_)
   rfl
  ·by_cases hm : 256 < m
   ·repeat (first|simp only [go_sem]|simp (disch := first|exact oa|fail) only [AX]|refine wki ?_|refine wqn ?_|refine vpd 17 [] ?_)
    refine vf_of (h1) ?_; repeat (first|simp only [go_sem, Bool.not_true]|simp (disch := first|exact oa|fail) only [AX, Bool.not_true]|refine wki ?_|refine wqn ?_|refine vpd 17 [] ?_)
    rfl
   ·repeat (first|simp only [go_sem]|simp (disch := first|exact oa|fail) only [AX]|refine wki ?_|refine wqn ?_|refine vpd 17 [] ?_)
    refine vf_of (h1) ?_; repeat (first|simp only [go_sem, Bool.not_true]|simp (disch := first|exact oa|fail) only [AX, Bool.not_true]|refine wki ?_|refine wqn ?_|refine vpd 17 [] ?_)
    rfl
 ·rw [show gtD 7 n m a = (decide (256 < n) || decide (256 < m)) from rfl]
  by_cases hn : 256 < n
  ·repeat (first|simp only [go_sem]|simp (disch := first|exact oa|fail) only [AX]|refine wki ?_|refine wqn ?_|refine vpd 17 [] ?_)
   refine vf_of (h1) ?_; repeat (first|simp only [go_sem, Bool.not_true]|simp (disch := first|exact oa|fail) only [AX, Bool.not_true]|refine wki ?_|refine wqn ?_|refine vpd 17 [] ?_)
   rfl
  ·by_cases hm : 256 < m
   ·repeat (first|simp only [go_sem]|simp (disch := first|exact oa|fail) only [AX]|refine wki ?_|refine wqn ?_|refine vpd 17 [] ?_)
    refine vf_of (h1) ?_; repeat (first|simp only [go_sem, Bool.not_true]|simp (disch := first|exact oa|fail) only [AX, Bool.not_true]|refine wki ?_|refine wqn ?_|refine vpd 17 [] ?_)
    rfl
   ·repeat (first|simp only [go_sem]|simp (disch := first|exact oa|fail) only [AX]|refine wki ?_|refine wqn ?_|refine vpd 17 [] ?_)
    refine vf_of (h1) ?_; repeat (first|simp only [go_sem, Bool.not_true]|simp (disch := first|exact oa|fail) only [AX, Bool.not_true]|refine wki ?_|refine wqn ?_|refine vpd 17 [] ?_)
    rfl
 ·rw [show gtD 8 n m a = decide (256 < n) from rfl]
  by_cases hn : 256 < n
  ·repeat (first|simp only [go_sem]|simp (disch := first|exact oa|fail) only [AX]|refine wki ?_|refine wqn ?_|refine vpd 17 [] ?_)
   refine vf_of (h1) ?_; repeat (first|simp only [go_sem, Bool.not_true]|simp (disch := first|exact oa|fail) only [AX, Bool.not_true]|refine wki ?_|refine wqn ?_|refine vpd 17 [] ?_)
  ·repeat (first|simp only [go_sem]|simp (disch := first|exact oa|fail) only [AX]|refine wki ?_|refine wqn ?_|refine vpd 17 [] ?_)
   refine vf_of (h1) ?_; repeat (first|simp only [go_sem, Bool.not_true]|simp (disch := first|exact oa|fail) only [AX, Bool.not_true]|refine wki ?_|refine wqn ?_|refine vpd 17 [] ?_)
 ·rw [show gtD 9 n m a = decide (64 < a) from rfl]
  cases hd : decide (64 < a)
  ·rw [hd] at pS
   repeat (first|simp only [go_sem, Bool.not_true]|simp (disch := first|exact oa|fail) only [AX, Bool.not_true]|refine wki ?_|refine wqn ?_|refine vpd 17 [] ?_|refine vf_of (by first|exact h1|exact hI|exact hS|exact pS) ?_)
  ·rw [hd] at pS
   repeat (first|simp only [go_sem, Bool.not_true]|simp (disch := first|exact oa|fail) only [AX, Bool.not_true]|refine wki ?_|refine wqn ?_|refine vpd 17 [] ?_|refine vf_of (by first|exact h1|exact hI|exact hS|exact pS) ?_)
 ·have e : gtD k n m a = false := by
   unfold gtD
   rw [if_neg k3, if_neg k4, if_neg k5, if_neg k6, if_neg k7, if_neg k8, if_neg k9]
  rw [e]
  repeat (first|simp only [go_sem, Bool.not_true]|simp (disch := first|exact oa|fail) only [AX, Bool.not_true]|refine wki ?_|refine wqn ?_|refine vpd 17 [] ?_|refine vf_of (by first|exact h1) ?_)
end
end Go.Proofs.YtlojijllmadnoaaGreatDoor
